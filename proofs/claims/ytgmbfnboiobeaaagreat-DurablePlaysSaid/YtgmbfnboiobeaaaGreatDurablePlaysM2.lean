/- Texts of the claim DurablePlays, one behind the other. -/
import Derived.Test.YtgmbfnboiobeaaaGreatDurablePlaysM1
import Derived.Lib.Overlaps
import Derived.MapKept
import GoSem.Instr.MapUpdate
set_option linter.all false
set_option maxRecDepth 100000
namespace Go.Sep
section
open Go Go.RowKit
def zHf (P:Program) (T U E esz:Nat):Bool:=sliceT P T E esz && zMJ P U && match P.info? E with
 | some i=>Nat.ble i.bytes 1000 && !Nat.beq i.bytes 0 && match i.zero with
  | some z=>Nat.beq z.cells.size esz && z.cells.toList.all qC
  | none=>false
 | none=>false
theorem zEH {P:Program} {T U E esz:Nat} (h:zHf P T U E esz = true):sliceT P T E esz = true∧zMJ P U = true∧∃ n zv,zIb P E n = true∧n ≤ 1000∧n ≠ 0∧zBx P E zv∧zv.cells.size = esz∧∀ v ∈ zv.cells.toList,qC v = true:=by
 unfold zHf at h
 simp only [Bool.and_eq_true] at h
 obtain ⟨⟨h1,h2⟩,h3⟩:=h
 refine ⟨h1,h2,?_⟩
 split at h3
 ·rename_i i hi
  simp only [Bool.and_eq_true,Bool.not_eq_true'] at h3
  obtain ⟨⟨h4,h5⟩,h6⟩:=h3
  split at h6
  ·rename_i z hz
   simp only [Bool.and_eq_true] at h6
   refine ⟨i.bytes,z,by unfold zIb; rw [hi]; simp,Nat.le_of_ble_eq_true h4,(fun e=>by rw [e] at h5; cases h5),⟨i,hi,hz⟩,Nat.eq_of_beq_eq_true h6.1,List.all_eq_true.1 h6.2⟩
  ·cases h6
 ·cases h3
def zUL (P:Program) (T U E esz:Nat):Bool:=zHf P T T E esz && match P.underlying U with
 | some (.int _)=>true
 | _=>false
section
variable {P:Program} {B w:World} {Γ Δ:List zB} {E esz:Nat} {s x:Sl} {vs us:List Value}
theorem zBO {T U Tr:Nat} {k:Sl→K} (hx:∀ w,Holds B Γ w→RdC w x esz us) (hfl:∀ u ∈ us,qC u = true) (hroom:s.n + x.n ≤ 100000000) (h:∀ s',s'.n = s.n + x.n→HG B (SlC E esz s' (vs++us)::Δ) (k s')) [p:zCs s Γ (SlC E esz s vs) Δ] (hT:zHf P T U E esz = true:=by kernel_rfl) :
  HG B Γ (Do P (Builtin.append_ #[T,U] Tr #[s.val,x.val]) Sl.val k):=fun w hw=>by
 obtain ⟨h1,h2,n,zv,h3,h4,h5,h6,h7,_⟩:=zEH hT
 refine zA7 (hw.perm p.perm) h1 h2 h3 h6 h7 (hx w hw) hfl ?_ h5 fun s' w' h' hn _=>h s' hn w' h'
 have h8:(2 * (s.n + x.n) + 800) * n ≤ 200000800 * 1000:=Nat.mul_le_mul (by omega) h4
 omega
theorem zKe {T U Tr m:Nat} {us:List Value} {k:Sl→K} (h:∀ s',s'.n = s.n + m→HG B (SlC E esz s' (vs++us)::Δ) (k s')) [p:zCs s Γ (SlC E esz s vs) Δ] (hn:s.n + m ≤ 100000000:=by omega) (hl:us.length = m * esz:=by rfl) (hfl:us.all qC = true:=by rfl) (hT:zHf P T U E esz = true:=by kernel_rfl) :
  HG B Γ (New E us.toArray fun t=>Do P (Builtin.append_ #[T,U] Tr #[s.val,Sl.val (Sl.mk (some t) m m)]) Sl.val k):=ql fun b=>by
 refine zBO (us:=us) (fun w hw=>RdC.zD2 hw List.mem_cons_self (by simp) hl m) (zHc hfl) (by simp only; omega) (hT:=hT) fun s' hs'=>?_
 exact zI (Δ:=SlC E esz s' (vs++us)::Δ) (h s' hs')
theorem zNd {a:Option Addr} {n c m:Nat} (hm:n + m ≤ c) {g:Hp} (h:SlC E esz ⟨a,n,c⟩ vs g):∃ js:List Value,js.length = m * esz∧SlC E esz ⟨a,n + m,c⟩ (vs++js) g:=by
 obtain ⟨hl,hc,hs⟩:=h
 simp only at hl hc hs
 cases a with
 | none=>
  simp only at hs
  have h0:n = 0∧m = 0:=by omega
  obtain ⟨rfl,rfl⟩:=h0
  exact ⟨[],by simp,by simpa using hl,by simp only; omega,hs⟩
 | some a=>
  obtain ⟨hsp,cs,fz,hb,hf,hsz,hv⟩:=hs
  have hmul:n * esz + m * esz ≤ c * esz:=by rw [← Nat.add_mul]; exact Nat.mul_le_mul_right _ hm
  refine ⟨(cs.toList.drop (a.off + vs.length)).take (m * esz),?_,?_,hm,hsp,cs,fz,hb,hf,hsz,fun i hi=>?_⟩
  ·simp only [List.length_take,List.length_drop,Array.length_toList]; omega
  ·simp only [List.length_append,List.length_take,List.length_drop,Array.length_toList,Nat.add_mul]; omega
  ·rw [List.getElem?_append]
   split
   ·rename_i h1; exact hv i h1
   ·rename_i h1
    simp only [List.length_append,List.length_take,List.length_drop,Array.length_toList] at hi
    rw [List.getElem?_take,if_pos (by omega),List.getElem?_drop,show a.off + vs.length + (i - vs.length) = a.off + i by omega]
    simp
def zCg (vs:List Value) (p:Nat) (us:List Value):List Value:=vs.take p++us++vs.drop (p + us.length)
theorem zMN {p:Nat} (h:p + us.length ≤ vs.length):(zCg vs p us).length = vs.length:=by
 simp only [zCg,List.length_append,List.length_take,List.length_drop]; omega
theorem zMO {a:Addr} {p:Nat} (h:Holds B (SlC E esz s vs::Γ) w) (ha:s.a = some a) (hp:p + us.length ≤ vs.length) (hfl:∀ u ∈ us,qC u = true) :
  ∃ w',setCells (a.add p) us 0 w = w'∧(∀ P:Program,(storeCells (a.add p) us).run P w = .ok () w')∧Holds B (SlC E esz s (zCg vs p us)::Γ) w'∧(∀ i,i < us.length→(∃ u,w.cell? ((a.add p).add i) = some u)∧w.frozen? ((a.add p).add i) = false):=by
 obtain ⟨cs,fz,h2,hsp,hf,hsz,hr,hl,hc⟩:=zNa h ha
 obtain ⟨b,off,sp⟩:=a
 simp only at hsp h2 hf hsz hr; subst hsp
 have hb:=h2.block
 have hmul:vs.length ≤ s.c * esz:=by rw [hl]; exact Nat.mul_le_mul_right _ hc
 have hcell:∀ i,i < us.length→(∃ u,w.cell? (((⟨b,off,none⟩:Addr).add p).add i) = some u)∧w.frozen? (((⟨b,off,none⟩:Addr).add p).add i) = false:=fun i hi=>by
  rw [zR,zR]
  have hlt:off + p + i < cs.size:=by omega
  exact ⟨⟨_,uz hb (Array.getElem?_eq_getElem hlt)⟩,zBT hb (hf _ (by omega) (by omega))⟩
 refine ⟨_,rfl,fun P=>zB7 us 0 w hfl fun j hj=>by simpa using hcell j hj,?_,hcell⟩
 rw [zR,zBd _ _ _ _ _ hb]
 have h3:=h2.setBlock (o':=.cells ((us.zipIdx (off + p + 0)).foldl (fun c q=>c.setIfInBounds q.2 q.1) cs) E fz) rfl
 refine zNb ha h3 ⟨rfl,hf,by rw [fold_size]; exact hsz,fun i hi=>?_,by rw [zMN hp]; exact hl,hc⟩
 rw [zMN hp] at hi
 simp only [Nat.add_zero]
 unfold zCg
 rw [List.append_assoc,List.getElem?_append]
 split
 ·rename_i h1
  simp only [List.length_take] at h1
  rw [zDG _ _ _ _ (by omega),hr i hi,List.getElem?_take,if_pos (by omega)]
 ·rename_i h1
  simp only [List.length_take] at h1 ⊢
  rw [show min p vs.length = p by omega] at h1 ⊢
  rw [List.getElem?_append]
  split
  ·rename_i h4
   rw [show off + i = off + p + (i - p) by omega,zJ5 _ _ _ _ h4 (by omega)]
  ·rename_i h4
   rw [zDG _ _ _ _ (by omega),hr i hi,List.getElem?_drop,show p + us.length + (i - p - us.length) = i by omega]
theorem zUM {i off n:Nat} {us:List Value} {k:K} (h:HG B (SlC E esz s (zCg vs (i * esz + off) us)::Δ) k) [p:zCs s Γ (SlC E esz s vs) Δ] (hn:us.length = n:=by rfl) (hp:i * esz + off + n ≤ vs.length:=by omega) (hfl:us.all qC = true:=by rfl):HG B Γ (StN ((elA s i esz).add off) n us.toArray k):=fun w hw=>by
 have h1:=hw.perm p.perm
 obtain ⟨h2,h3,h4,h5⟩:=zHe hw p
 cases ha:s.a with
 | none=>
  have h6:=h5 ha
  have h7:vs.length = 0:=by rw [h2,show s.n = 0 by omega]; simp
  subst hn
  have h8:us = []:=List.length_eq_zero_iff.1 (by omega)
  subst h8
  refine ⟨w,rfl,by simp,fun i hi=>by simp at hi,by simp,?_⟩
  have e:zCg vs (i * esz + off) [] = vs:=by simp [zCg]
  rw [e] at h
  exact h w h1
 | some a=>
  subst hn
  have e:(elA s i esz).add off = a.add (i * esz + off):=by simp only [elA,ha,Option.getD_some]; rw [add_add' _ (h4 a ha)]
  obtain ⟨w',e1,_,h6,h7⟩:=zMO h1 ha hp (zHc hfl)
  rw [e]
  exact ⟨w',by simpa using e1.symm,by simp,by simpa using h7,by simpa using zHc hfl,h w' h6⟩
theorem zNe {T U t l:Nat} {d:Sl} {us:List Value} {k:Int→K} (hx:∀ w,Holds B Γ w→RdC w x esz us) (hfl:∀ u ∈ us.take ((s.n - l) * esz),qC u = true) (hd:d = ⟨zAB s.a l s.c esz,s.n - l,s.c - l⟩) (hl:l ≤ s.n)
  (h:HG B (SlC E esz s (zCg vs (l * esz) (us.take ((s.n - l) * esz)))::Δ) (k (min x.n (s.n - l):Nat))) [p:zCs s Γ (SlC E esz s vs) Δ] (hT:zHf P T U E esz = true:=by kernel_rfl) :
  HG B Γ (Do P (Builtin.copy_ #[T,U] t #[d.val,x.val]) (Value.int .i64) k):=fun w hw=>by
 have hda:d.a = zAB s.a l s.c esz:=by rw [hd]
 have hdn:d.n = s.n - l:=by rw [hd]
 clear hd
 obtain ⟨hs1,_,_⟩:=zEH hT
 obtain ⟨hsl,hsz⟩:=zAI hs1
 have h1:=hw.perm p.perm
 obtain ⟨h2,h3,h4,h5⟩:=zHe hw p
 have hr:=hx w hw
 have hul:=hr.len
 have hr2:RdC w ⟨x.a,min x.n (s.n - l),x.c⟩ esz (us.take (min x.n (s.n - l) * esz)):=hr.take (Nat.min_le_left _ _)
 have hfc:=zBN (P:=P) hr2
 have hval:∀ m,Builtin.firstCells esz m (Sl.val ⟨x.a,min x.n (s.n - l),x.c⟩) = Builtin.firstCells esz m x.val:=fun m=>by
  obtain ⟨xa,xn,xc⟩:=x; cases xa <;> rfl
 rw [hval] at hfc
 have e0:us.take (min x.n (s.n - l) * esz) = us.take ((s.n - l) * esz):=by
  rcases Nat.le_total x.n (s.n - l) with h6 | h6
  ·rw [Nat.min_eq_left h6,← hul,List.take_length,List.take_of_length_le (by rw [hul]; exact Nat.mul_le_mul_right _ h6)]
  ·rw [Nat.min_eq_right h6]
 rw [e0] at hfc
 have hlen:(us.take ((s.n - l) * esz)).length ≤ (s.n - l) * esz:=by rw [List.length_take]; omega
 have hmul:l * esz + (s.n - l) * esz = vs.length:=by rw [← Nat.add_mul,h2]; congr 1; omega
 have hg0:(#[T,U]:Array TypeId)[0]? = some T:=rfl
 have hv0:(#[d.val,x.val]:Array Value)[0]? = some d.val:=rfl
 have hv1:(#[d.val,x.val]:Array Value)[1]? = some x.val:=rfl
 have hlo:(Builtin.lenOf x.val).run P w = .ok x.n w:=by simp [Builtin.lenOf,Sl.val]
 cases ha:s.a with
 | none=>
  have h6:=h5 ha
  have h7:s.n = 0:=by omega
  have h8:us.take ((s.n - l) * esz) = []:=by rw [h7]; simp
  refine ⟨((min x.n (s.n - l):Nat):Int),w,?_,?_⟩
  rotate_left
  ·rw [h8] at h
   have e:zCg vs (l * esz) [] = vs:=by simp [zCg]
   rw [e] at h
   exact h w h1
  ·unfold Builtin.copy_
   simp only [hg0,hv0,hv1]
   simp only [Sem.run_bind,run_underlying hsl,Result.andThen,Sl.val,jJ hsz]
   simp only [Sl.val] at hlo hfc
   simp only [hlo,Sem.run_bind,Result.andThen,hdn]
   rw [show Nat.min x.n (s.n - l) = min x.n (s.n - l) from rfl,hfc]
   rw [hda]
   simp [zAB,h8,goInt,storeCells]
   split <;> simp
 | some a=>
  have hsp:=h4 a ha
  obtain ⟨w',_,hst',h6,_⟩:=zMO (p:=l * esz) (us:=us.take ((s.n - l) * esz)) h1 ha (by omega) hfl
  have hst:=hst' P
  refine ⟨((min x.n (s.n - l):Nat):Int),w',?_,h w' h6⟩
  unfold Builtin.copy_
  simp only [hg0,hv0,hv1]
  simp only [Sem.run_bind,run_underlying hsl,Result.andThen,Sl.val,jJ hsz]
  simp only [Sl.val] at hlo hfc
  simp only [hlo,Sem.run_bind,Result.andThen,hdn]
  rw [show Nat.min x.n (s.n - l) = min x.n (s.n - l) from rfl,hfc]
  rw [hda,ha]
  by_cases hcl:s.c = l
  ·have h7:s.n - l = 0:=by omega
   have h8:us.take ((s.n - l) * esz) = []:=by rw [h7]; simp
   rw [h8] at hst
   have hw':w' = w:=by simpa [storeCells] using hst.symm
   simp [zAB,hcl,h8,goInt,storeCells,hw']
  ·simp [zAB,hcl,hst,goInt]
theorem zRa {T U Tr:Nat} {us:List Value} {k:Sl→K} (hx:∀ w,Holds B Γ w→RdC w x esz us) (hfl:∀ u ∈ us,qC u = true) (hroom:x.n ≤ 100000000) (h:∀ s',s'.n = x.n→HG B (SlC E esz s' us::Γ) (k s')) (hT:zHf P T U E esz = true:=by kernel_rfl) :
  HG B Γ (New E #[] fun t=>Do P (Builtin.append_ #[T,U] Tr #[Sl.val (Sl.mk (some t) 0 0),x.val]) Sl.val k):=ql fun b=>by
 refine zEi (A':=SlC E esz ⟨some ⟨b,0,none⟩,0,0⟩ []) (zA0 (vs:=[]) rfl (by simp)) ?_
 refine zBO (us:=us) (fun w hw=>hx w hw.tail) hfl (by simp only; omega) (hT:=hT) fun s' hs'=>?_
 have:=h s' (by simpa using hs')
 simpa using this
theorem zYJ {T U Tr:Nat} {m:Int} {k:Sl→K} (hm:0 ≤ m) (hgrow:(s.c:Int) < s.n + m) (hroom:(s.n:Int) + m ≤ 100000000) (h:∀ s' zs,s'.n = s.n + m.toNat→zs.length = m.toNat * esz→(∀ v ∈ zs,qC v = true)→HG B (SlC E esz s' (vs++zs)::Γ) (k s')) (hr:∀ w,Holds B Γ w→RdC w s esz vs) (hsp:s.n ≤ s.c) (hT:zUL P T U E esz = true:=by kernel_rfl) :
  HG B Γ (Do P (Builtin.append_ #[T,U] Tr #[s.val,.int .i64 m]) Sl.val k):=fun w hw=>by
 unfold zUL at hT
 simp only [Bool.and_eq_true] at hT
 obtain ⟨hT,hU⟩:=hT
 obtain ⟨hs1,_,by',zv,hby,hle,hne,hz,hzs,hzf⟩:=zEH hT
 obtain ⟨hsl,hsz⟩:=zAI hs1
 obtain ⟨ib,hib,hbytes⟩:=zJG hby
 obtain ⟨n,rfl⟩:∃ n:Nat,m = n:=⟨m.toNat,by omega⟩
 simp only [Int.toNat_natCast] at h
 obtain ⟨kd,hU'⟩:∃ kd,P.underlying U = some (.int kd):=by
  split at hU
  ·rename_i kd hk; exact ⟨kd,hk⟩
  ·cases hU
 have hti:(typeInfo E).run P w = .ok ib w:=by simp [typeInfo,program,hib,Sem.run]
 have hget:(#[T,U]:Array TypeId)[0]? = some T:=rfl
 have hget1:(#[T,U]:Array TypeId)[1]? = some U:=rfl
 have hv0:(#[s.val,Value.int .i64 (n:Int)]:Array Value)[0]? = some s.val:=rfl
 have hv1:(#[s.val,Value.int .i64 (n:Int)]:Array Value)[1]? = some (Value.int .i64 (n:Int)):=rfl
 have hwr:IntKind.wrap .i64 (n:Int) = n:=wrap64 (by omega) (by omega)
 have hl0:¬ ((n:Int) < 0):=by omega
 have hbig2:¬ ((n:Int) * (ib.bytes:Int) > 2 ^ 48):=by
  rw [hbytes]
  have h1:n * by' ≤ 100000000 * 1000:=Nat.mul_le_mul (by omega) hle
  have h2:((n * by':Nat):Int) ≤ 100000000 * 1000:=by omega
  rw [Int.natCast_mul] at h2
  omega
 have hcap:=zKa (show s.c < s.n + n by omega)
 have hcap2:¬ (Builtin.nextslicecap (s.n + n) s.c * ib.bytes > 2 ^ 48):=by
  rw [hbytes]
  have h1:=Nat.mul_le_mul hcap hle
  have h2:(2 * (s.n + n) + 800) * 1000 ≤ 200000800 * 1000:=Nat.mul_le_mul_right _ (by omega)
  omega
 have hi64:¬ ((s.n + n:Nat):Int) > IntKind.i64.max:=by simp [IntKind.max,IntKind.signed,IntKind.bits]; omega
 have hn:¬ (s.n + n ≤ s.c):=by omega
 have hio:(asIntOf (Value.int .i64 (n:Int))).run P w = .ok (.i64,(n:Int)) w:=by simp [asIntOf]
 show ∃ x w',(Builtin.append_ #[T,U] Tr #[s.val,.int .i64 n]).run P w = .ok (Sl.val x) w'∧k x w'
 unfold Builtin.append_
 simp only [hget,hget1,hv0,hv1]
 simp only [Sem.run_bind,run_underlying hsl,Result.andThen,Sl.val,jJ hsz,run_underlying hU',Sem.run_pure,if_true,asInt,hio,hwr,hl0,if_false,hti,hbig2,Int.toNat_natCast]
 simp only [hn,if_false]
 simp only [Sem.run_bind,hti,Result.andThen]
 rw [if_neg (by rintro ⟨h1,_⟩; exact hi64 h1)]
 simp only [Sem.run_bind,hti,Result.andThen,Sem.run_pure]
 rw [if_neg hcap2]
 obtain ⟨newCap,w1,hch,hle1,hw1⟩:∃ nc w1,(choose (.appendCap (s.n + n) s.c E)).run P w = .ok nc w1∧s.n + n ≤ nc∧w1 = { w with drawn:=w.drawn + 1 }:=by
  refine ⟨(Question.appendCap (s.n + n) s.c E).cut (w.tape w.drawn (.appendCap (s.n + n) s.c E)),_,by simp [choose,Sem.run,Question.forced],?_,rfl⟩
  simp only [Question.cut]; omega
 have hw':Holds B Γ w1:=by rw [hw1]; exact hw.drew _
 have hrs1:=hr w1 hw'
 have hti1:(typeInfo E).run P w1 = .ok ib w1:=by simp [typeInfo,program,hib,Sem.run]
 have hf1:=zBN (P:=P) hrs1
 simp only [Sl.val] at hf1
 obtain ⟨zs,hzl,hzfl,hap⟩:∃ zs:List Value,zs.length = n * esz∧(∀ v ∈ zs,qC v = true)∧(if n * esz = 0 then (pure #[]:Sem (Array Value)) else do pure (Builtin.zeroCells (← zeroValue E).cells n)).run P w1 = .ok zs.toArray w1:=by
  by_cases h0:n * esz = 0
  ·exact ⟨[],by simp [h0],by simp,by simp [h0]⟩
  ·refine ⟨(Builtin.zeroCells zv.cells n).toList,by simp [Builtin.zeroCells,hzs],zKb _ _ hzf,?_⟩
   rw [if_neg h0]
   simp [zBI hz]
 simp only [hch,hti1,run_askRoom,hf1,zBI hz,Sem.run_bind,Result.andThen,Sem.run_pure,newRow,newObj,Sem.run,Bool.not_true,Bool.false_eq_true,if_false] at hap ⊢
 simp only [hap]
 refine ⟨⟨some ⟨w1.heap.size,0,none⟩,s.n + n,newCap⟩,_,rfl,h _ zs rfl (by simpa using hzl) hzfl _ ?_⟩
 have h2:=hw'.alloc (.cells (vs.toArray++zs.toArray++Builtin.zeroCells zv.cells (newCap - (s.n + n))) E)
 have hvl:=hrs1.len
 refine h2.imp fun g hg=>⟨?_,hle1,rfl,_,(0,0),hg,?_,?_,?_⟩
 ·simp [hvl,hzl,Nat.add_mul]
 ·intro i _ _; simp
 ·simp only [Nat.zero_add,Array.size_append,List.size_toArray,hvl,hzl,Builtin.zeroCells,Array.size_map,Array.size_range,hzs]
  rw [← Nat.add_mul,← Nat.add_mul]
  exact Nat.mul_le_mul_right _ (by omega)
 ·intro i hi
  simp only [Nat.zero_add]
  rw [Array.getElem?_append_left (by simpa using hi)]
  simp [List.getElem?_append,Array.getElem?_append]
theorem zCh {lo hi mx:Nat} {l h' m:Int} {ks:Sl→K} (h:HG B Γ (ks ⟨zAB s.a lo mx esz,hi - lo,mx - lo⟩)) (hl:l = (lo:Int):=by first | rfl | omega) (hh:h' = (hi:Int):=by first | rfl | omega) (hm:m = (mx:Int):=by first | rfl | omega) (h1:lo ≤ hi:=by omega) (h2:hi ≤ mx:=by omega) (h3:mx ≤ s.c:=by omega) :
  HG B Γ (Slc s l h' m esz ks):=fun w hw=>by
 subst hl; subst hh; subst hm
 exact ⟨_,by omega,by omega,by omega,by omega,by simp,h w hw⟩
theorem zOz {k:K} {m c':Nat} (hm:m ≤ s.n) (hc:m ≤ c') (hc':c' ≤ s.c) (h:HG B (SlC E esz ⟨s.a,m,c'⟩ (vs.take (m * esz))::Δ) k) [p:zCs s Γ (SlC E esz s vs) Δ]:HG B Γ k:=fun w hw=>h w ((hw.perm p.perm).imp fun g hg=>by
 obtain ⟨hl,_,hs⟩:=SlC.take hm g hg
 refine ⟨hl,hc,?_⟩
 cases ha:s.a with
 | none=>rw [ha] at hs; simp only at hs ⊢; omega
 | some a=>
  rw [ha] at hs
  obtain ⟨hsp,cs,fz,hb,hf,hsz,hv⟩:=hs
  have:c' * esz ≤ s.c * esz:=Nat.mul_le_mul_right _ hc'
  exact ⟨hsp,cs,fz,hb,fun i h1 h2=>hf i h1 (by simp only at h2 ⊢; omega),by simp only at hsz ⊢; omega,hv⟩)
theorem zZi {k:K} {m:Nat} (hm:s.n + m ≤ s.c) (h:∀ js:List Value,js.length = m * esz→HG B (SlC E esz ⟨s.a,s.n + m,s.c⟩ (vs++js)::Δ) k) [p:zCs s Γ (SlC E esz s vs) Δ]:HG B Γ k:=fun w hw=>by
 have h1:=hw.perm p.perm
 have h2:Holds B ((ex fun js:List Value=>fun g=>js.length = m * esz∧SlC E esz ⟨s.a,s.n + m,s.c⟩ (vs++js) g)::Δ) w:=h1.imp fun g hg=>zNd hm hg
 obtain ⟨js,h3⟩:=Holds.ex.1 h2
 exact h js (h3.fact fun g hg=>hg.1) w (h3.imp fun g hg=>hg.2)
theorem zUN {n m esz:Nat} (h:vs.length = n * esz) (hm:m ≤ n):(vs.take (m * esz)).length = m * esz:=by
 have:=Nat.mul_le_mul_right esz hm
 rw [List.length_take]; omega
theorem zWH {T t:Nat} {k:Int→K} (hT:zHf P T T E esz = true) (h:HG B Γ (k (s.c:Int))):HG B Γ (Do P (Builtin.cap_ #[T] t #[s.val]) (Value.int .i64) k):=fun w hw=>by
 obtain ⟨h1,_⟩:=zEH hT
 obtain ⟨hsl,_⟩:=zAI h1
 refine ⟨s.c,w,?_,h w hw⟩
 unfold Builtin.cap_
 have hget:(#[T]:Array TypeId)[0]? = some T:=rfl
 have hv0:(#[s.val]:Array Value)[0]? = some s.val:=rfl
 simp only [hget,hv0]
 simp only [Sem.run_bind,run_underlying hsl,Result.andThen,Sl.val]
 rfl
end
end
section
open Go Go.RowKit
def zQY (P:Program) (T J R esz:Nat) (rot:Sl→Int→K→K) (s0:Sl) (i1:Int) (v2:Sl) (Q:Sl→K):K :=
 Slc s0 i1 (s0.n:Int) (s0.c:Int) esz fun _=>
 Ite (decide ((v2.n:Int) = 0))
  (Q s0)
  (Ite (decide (i1 = (s0.n:Int)))
   (Do P (Builtin.append_ #[T,T] T #[(Sl.val s0),(Sl.val v2)]) Sl.val fun t25=>
   Q t25)
   (Ar (IntKind.wrap .i64 ((s0.n:Int) + (v2.n:Int))) fun t28=>
   Do P (Builtin.cap_ #[T] J #[(Sl.val s0)]) (Value.int .i64) fun t30=>
   Ite (decide (t30 < t28))
    (Slc s0 0 i1 (s0.c:Int) esz fun t34=>
    Ar (IntKind.wrap .i64 ((s0.n:Int) + (v2.n:Int))) fun t37=>
    Ar (IntKind.wrap .i64 (t37 - i1)) fun t39=>
    Do P (Builtin.append_ #[T,J] T #[(Sl.val t34),(.int .i64 t39)]) Sl.val fun t40=>
    Slc t40 i1 (t40.n:Int) (t40.c:Int) esz fun t43=>
    Do P (Builtin.copy_ #[T,T] J #[(Sl.val t43),(Sl.val v2)]) (Value.int .i64) fun t45=>
    Dr<|
    Ar (IntKind.wrap .i64 (i1 + (v2.n:Int))) fun t49=>
    Slc t40 t49 (t40.n:Int) (t40.c:Int) esz fun t50=>
    Slc s0 i1 (s0.n:Int) (s0.c:Int) esz fun t53=>
    Do P (Builtin.copy_ #[T,T] J #[(Sl.val t50),(Sl.val t53)]) (Value.int .i64) fun t54=>
    Q t40)
    (Ar (IntKind.wrap .i64 ((s0.n:Int) + (v2.n:Int))) fun t59=>
    Slc s0 0 t59 (s0.c:Int) esz fun t60=>
    Ar (IntKind.wrap .i64 (i1 + (v2.n:Int))) fun t65=>
    Slc t60 t65 (t60.n:Int) (t60.c:Int) esz fun t66=>
    Rd P (Extern.SlicesOverlaps.overlaps #[T,T] #[R] [(Sl.val v2),(Sl.val t66)].toArray) Value.bool fun t67=>
    Ite (!t67)
     (Dr<|
     Ar (IntKind.wrap .i64 (i1 + (v2.n:Int))) fun t72=>
     Slc t60 t72 (t60.n:Int) (t60.c:Int) esz fun t73=>
     Slc t60 i1 (t60.n:Int) (t60.c:Int) esz fun t76=>
     Do P (Builtin.copy_ #[T,T] J #[(Sl.val t73),(Sl.val t76)]) (Value.int .i64) fun t77=>
     Slc t60 i1 (t60.n:Int) (t60.c:Int) esz fun t80=>
     Do P (Builtin.copy_ #[T,T] J #[(Sl.val t80),(Sl.val v2)]) (Value.int .i64) fun t82=>
     Q t60)
     (Slc t60 (s0.n:Int) (t60.n:Int) (t60.c:Int) esz fun t86=>
     Do P (Builtin.copy_ #[T,T] J #[(Sl.val t86),(Sl.val v2)]) (Value.int .i64) fun t88=>
     Slc t60 i1 (t60.n:Int) (t60.c:Int) esz fun t91=>
     rot t91 (v2.n:Int)<|
     Q t60))))
def zGw (P:Program) (E T:Nat) (s0:Sl) (Q:Sl→K):K :=
 Ite ((s0).a.isNone)
  (Q (Sl.mk none 0 0))
  (New E #[] fun t5=>
  Do P (Builtin.append_ #[T,T] T #[(Sl.val (Sl.mk (some t5) 0 0)),(Sl.val s0)]) Sl.val fun t7=>
  Q t7)
theorem zEI {A X C us:List Value} {p:Nat} (hp:p = A.length) (h:X.length = us.length):zCg (A++(X++C)) p us = A++(us++C):=by
 subst hp
 simp only [zCg,List.take_left,List.append_assoc,List.append_cancel_left_eq]
 rw [← h,List.drop_append,List.drop_eq_nil_of_le (by omega),List.nil_append,show A.length + X.length - A.length = X.length by omega,List.drop_left]
section
variable {P:Program} {B w:World} {Γ Δ Δ2:List zB} {E esz:Nat} {s x:Sl} {vs us:List Value}
theorem zZj {T R t l:Nat} {d:Sl} {cs:List Value} {k:Bool→K} (hd:d = ⟨zAB s.a l s.c esz,s.n - l,s.c - l⟩) (h:HG B Γ (k false)) [p:zCs s Γ (SlC E esz s vs) Δ] [q:Own t Δ (blk t (.cells cs.toArray E (0,0))) Δ2] (hc:0 < s.c) (he:0 < esz) (hT:zHf P T T E esz = true) :
  HG B Γ (Rd P (Extern.SlicesOverlaps.overlaps #[T,T] #[R] [(Sl.val ⟨some ⟨t,0,none⟩,1,1⟩),(Sl.val d)].toArray) Value.bool k):=fun w hw=>by
 obtain ⟨hs1,_⟩:=zEH hT
 obtain ⟨hsl,hsz⟩:=zAI hs1
 obtain ⟨_,_,hsp,hnil⟩:=zHe hw p
 have h1:=hw.perm (p.perm.trans (q.perm.cons _))
 cases ha:s.a with
 | none=>have:=hnil ha; omega
 | some a=>
  obtain ⟨cs2,fz,h2,_,_,hsz2,_,_,_⟩:=zNa h1 ha
  have hb2:=h2.block
  have hb1:=h2.swap.block
  have hne:=h2.swap.apart
  obtain ⟨b,off,sp⟩:=a
  have hsp':=hsp _ ha
  simp only at hsp'; subst hsp'
  simp only at hb2 hne hsz2
  have hmul:0 < s.c * esz:=Nat.mul_pos hc he
  refine ⟨false,?_,h w hw⟩
  have hcut:∃ o,zAB s.a l s.c esz = some ⟨b,o,none⟩:=by
   rw [ha]; unfold zAB
   split
   ·exact ⟨_,rfl⟩
   ·exact ⟨_,by simp only [Option.map_some,zR]; rfl⟩
  obtain ⟨o,ho⟩:=hcut
  subst hd
  simp only [Sl.val,ho]
  exact Go.Lib.run_overlaps_apart w T R E hsl esz (fun w=>jJ hsz) ⟨t,0,none⟩ ⟨b,o,none⟩ 1 1 _ _ hne E E cs.toArray.size cs2.size (by simp [World.shape?,hb1]) (by simp [World.shape?,hb2]) (by omega) (by simp [World.frozen?,hb1]) (by simp [World.frozen?,hb1])
theorem zFb {t:Nat} {cs:List Value} {T:TypeId} {k:Nat} (he:cs.length = esz) [q:Own t Γ (blk t (.cells cs.toArray T (0,0))) Δ]:∀ w,Holds B Γ w→RdC w ⟨some ⟨t,0,none⟩,1,k⟩ esz cs:=fun w hw=>
 RdC.zD2 (E:=T) (hw.perm q.perm) List.mem_cons_self (by simp) (by simpa using he) k
theorem zF6 {n:Nat} (h:∀ v ∈ vs,qC v = true):∀ v ∈ vs.take n,qC v = true:=fun v hv=>h v (List.mem_of_mem_take hv)
theorem zSc {n:Nat} (h:∀ v ∈ vs,qC v = true):∀ v ∈ vs.drop n,qC v = true:=fun v hv=>h v (List.mem_of_mem_drop hv)
theorem zUO {T J R i t:Nat} {rot:Sl→Int→K→K} {Q:Sl→K} (hi:i ≤ s.n) (hn:s.n < 50000000) (he:us.length = esz) (he0:0 < esz) (hvf:∀ v ∈ vs,qC v = true) (huf:∀ v ∈ us,qC v = true)
  (h:∀ s',s'.n = s.n + 1→HG B (SlC E esz s' (vs.take (i * esz)++us++vs.drop (i * esz))::Δ2) (Q s')) [p:zCs s Γ (SlC E esz s vs) Δ] [q:Own t Δ (blk t (.cells us.toArray E (0,0))) Δ2] (hT:zHf P T T E esz = true) (hJ:zUL P T J E esz = true) :
  HG B Γ (zQY P T J R esz rot s i ⟨some ⟨t,0,none⟩,1,1⟩ Q):=by
 refine fun w hw=>?_
 refine hg (hw.perm (p.perm.trans (q.perm.cons _))) ?_
 clear hw w p q
 refine vw s fun h1 h2 h3 h4=>?_
 unfold zQY
 dsimp only
 refine zCh (lo:=i) (hi:=s.n) (mx:=s.c) ?_
 refine s_f ?_
 refine yA (fun hb=>?_) fun hb=>?_
 ·have hin:i = s.n:=by simp only [decide_eq_true_eq] at hb; omega
  refine zBO (us:=us) (zFb he) huf (by simp only; omega) (hT:=hT) fun s' hs'=>?_
  have e1:vs.take (i * esz) = vs:=List.take_of_length_le (by rw [h1,hin]; exact Nat.le_refl _)
  have e2:vs.drop (i * esz) = []:=List.drop_eq_nil_of_le (by rw [h1,hin]; exact Nat.le_refl _)
  have h5:=h s' (by simpa using hs')
  rw [e1,e2,List.append_nil] at h5
  exact zI (Δ:=SlC E esz s' (vs++us)::Δ2) h5
 have hin:i < s.n:=by simp only [decide_eq_false_iff_not] at hb; omega
 have hsa:∃ a,s.a = some a:=by
  cases ha:s.a with
  | none=>have:=h4 ha; omega
  | some a=>exact ⟨a,rfl⟩
 have hle:i * esz ≤ s.n * esz:=Nat.mul_le_mul_right _ hi
 have hle1:(i + 1) * esz ≤ s.n * esz:=Nat.mul_le_mul_right _ hin
 have hx1:(s.n + 1) * esz = s.n * esz + esz:=by rw [Nat.add_mul,Nat.one_mul]
 have hx2:(i + 1) * esz = i * esz + esz:=by rw [Nat.add_mul,Nat.one_mul]
 have hx3:(s.n + 1 - i) * esz = s.n * esz + esz - i * esz:=by rw [Nat.sub_mul,hx1]
 have hx4:(s.n + 1 - (i + 1)) * esz = s.n * esz - i * esz:=by rw [show s.n + 1 - (i + 1) = s.n - i by omega,Nat.sub_mul]
 have hvs:vs = vs.take (i * esz)++vs.drop (i * esz):=(List.take_append_drop _ _).symm
 have hA:(vs.take (i * esz)).length = i * esz:=zUN h1 hi
 have hC:(vs.drop (i * esz)).length = s.n * esz - i * esz:=by rw [List.length_drop,h1]
 have hvfa:=zF6 (n:=i * esz) hvf
 have hvfc:=zSc (n:=i * esz) hvf
 refine zAn ?_
 refine zWH hT ?_
 refine yA (fun hb=>?_) fun hb=>?_
 ·have hgrow:s.c < s.n + 1:=by simp only [decide_eq_true_eq] at hb; omega
  refine zCh (lo:=0) (hi:=i) (mx:=s.c) ?_
  refine zAn ?_
  refine zAn ?_
  rw [zKc h3]
  have hm:∀ z:Nat,z = 1→((s.n:Int) + (z:Int) - i).toNat = s.n + 1 - i:=by omega
  refine zYJ (s:=⟨s.a,i - 0,s.c - 0⟩) (vs:=vs.take (i * esz)) (by omega) (by simp only; omega) (by simp only; omega) (fun s' zs hs' hz hzf=>?_) (fun w hw=>(uL hw (p:=zWF)).1.take (by omega)) (by simp only; omega) (hT:=hJ)
  simp only [Nat.sub_zero] at hs'
  have hs'n:s'.n = s.n + 1:=by have:=hm _ rfl; omega
  refine vw s' fun h5 h6 h7 h8=>?_
  refine zCh (lo:=i) (hi:=s'.n) (mx:=s'.c) ?_
  rw [hm _ rfl] at hz hs'
  refine zNe (s:=s') (l:=i) (us:=us) (zFb he) (zF6 huf) rfl (by omega) (hT:=hT) ?_
  refine zAQ ?_
  refine zAn ?_
  refine zCh (lo:=i + 1) (hi:=s'.n) (mx:=s'.c) ?_
  refine zCh (lo:=i) (hi:=s.n) (mx:=s.c) ?_
  refine zNe (s:=s') (l:=i + 1) (us:=vs.drop (i * esz)) (fun w hw=>(uL (s:=s) hw).1.drop hi h2 h3) (zF6 hvfc) rfl (by omega) (hT:=hT) ?_
  have e:zCg (zCg (vs.take (i * esz)++zs) (i * esz) (us.take ((s'.n - i) * esz))) ((i + 1) * esz) ((vs.drop (i * esz)).take ((s'.n - (i + 1)) * esz)) = vs.take (i * esz)++us++vs.drop (i * esz):=by
   rw [hs'n,hx3,hx4,List.take_of_length_le (l:=us) (by omega),List.take_of_length_le (l:=vs.drop (i * esz)) (by omega)]
   have hz2:zs = zs.take esz++(zs.drop esz++[]):=by simp
   rw [hz2,zEI hA.symm (by rw [List.length_take,hz]; omega),← List.append_assoc,zEI (by rw [List.length_append,hA]; omega) (by rw [List.length_drop,hz,hC,hx3]; omega)]
   simp
  rw [e]
  exact zI (h s' hs'n)
 ·have hroom:s.n + 1 ≤ s.c:=by simp only [decide_eq_false_iff_not] at hb; omega
  refine zAn ?_
  refine zCh (lo:=0) (hi:=s.n + 1) (mx:=s.c) ?_
  rw [zKc h3]
  refine zZi (s:=s) (m:=1) hroom fun js hj=>?_
  simp only [Nat.sub_zero]
  generalize hs':(⟨s.a,s.n + 1,s.c⟩:Sl) = s'
  have hs'n:s'.n = s.n + 1:=by rw [← hs']
  have hs'c:s'.c = s.c:=by rw [← hs']
  have hsp':∀ a,s'.a = some a→a.spot = none:=by rw [← hs']; exact h3
  refine zAn ?_
  refine zCh (lo:=i + 1) (hi:=s'.n) (mx:=s'.c) ?_
  refine zZj (s:=s') rfl ?_ (by omega) he0 hT
  refine s_t ?_
  refine zAQ ?_
  refine zAn ?_
  refine zCh (lo:=i + 1) (hi:=s'.n) (mx:=s'.c) ?_
  refine zCh (lo:=i) (hi:=s'.n) (mx:=s'.c) ?_
  have hjf:∀ v ∈ ((vs++js).drop (i * esz)).take ((s'.n - (i + 1)) * esz),qC v = true:=fun v hv=>by
   rw [List.drop_append_of_le_length (by omega),hs'n,hx4,← hC,List.take_left] at hv
   exact hvfc v hv
  refine vw s' fun h5 h6 h7 h8=>?_
  refine zNe (s:=s') (l:=i + 1) (us:=(vs++js).drop (i * esz)) (fun w hw=>(uL (s:=s') hw).1.drop (by omega) h6 h7) hjf rfl (by omega) (hT:=hT) ?_
  refine zCh (lo:=i) (hi:=s'.n) (mx:=s'.c) ?_
  refine zNe (s:=s') (l:=i) (us:=us) (zFb he) (zF6 huf) rfl (by omega) (hT:=hT) ?_
  have e:zCg (zCg (vs++js) ((i + 1) * esz) (((vs++js).drop (i * esz)).take ((s'.n - (i + 1)) * esz))) (i * esz) (us.take ((s'.n - i) * esz)) = vs.take (i * esz)++us++vs.drop (i * esz):=by
   rw [List.drop_append_of_le_length (by omega),hs'n,hx4,← hC,List.take_left,hx3,List.take_of_length_le (l:=us) (by omega)]
   generalize hAA:vs.take (i * esz) = A at *
   generalize hCC:vs.drop (i * esz) = C at *
   have e1:vs++js = (A++(C++js).take esz)++((C++js).drop esz++[]):=by rw [hvs]; simp
   rw [e1,zEI (by rw [List.length_append,hA,List.length_take,List.length_append]; omega) (by rw [List.length_drop,List.length_append]; omega),List.append_assoc,zEI hA.symm (by rw [List.length_take,List.length_append]; omega)]
   simp
  rw [e]
  exact zI (h s' hs'n)
theorem zO0 {T:Nat} {Q:Sl→K} (hx:∀ w,Holds B Γ w→RdC w s esz us) (hfl:∀ u ∈ us,qC u = true) (hroom:s.n ≤ 100000000) (h:∀ s',s'.n = s.n→HG B (SlC E esz s' us::Γ) (Q s')) (hT:zHf P T T E esz = true) :
  HG B Γ (zGw P E T s Q):=by
 unfold zGw
 refine fun w hw=>?_
 refine hg hw ?_
 have hr:=hx w hw
 refine yA (fun hb=>?_) fun hb=>?_
 ·have hn:=hr.nil (by simpa using hb)
  have hl:=hr.len
  rw [hn,Nat.zero_mul] at hl
  have:us = []:=List.length_eq_zero_iff.1 hl
  subst this
  intro w hw
  exact h ⟨none,0,0⟩ hn.symm w (hw.zAv E esz)
 ·exact zRa hx hfl hroom h (hT:=hT)
end
section
variable {P:Program} {B w:World} {Γ Δ:List zB} {k:K}
theorem least {p:Nat→Prop} (h:∃ n,p n):∃ n,p n∧∀ m,p m→n ≤ m:=by
 obtain ⟨n,hn⟩:=h
 induction n using Nat.strongRecOn with
 | ind n ih=>
  by_cases h:∃ m,m < n∧p m
  ·obtain ⟨m,h1,h2⟩:=h; exact ih m h1 h2
  ·exact ⟨n,hn,fun m hm=>Nat.le_of_not_lt fun h2=>h ⟨m,h2,hm⟩⟩
theorem jm {α ι:Type} {body:(α→K)→α→K} {x:α} (J:α→ι→Prop) (Γf:α→ι→List zB) (m:α→ι→Nat) (i:ι) (h0:J x i)
  (h:∀ (k':α→K) x i,J x i→(∀ x' i',J x' i'→m x' i' < m x i→HG B (Γf x' i') (k' x'))→HG B (Γf x i) (body k' x)) (hΓ:Γf x i = Γ:=by rfl):HG B Γ (yM body x):=fun w hw=>by
 subst hΓ
 let I:α→World→Prop:=fun x w=>∃ i,J x i∧Holds B (Γf x i) w
 let p:α→World→Nat→Prop:=fun x w n=>∃ i,J x i∧Holds B (Γf x i) w∧m x i = n
 have hp:∀ x w,I x w→∃ n,p x w n:=fun x w ⟨i,h1,h2⟩=>⟨_,i,h1,h2,rfl⟩
 let μ:α→World→Nat:=fun x w=>@dite _ (I x w) (Classical.propDecidable _) (fun h=>Classical.choose (least (hp x w h))) fun _=>0
 have hμ:∀ x w (h:I x w),p x w (μ x w)∧∀ n,p x w n→μ x w ≤ n:=fun x w h=>by
  have:=Classical.choose_spec (least (hp x w h))
  simpa [μ,h] using this
 refine yM.of I μ ⟨i,h0,hw⟩ fun x w hI=>?_
 obtain ⟨i,hj,hw,hm⟩:=(hμ x w hI).1
 refine h _ x i hj (fun x' i' hj' hlt w' hw'=>⟨⟨i',hj',hw'⟩,?_⟩) w hw
 have:=(hμ x' w' ⟨i',hj',hw'⟩).2 _ ⟨i',hj',hw',rfl⟩
 omega
theorem zNf {α:Type} {body:(α→K)→α→K} {x:α} (J:α→Prop) (m:α→Nat) (h0:J x)
  (h:∀ (k':α→K) x,J x→(∀ x',J x'→m x' < m x→HG B Γ (k' x'))→HG B Γ (body k' x)):HG B Γ (yM body x) :=
 jm (ι:=Unit) (fun x _=>J x) (fun _ _=>Γ) (fun x _=>m x) () h0 fun k' x _ hj hk=>h k' x hj fun x' hj' hm=>hk x' () hj' hm
theorem zNg {x y:K} (h1:HG B Γ x) (h2:HG B Γ y):HG B Γ (All [x,y]):=fun w hw=>all_cons (h1 w hw) (all_cons (h2 w hw) all_nil)
theorem zWI {g:Nat} {args:List Value} {k:Value→K} (h:HG B Γ (zX P g args.toArray k)) (hc:callable P g = true:=by kernel_rfl):HG B Γ (zAk P (.func (.func g) #[] #[]) args k):=fun w hw=>
 ⟨g,#[],#[],rfl,hc,by have:=h w hw; simpa [zX] using this⟩
end
abbrev bs (l:List UInt8):ByteArray:=⟨l.toArray⟩
abbrev zAR (l:List UInt8):Value:=.string (bs l)
theorem zUP (b:ByteArray):∃ l,b = bs l:=⟨b.data.toList,by simp [bs]⟩
theorem zJ6 (l:List UInt8):(bs l).toList = l:=by simp
theorem zBj:∀ (x y:List UInt8),Op.bytesLess x y = decide (x < y)
 | [],[]=>by simp [Op.bytesLess]
 | _::_,[]=>by simp [Op.bytesLess]
 | [],_::_=>by simp [Op.bytesLess]
 | a::x,b::y=>by
  rw [Op.bytesLess,zBj x y]
  simp only [List.cons_lt_cons_iff]
  by_cases h1:a < b <;> by_cases h2:a = b <;> by_cases h3:x < y <;> simp [h1,h2,h3]
theorem zUQ (x y:List UInt8):(!(Op.bytesLess x y || x == y)) = decide (y < x):=by
 rw [zBj]
 by_cases h1:x < y
 ·have:¬ y < x:=fun h=>List.lt_irrefl x (List.lt_trans h1 h)
  simp [h1,this]
 ·by_cases h2:x = y
  ·subst h2; simp [h1]
  ·have h3:y < x:=by
    have h4:y ≤ x:=by rw [← List.not_lt]; exact h1
    rcases List.le_iff_lt_or_eq.1 h4 with h5 | h5
    ·exact h5
    ·exact absurd h5.symm h2
   simp [h1,h2,h3]
section
variable {B w:World} {Γ Δ:List zB} {k:K} {α:Type} {F:α→zB} {A C:List α} {x:α}
theorem zO1:(((A++x::C).map F)++Γ).Perm (((A++C).map F)++F x::Γ):=by
 have h2:((A++x::C).map F).Perm (F x::(A++C).map F):=(List.perm_middle (a:=x) (l₁:=A) (l₂:=C)).map _
 refine (h2.append_right Γ).trans ?_
 exact (List.perm_middle (a:=F x) (l₁:=(A++C).map F) (l₂:=Γ)).symm
theorem zO2 (h:HG B (F x::Sep.stars ((A++C).map F)::Γ) k):HG B (Sep.stars ((A++x::C).map F)::Γ) k:=fun w hw=>
 h w (Holds.flat.2 ((Holds.flat.1 hw).perm zO1)).swap
theorem zF7 (h:HG B (Sep.stars ((A++x::C).map F)::Γ) k):HG B (F x::Sep.stars ((A++C).map F)::Γ) k:=fun w hw=>
 h w (Holds.flat.2 ((Holds.flat.1 hw.swap).perm zO1.symm))
end
def bsK (P:Program) (esz:Nat) (x0:Sl) (tv:Value) (cmp2:Value) (Q:Int→Bool→K):K :=
 yM (α:=Int×Int) (fun X x=>
  Ite (decide (x.1 < x.2))
   (Ar (IntKind.wrap .i64 (x.1 + x.2)) fun t20=>
   Ar (IntKind.wrap .u64 t20) fun t21=>
   Cd (0 ≤ (1:Int))<|
   Ar (zBc .u64 t21 1) fun t22=>
   Ar (IntKind.wrap .i64 t22) fun t23=>
   Idx x0 t23 esz fun t27=>
   LdN t27 esz fun t28=>
   zAk P cmp2 [(.agg t28),tv] <| qD (fun (t30:Int)=>(Value.int .i64) t30) fun t30=>
   Ite (decide (t30 < 0))
    (Ar (IntKind.wrap .i64 (t23 + 1)) fun t33=>
    X (t33,x.2))
    (X (x.1,t23)))
   (Ite (decide (x.1 < (x0.n:Int)))
    (Idx x0 x.1 esz fun t43=>
    LdN t43 esz fun t44=>
    zAk P cmp2 [(.agg t44),tv] <| qD (fun (t46:Int)=>(Value.int .i64) t46) fun t46=>
    Q x.1 (decide (t46 = 0)))
    (Q x.1 false))) (0,(x0.n:Int))
section
variable {P:Program} {B w:World} {Γ Δ:List zB}
theorem zBP {α:Type} {f:α→List Value} {esz:Nat} (hf:∀ x,(f x).length = esz):∀ {L:List α} {i:Nat} {x:α},L[i]? = some x→((L.flatMap f).drop (i * esz)).take esz = f x
 | [],i,x,h=>by simp at h
 | a::L,0,x,h=>by
  simp only [List.getElem?_cons_zero,Option.some.injEq] at h
  subst h
  simp only [Nat.zero_mul,List.drop_zero,List.flatMap_cons]
  rw [← hf a,List.take_left]
 | a::L,i + 1,x,h=>by
  simp only [List.getElem?_cons_succ] at h
  rw [List.flatMap_cons,Nat.add_mul,Nat.one_mul,Nat.add_comm,← List.drop_drop,← hf a,List.drop_left]
  rw [hf a]
  exact zBP hf h
theorem zDi {α:Type} {f:α→List Value} {esz:Nat} (hf:∀ x,(f x).length = esz) {L:List α} {i off:Nat} {x:α} (h:L[i]? = some x) (ho:off < esz):(L.flatMap f)[i * esz + off]? = (f x)[off]?:=by
 rw [← zBP hf h,List.getElem?_take,if_pos ho,List.getElem?_drop]
theorem zUR {α:Type} (f:α→List Value) {esz:Nat} {L:List α} {s:Sl} {j:Nat} {jj:Int} {x:α} {k:Array Value→K} (hf:∀ x,(f x).length = esz) (hr:∀ w,Holds B Γ w→RdC w s esz (L.flatMap f)) (hx:L[j]? = some x) (h:HG B Γ (k (f x).toArray)) (hj:jj = (j:Int):=by first | rfl | omega) (he:0 < esz:=by omega) :
  HG B Γ (Idx s jj esz fun t=>LdN t esz k):=fun w hw=>by subst hj; exact zYF f hf he (hr w hw) hx rfl fun t=>h w hw
theorem jZ {α:Type} {c:α→Value} {L:List α} {s:Sl} {j:Nat} {jj:Int} {x:α} {k:α→K} (hr:∀ w,Holds B Γ w→RdC w s 1 (L.map c)) (hx:L[j]? = some x) (h:HG B Γ (k x)) (hj:jj = (j:Int):=by first | rfl | omega):HG B Γ (Idx s jj 1 fun t=>Ld t c k):=fun w hw=>by
 subst hj; exact zFZ (hr w hw) hx (h w hw)
theorem zak {α:Type} {f:α→List Value} {esz E:Nat} {s:Sl} {L:List α} {c:α→Int} {tv cv:Value} {Q:Int→Bool→K} {p:Nat} (hf:∀ x,(f x).length = esz) (hL:L.length < 1000000000)
  (hlo:∀ i x,L[i]? = some x→i < p→c x < 0) (hhi:∀ i x,L[i]? = some x→p ≤ i→0 ≤ c x) (hp:p ≤ L.length)
  (hc:∀ x ∈ L,∀ q:Int→K,HG B Γ (q (c x))→HG B Γ (zAk P cv [(.agg (f x).toArray),tv] (qD (fun (t:Int)=>(Value.int .i64) t) q)))
  (h:HG B Γ (Q p (decide (∃ x,L[p]? = some x∧c x = 0)))) [o:zCs s Γ (SlC E esz s (L.flatMap f)) Δ] (he:0 < esz):HG B Γ (bsK P esz s tv cv Q):=by
 refine vw s fun h1 h2 h3 h4=>?_
 rw [yu f esz hf] at h1
 have hn:s.n = L.length:=(Nat.eq_of_mul_eq_mul_right he h1).symm
 have ldel:∀ (i:Nat) (x:α) (k:Array Value→K),L[i]? = some x→HG B Γ (k (f x).toArray)→HG B Γ (LdN (elA s i esz) esz k):=fun i x k hx hk=>by
  rw [← add0 (elA s i esz)]
  exact zFa (s:=s) (by simpa using zBP hf hx) (hf x) hk
 unfold bsK
 refine zNf (fun x:Int×Int=>∃ a b:Nat,x = ((a:Int),(b:Int))∧a ≤ p∧p ≤ b∧b ≤ L.length) (fun x=>(x.2 - x.1).toNat) ⟨0,L.length,by rw [hn]; rfl,by omega,hp,Nat.le_refl _⟩ fun k' x hx hk=>?_
 obtain ⟨a,b,rfl,ha,hb,hbl⟩:=hx
 dsimp only
 refine yA (fun hlt=>?_) fun hlt=>?_
 ·have hab:a < b:=by simp only [decide_eq_true_eq] at hlt; omega
  refine zAn ?_
  rw [show IntKind.wrap .u64 ((a:Int) + b) = ((a + b:Nat):Int) by rw [xI (by omega) (by omega)]; omega]
  refine vI rfl ?_
  refine zNc (by omega) ?_
  refine vI (e':=(((a + b) / 2:Nat):Int)) ?_ ?_
  ·show ((a + b:Nat):Int).fdiv 2 = _
   rw [Int.fdiv_eq_ediv_of_nonneg _ (by omega)]; omega
  refine zAn ?_
  refine zCQ (s:=s) (i:=(a + b) / 2) ?_ rfl (by omega)
  obtain ⟨x,hx⟩:∃ x,L[(a + b) / 2]? = some x:=⟨_,List.getElem?_eq_getElem (by omega)⟩
  refine ldel _ x _ hx (hc x (List.mem_of_getElem? hx) _ ?_)
  refine yA (fun h5=>?_) fun h5=>?_
  ·have h6:c x < 0:=by simpa using h5
   refine zAn ?_
   refine hk _ ⟨(a + b) / 2 + 1,b,by simp,?_,hb,hbl⟩ (by simp only; omega)
   ·refine Nat.lt_of_not_le fun h7=>?_
    have:=hhi _ x hx h7; omega
  ·have h6:0 ≤ c x:=by simpa using h5
   refine hk _ ⟨a,(a + b) / 2,by simp,ha,?_,by omega⟩ (by simp only; omega)
   ·refine Nat.le_of_not_lt fun h7=>?_
    have:=hlo _ x hx h7; omega
 ·have hab:a = p∧b = p:=by simp only [decide_eq_false_iff_not] at hlt; omega
  obtain ⟨rfl,rfl⟩:=hab
  refine yA (fun h5=>?_) fun h5=>?_
  ·have h6:b < L.length:=by simp only [decide_eq_true_eq] at h5; omega
   refine zCQ (s:=s) (i:=b) ?_ rfl (by omega)
   obtain ⟨x,hx⟩:∃ x,L[b]? = some x:=⟨_,List.getElem?_eq_getElem h6⟩
   refine ldel _ x _ hx (hc x (List.mem_of_getElem? hx) _ ?_)
   have e:decide (∃ x,L[b]? = some x∧c x = 0) = decide (c x = 0):=by simp [hx]
   rw [e] at h
   exact h
  ·have h6:¬ b < L.length:=by simp only [decide_eq_false_iff_not] at h5; omega
   have e:decide (∃ x,L[b]? = some x∧c x = 0) = false:=by
    simp only [decide_eq_false_iff_not]
    rintro ⟨x,hx,_⟩
    rw [List.getElem?_eq_none (by omega)] at hx; cases hx
   rw [e] at h
   exact h
end
end
section
open Go Go.RowKit
namespace Bt
structure BtT (κ:Type) where
 P:Program
 tI:Nat
 tSI:Nat
 tV:Nat
 tK:Nat
 tSK:Nat
 tN:Nat
 tT:Nat
 nv:Nat
 kz:Value
 vz:List Value
 kV:κ→Value
 cv:Value
 bsC:Sl→κ→Value→(Int→Bool→K)→K
 nsearchC:Option Addr→κ→(Int→Bool→K)→K
 nputC:Option Addr→Array Value→(Array Value→Bool→Option Addr→Option Addr→K)→K
 insIC:Sl→Int→Sl→(Sl→K)→K
 insKC:Sl→Int→Sl→(Sl→K)→K
 cloneIC:Sl→(Sl→K)→K
 cloneKC:Sl→(Sl→K)→K
section
variable {κ:Type}
def zYK (G:BtT κ)  (Q:(Option Addr)→K):K :=
 New G.tN #[(Sl.val ⟨none,0,0⟩),(Sl.val ⟨none,0,0⟩)] fun t2=>
 New G.tT #[(.pointer (some t2)),(.int .i64 0)] fun t4=>
 Q (some t4)
def zRb (G:BtT κ) (n0:(Option Addr)) (key1:κ) (Q:Int→Bool→K):K :=
 Nn n0 fun t7=>
 Ld t7 Sl.val fun t9=>
 G.bsC t9 key1 G.cv fun t11x0 t11x1=>
 Q t11x0 t11x1
def zJ7 (G:BtT κ) (Q:(Array Value)→Bool→(Option Addr)→(Option Addr)→K)  (old4_2:Addr) (had5_2:Bool) (right7_2:Addr) (m12_2:Addr):K :=
 LdN old4_2 G.nv fun t153=>
 StN old4_2 G.nv t153<|
 LdN old4_2 G.nv fun r0=>
 Q r0 had5_2 (some m12_2) (some right7_2)
def zHg (G:BtT κ) (Q:(Array Value)→Bool→(Option Addr)→(Option Addr)→K)  (n0_1:(Option Addr)) (old4_1:Addr) (had5_1:Bool):K :=
 Nn n0_1 fun t101=>
 Ld t101 Sl.val fun t103=>
 Ite (decide ((t103.n:Int) ≤ 5))
  (LdN old4_1 G.nv fun t106=>
  StN old4_1 G.nv t106<|
  LdN old4_1 G.nv fun r0=>
  Q r0 had5_1 none none)
  (Ld t101 Sl.val fun t111=>
  Idx t111 2 (G.nv + 1) fun t112=>
  LdN t112 (G.nv + 1) fun t113=>
  New G.tI (G.kz::G.vz).toArray fun m12=>
  StN m12 (G.nv + 1) t113<|
  Ld t101 Sl.val fun t117=>
  Slc t117 3 (t117.n:Int) (t117.c:Int) (G.nv + 1) fun t118=>
  G.cloneIC t118 fun t119=>
  New G.tN #[(Sl.val t119),(Sl.val ⟨none,0,0⟩)] fun t121=>
  Ld t101 Sl.val fun t126=>
  Slc t126 0 2 2 (G.nv + 1) fun t127=>
  St t101 (Sl.val t127)<|
  Ld (t101.add 1) Sl.val fun t133=>
  Ite (decide ((0:Int) < (t133.n:Int)))
   (Ld (t101.add 1) Sl.val fun t140=>
   Slc t140 3 (t140.n:Int) (t140.c:Int) 1 fun t141=>
   G.cloneKC t141 fun t142=>
   St (t121.add 1) (Sl.val t142)<|
   Ld (t101.add 1) Sl.val fun t149=>
   Slc t149 0 3 3 1 fun t150=>
   St (t101.add 1) (Sl.val t150)<|
   zJ7 G Q old4_1 had5_1 t121 m12)
   (zJ7 G Q old4_1 had5_1 t121 m12))
def zYL (G:BtT κ) (n0:(Option Addr)) (x1:(Array Value)) (Q:(Array Value)→Bool→(Option Addr)→(Option Addr)→K):K :=
 New G.tI x1 fun x3=>
 New G.tV G.vz.toArray fun old4=>
 Ld x3 G.kV fun t16=>
 G.nsearchC n0 t16 fun t17x0 t17x1=>
 Ite t17x1
  (Nn n0 fun t64=>
  Ld t64 Sl.val fun t66=>
  Idx t66 t17x0 (G.nv + 1) fun t68=>
  LdN (t68.add 1) G.nv fun t70=>
  StN old4 G.nv t70<|
  Dr<|
  Ld t64 Sl.val fun t74=>
  LdN (x3.add 1) G.nv fun t77=>
  Idx t74 t17x0 (G.nv + 1) fun t78=>
  StN (t78.add 1) G.nv t77<|
  LdN old4 G.nv fun t80=>
  StN old4 G.nv t80<|
  LdN old4 G.nv fun r0=>
  Q r0 true none none)
  (Nn n0 fun t84=>
  Ld (t84.add 1) Sl.val fun t86=>
  Ite (decide ((t86.n:Int) = 0))
   (Dr <| xW fun S=>
   LdS S t84 Sl.val fun t93=>
   zBt S x3 (G.nv + 1) fun t95=>
   Bld (G.kz::G.vz).toArray (fun i=>some (i * (G.nv + 1),(G.nv + 1))) [(0,(.agg t95))] fun ct96=>
   New G.tI ct96 fun t96=>
   Sv S<|
   G.insIC t93 t17x0 (Sl.mk (some t96) 1 1) fun t97=>
   St t84 (Sl.val t97)<|
   zHg G Q (some t84) old4 false)
   (Dr<|
   Ld (t84.add 1) Sl.val fun t24=>
   Idx t24 t17x0 1 fun t26=>
   Ld t26 Value.pointer fun t27=>
   LdN x3 (G.nv + 1) fun t28=>
   G.nputC t27 t28 fun t29x0 t29x1 t29x2 t29x3=>
   StN old4 G.nv t29x0<|
   Ite (!(t29x2).isNone)
    (Dr <| xW fun S=>
    Nn t29x2 fun t43=>
    LdS S t84 Sl.val fun t40=>
    zBt S t43 (G.nv + 1) fun t44=>
    Bld (G.kz::G.vz).toArray (fun i=>some (i * (G.nv + 1),(G.nv + 1))) [(0,(.agg t44))] fun ct45=>
    New G.tI ct45 fun t45=>
    Sv S<|
    G.insIC t40 t17x0 (Sl.mk (some t45) 1 1) fun t46=>
    St t84 (Sl.val t46)<|
    Ld (t84.add 1) Sl.val fun t53=>
    Ar (IntKind.wrap .i64 (t17x0 + 1)) fun t55=>
    New G.tK #[(.pointer t29x3)] fun t57=>
    G.insKC t53 t55 (Sl.mk (some t57) 1 1) fun t58=>
    St (t84.add 1) (Sl.val t58)<|
    zHg G Q (some t84) old4 t29x1)
    (zHg G Q (some t84) old4 t29x1)))
def zJ8 (G:BtT κ) (Q:(Array Value)→Bool→K)  (t6_3:Addr) (old8_3:Addr) (had9_3:Bool):K :=
 LdN old8_3 G.nv fun t51=>
 StN t6_3 G.nv t51<|
 LdN t6_3 G.nv fun r0=>
 Q r0 had9_3
def zHh (G:BtT κ) (Q:(Array Value)→Bool→K)  (t0_2:(Option Addr)) (t6_2:Addr) (old8_2:Addr) (had9_2:Bool):K :=
 Ite (!had9_2)
  (Nn t0_2 fun t45=>
  Ld (t45.add 1) (Value.int .i64) fun t47=>
  Ar (IntKind.wrap .i64 (t47 + 1)) fun t48=>
  St (t45.add 1) (.int .i64 t48)<|
  zJ8 G Q t6_2 old8_2 had9_2)
  (zJ8 G Q t6_2 old8_2 had9_2)
def zF8 (G:BtT κ) (Q:(Array Value)→Bool→K)  (t0_1:(Option Addr)) (t6_1:Addr) (old8_1:Addr) (had9_1:Bool) (mid10_1:(Option Addr)) (right11_1:(Option Addr)):K :=
 Ite (!(mid10_1).isNone)
  (Dr <| xW fun S=>
  Nn mid10_1 fun t29=>
  Nn t0_1 fun t33=>
  zBt S t29 (G.nv + 1) fun t30=>
  LdS S t33 Value.pointer fun t35=>
  All [
   (Bld (G.kz::G.vz).toArray (fun i=>some (i * (G.nv + 1),(G.nv + 1))) [(0,(.agg t30))] fun ct31=>
   New G.tI ct31 fun t31=>
   Sv S<|
   New G.tK #[(.pointer t35),(.pointer right11_1)] fun t37=>
   Sv S<|
   New G.tN #[(Sl.val (Sl.mk (some t31) 1 1)),(Sl.val (Sl.mk (some t37) 2 2))] fun t39=>
   St t33 (.pointer (some t39))<|
   zHh G Q (some t33) t6_1 old8_1 had9_1),
   (New G.tK #[(.pointer t35),(.pointer right11_1)] fun t37=>
   Sv S<|
   Bld (G.kz::G.vz).toArray (fun i=>some (i * (G.nv + 1),(G.nv + 1))) [(0,(.agg t30))] fun ct31=>
   New G.tI ct31 fun t31=>
   Sv S<|
   New G.tN #[(Sl.val (Sl.mk (some t31) 1 1)),(Sl.val (Sl.mk (some t37) 2 2))] fun t39=>
   St t33 (.pointer (some t39))<|
   zHh G Q (some t33) t6_1 old8_1 had9_1)
   ])
  (zHh G Q t0_1 t6_1 old8_1 had9_1)
def zYM (G:BtT κ) (t0:(Option Addr)) (key1:κ) (value2:(Array Value)) (Q:(Array Value)→Bool→K):K :=
 New G.tV value2 fun value5=>
 New G.tV G.vz.toArray fun t6=>
 Dr <| xW fun S=>
 Nn t0 fun t14=>
 LdS S t14 Value.pointer fun t16=>
 zBt S value5 G.nv fun t18=>
 Bld (G.kz::G.vz).toArray ([(0,1),(1,G.nv)][·]?) [(0,(G.kV key1)),(1,(.agg t18))] fun t19=>
 All [
  (G.nputC t16 t19 fun t20x0 t20x1 t20x2 t20x3=>
  New G.tV G.vz.toArray fun old8=>
  StN old8 G.nv t20x0<|
  zF8 G Q (some t14) t6 old8 t20x1 t20x2 t20x3),
  (New G.tV G.vz.toArray fun old8=>
  Sv S<|
  G.nputC t16 t19 fun t20x0 t20x1 t20x2 t20x3=>
  StN old8 G.nv t20x0<|
  zF8 G Q (some t14) t6 old8 t20x1 t20x2 t20x3)
  ]
end
abbrev Cel (n:Nat):={l:List Value // l.length = n∧l.all qC = true}
section
variable {κ:Type} (G:BtT κ)
abbrev BtT.It:=κ×Cel G.nv
def BtT.f (x:G.It):List Value:=G.kV x.1::x.2.1
abbrev BtT.z0 (h:G.vz.length = G.nv∧G.vz.all qC = true):Cel G.nv:=⟨G.vz,h⟩
theorem BtT.uj (x:G.It):(G.f x).length = G.nv + 1:=by simp [BtT.f,x.2.2.1]
structure BtOk (c:κ→κ→Int):Prop where
 kf:∀ k,qC (G.kV k) = true
 kzf:qC G.kz = true
 vz:G.vz.length = G.nv∧G.vz.all qC = true
 TI:zHf G.P G.tSI G.tSI G.tI (G.nv + 1) = true
 ZI:zUL G.P G.tSI 3 G.tI (G.nv + 1) = true
 TK:zHf G.P G.tSK G.tSK G.tK 1 = true
 ZK:zUL G.P G.tSK 3 G.tK 1 = true
 tr:∀ {a b d},c a b < 0→c b d < 0→c a d < 0
 eq:∀ {a b},c a b = 0 ↔ a = b
 sw:∀ {a b},c a b < 0 ↔ 0 < c b a
 cmp:∀ {B:World} {Γ:List zB} (a b:κ) (vs:List Value) (q:Int→K),vs.length = G.nv→HG B Γ (q (c a b))→HG B Γ (zAk G.P G.cv [(.agg (G.kV a::vs).toArray),G.kV b] (qD (fun (t:Int)=>(Value.int .i64) t) q))
 bs:∀ s k Q w,bsK G.P (G.nv + 1) s (G.kV k) G.cv Q w→G.bsC s k G.cv Q w
 search:∀ n k Q w,zRb G n k Q w→G.nsearchC n k Q w
 put:∀ n x Q w,zYL G n x Q w→G.nputC n x Q w
 insI:∃ R rot,∀ s i v Q w,zQY G.P G.tSI 3 R (G.nv + 1) rot s i v Q w→G.insIC s i v Q w
 zQY:∃ R rot,∀ s i v Q w,zQY G.P G.tSK 3 R 1 rot s i v Q w→G.insKC s i v Q w
 cloneI:∀ s Q w,zGw G.P G.tI G.tSI s Q w→G.cloneIC s Q w
 zGw:∀ s Q w,zGw G.P G.tK G.tSK s Q w→G.cloneKC s Q w
end
section
variable {κ:Type} {G:BtT κ} {c:κ→κ→Int} {B:World} {Γ Δ:List zB}
def Srt (c:κ→κ→Int) {ν:Type} (L:List (κ×ν)):Prop:=L.Pairwise fun x y=>c x.1 y.1 < 0
theorem zNh (ok:BtOk G c) (x:G.It):∀ v ∈ G.f x,qC v = true:=fun v hv=>by
 rcases List.mem_cons.1 hv with rfl | hv
 ·exact ok.kf _
 ·exact List.all_eq_true.1 x.2.2.2 v hv
theorem zJ9 (ok:BtOk G c) (L:List G.It):∀ v ∈ L.flatMap G.f,qC v = true:=fun v hv=>by
 obtain ⟨x,_,hx⟩:=List.mem_flatMap.1 hv
 exact zNh ok x v hx
theorem zKf (ok:BtOk G c) {b:Nat} {s kd:Sl} {its:List G.It} {k:κ} {Q:Int→Bool→K} [p:Own b Γ (blk b (.cells [s.val,kd.val].toArray G.tN (0,0))) Δ] {Δ2:List zB} [q:zCs s Γ (SlC G.tI (G.nv + 1) s (its.flatMap G.f)) Δ2]
  (hs:Srt c its) (hl:its.length ≤ 1000) (hfound:∀ A v C,its = A++(k,v)::C→HG B Γ (Q A.length true)) (hnot:∀ A C,its = A++C→(∀ x ∈ A,c x.1 k < 0)→(∀ x ∈ C,c k x.1 < 0)→HG B Γ (Q A.length false)) :
  HG B Γ (G.nsearchC (some ⟨b,0,none⟩) k Q):=by
 refine fun w hw=>ok.search _ _ _ _ ?_
 refine hg hw ?_
 clear hw w
 unfold zRb
 refine xM ?_
 refine yE (b:=b) (x:=s) ?_
 refine fun w hw=>ok.bs _ _ _ _ ?_
 refine hg hw ?_
 clear hw w
 obtain ⟨A,C,hAC,hA,hC⟩:∃ A C,its = A++C∧(∀ x ∈ A,c x.1 k < 0)∧∀ x ∈ C,0 ≤ c x.1 k:=by
  clear hfound hnot q hl
  induction its with
  | nil=>exact ⟨[],[],rfl,by simp,by simp⟩
  | cons x L ih=>
   have hs':=List.pairwise_cons.1 hs
   by_cases h:c x.1 k < 0
   ·obtain ⟨A,C,h1,h2,h3⟩:=ih hs'.2
    exact ⟨x::A,C,by rw [h1]; rfl,List.forall_mem_cons.2 ⟨h,h2⟩,h3⟩
   ·refine ⟨[],x::L,rfl,by simp,fun y hy=>?_⟩
    rcases List.mem_cons.1 hy with rfl | hy
    ·omega
    ·have h1:=hs'.1 y hy
     refine Int.not_lt.1 fun h2=>h (ok.tr h1 h2)
 subst hAC
 have hlen:(A++C).length = A.length + C.length:=List.length_append
 refine zak (s:=s) (L:=A++C) (f:=G.f) (c:=fun x=>c x.1 k) (p:=A.length) G.uj (by omega) (fun i x hx hi=>?_) (fun i x hx hi=>?_) (by omega) (fun x hx q hq=>ok.cmp _ _ _ _ x.2.2.1 hq) ?_ (by omega)
 ·rw [List.getElem?_append_left hi] at hx
  exact hA x (List.mem_of_getElem? hx)
 ·rw [List.getElem?_append_right hi] at hx
  exact hC x (List.mem_of_getElem? hx)
 ·have e:(A++C)[A.length]? = C.head?:=by rw [List.getElem?_append_right (Nat.le_refl _),Nat.sub_self,List.head?_eq_getElem?]
  rw [e]
  cases C with
  | nil=>simpa using hnot A [] rfl hA (by simp)
  | cons x C=>
   have hs2:=(List.pairwise_append.1 hs).2.1
   by_cases h0:c x.1 k = 0
   ·have:=ok.eq.1 h0
    obtain ⟨xk,v⟩:=x
    simp only at this; subst this
    simpa [h0] using hfound A v C rfl
   ·have h1:0 < c x.1 k:=by have:=hC x List.mem_cons_self; omega
    have:=hnot A (x::C) rfl hA (fun y hy=>by
     rcases List.mem_cons.1 hy with rfl | hy
     ·exact ok.sw.2 h1
     ·exact ok.tr (ok.sw.2 h1) ((List.pairwise_cons.1 hs2).1 y hy))
    simpa [h0] using this
end
end Bt
end
section
open Go Go.RowKit
namespace Bt
section
variable {κ:Type} {G:BtT κ} {c:κ→κ→Int} {B:World} {Γ Δ:List zB}
theorem zEj {α:Type} {f:α→List Value} {esz:Nat} (hf:∀ x,(f x).length = esz):∀ (L:List α) (i:Nat),(L.flatMap f).drop (i * esz) = (L.drop i).flatMap f
 | L,0=>by simp
 | [],i + 1=>by simp
 | x::L,i + 1=>by
  rw [List.flatMap_cons,List.drop_succ_cons,← zEj hf L i,Nat.add_mul,Nat.one_mul,Nat.add_comm,← List.drop_drop,← hf x,List.drop_left]
theorem zEk {α:Type} {f:α→List Value} {esz:Nat} (hf:∀ x,(f x).length = esz):∀ (L:List α) (i:Nat),(L.flatMap f).take (i * esz) = (L.take i).flatMap f
 | L,0=>by simp
 | [],i + 1=>by simp
 | x::L,i + 1=>by
  rw [List.flatMap_cons,List.take_succ_cons,List.flatMap_cons,← zEk hf L i,Nat.add_mul,Nat.one_mul,Nat.add_comm,← hf x,List.take_length_add_append]
theorem zYN {α:Type} {f:α→List Value} {esz E:Nat} {s:Sl} {L:List α} {i:Nat} {x:α} {k:Array Value→K} (hf:∀ x,(f x).length = esz) (hx:L[i]? = some x) (h:HG B Γ (k (f x).toArray)) [o:zCs s Γ (SlC E esz s (L.flatMap f)) Δ]:HG B Γ (LdN (elA s i esz) esz k):=by
 rw [← add0 (elA s i esz)]
 exact zFa (s:=s) (by simpa using zBP hf hx) (hf x) h
abbrev qZ (G:BtT κ) (b:Nat) (s kd:Sl):zB:=blk b (.cells [s.val,kd.val].toArray G.tN (0,0))
abbrev vg (G:BtT κ) (s:Sl) (its:List G.It):zB:=SlC G.tI (G.nv + 1) s (its.flatMap G.f)
abbrev vY (G:BtT κ) (s:Sl) (kp:List (Option Addr)):zB:=SlC G.tK 1 s (kp.map Value.pointer)
abbrev zBD (G:BtT κ) (b:Nat) (v:Cel G.nv):zB:=blk b (.cells v.1.toArray G.tV (0,0))
theorem zKg {o:Nat} {v:Cel G.nv} {k:Array Value→K} (h:HG B Γ (k v.1.toArray)) [p:Own o Γ (zBD G o v) Δ]:HG B Γ (LdN ⟨o,0,none⟩ G.nv fun t=>StN ⟨o,0,none⟩ G.nv t <| LdN ⟨o,0,none⟩ G.nv k):=by
 have e:(v.1.drop 0).take G.nv = v.1:=by rw [List.drop_zero,List.take_of_length_le (Nat.le_of_eq v.2.1)]
 refine fun w hw=>?_
 refine hg (hw.perm p.perm) ?_
 refine zDH (b:=o) ?_ e v.2.1
 refine zDI (b:=o) ?_ v.2.1 v.2.1 v.2.2
 refine zDH (b:=o) ?_ e v.2.1
 exact fun w hw=>h w (hw.perm p.perm.symm)
theorem zRc (kp:List (Option Addr)):∀ v ∈ kp.map Value.pointer,qC v = true:=fun v hv=>by obtain ⟨a,_,rfl⟩:=List.mem_map.1 hv; rfl
theorem zUS (kp:List (Option Addr)):(kp.map Value.pointer).length = kp.length * 1:=by simp
theorem zYO (ok:BtOk G c) {o b:Nat} {old:Cel G.nv} {had:Bool} {s kd:Sl} {its:List G.It} {kp:List (Option Addr)} {Q:Array Value→Bool→Option Addr→Option Addr→K} (hs:its.length ≤ 6) (hk:kp = []∨kp.length = its.length + 1)
  (h1:its.length ≤ 5→HG B (qZ G b s kd::vg G s its::vY G kd kp::Γ) (Q old.1.toArray had none none))
  (h2:∀ x,its.length = 6→its = its.take 2++x::its.drop 3→∀ s1 c1 r s2 c2 mb,HG B (blk mb (.cells (G.f x).toArray G.tI (0,0))::qZ G b s1 c1::vg G s1 (its.take 2)::vY G c1 (kp.take 3)::qZ G r s2 c2::vg G s2 (its.drop 3)::vY G c2 (kp.drop 3)::Γ) (Q old.1.toArray had (some ⟨mb,0,none⟩) (some ⟨r,0,none⟩))) :
  HG B (zBD G o old::qZ G b s kd::vg G s its::vY G kd kp::Γ) (zHg G Q (some ⟨b,0,none⟩) ⟨o,0,none⟩ had):=by
 refine vw s fun l1 l2 l3 l4=>?_
 refine vw kd fun m1 m2 m3 m4=>?_
 rw [yu G.f _ G.uj] at l1
 have hn:s.n = its.length:=(Nat.eq_of_mul_eq_mul_right (by omega) l1).symm
 have hkn:kd.n = kp.length:=by rw [zUS] at m1; omega
 unfold zHg
 refine xM ?_
 refine yE (b:=b) (x:=s) ?_
 refine yA (fun hb=>?_) fun hb=>?_
 ·refine zKg ?_
  exact zI (h1 (by simp only [decide_eq_true_eq] at hb; omega))
 have h6:its.length = 6:=by simp only [decide_eq_false_iff_not] at hb; omega
 obtain ⟨x,hx⟩:∃ x,its[2]? = some x:=⟨_,List.getElem?_eq_getElem (by omega)⟩
 have hsplit:its = its.take 2++x::its.drop 3:=by
  have:=List.drop_eq_getElem_cons (l:=its) (i:=2) (by omega)
  rw [List.getElem?_eq_getElem (by omega),Option.some.injEq] at hx
  rw [hx] at this
  rw [← this,List.take_append_drop]
 refine yE (b:=b) (x:=s) ?_
 refine zCQ (s:=s) (i:=2) ?_
 refine zYN (s:=s) G.uj hx ?_
 refine ql fun mb=>?_
 refine zDI (b:=mb) ?_ (by simp [ok.vz.1]) (G.uj x) (List.all_eq_true.2 (zNh ok x))
 refine yE (b:=b) (x:=s) ?_
 refine zCh (lo:=3) (hi:=s.n) (mx:=s.c) ?_
 refine fun w hw=>ok.cloneI _ _ _ ?_
 refine hg hw ?_
 clear hw w
 have hfl:=zJ9 ok its
 refine zO0 (s:=⟨zAB s.a 3 s.c (G.nv + 1),s.n - 3,s.c - 3⟩) (us:=(its.drop 3).flatMap G.f) (esz:=G.nv + 1) (fun w hw=>?_) (zJ9 ok _) (by simp only; omega) (fun s2 hs2=>?_) ok.TI
 ·rw [← zEj G.uj]
  exact (uL (s:=s) hw).1.drop (by omega) l2 l3
 refine ql fun r=>?_
 refine yE (b:=b) (x:=s) ?_
 refine zCh (lo:=0) (hi:=2) (mx:=2) ?_
 rw [zKc l3]
 refine zAd (b:=b) ?_
 refine zOz (s:=s) (m:=2) (c':=2) (by omega) (by omega) (by omega) ?_
 rw [zEk G.uj]
 refine yE (b:=b) (x:=kd) ?_
 refine yA (fun hb2=>?_) fun hb2=>?_
 ·have hk7:kp.length = 7:=by
   simp only [decide_eq_true_eq] at hb2
   rcases hk with rfl | hk
   ·simp only [List.length_nil] at hkn; omega
   ·omega
  refine yE (b:=b) (x:=kd) ?_
  refine zCh (lo:=3) (hi:=kd.n) (mx:=kd.c) ?_
  refine fun w hw=>ok.zGw _ _ _ ?_
  refine hg hw ?_
  clear hw w
  refine zO0 (s:=⟨zAB kd.a 3 kd.c 1,kd.n - 3,kd.c - 3⟩) (us:=(kp.drop 3).map Value.pointer) (esz:=1) (fun w hw=>?_) (zRc _) (by simp only; omega) (fun c2 hc2=>?_) ok.TK
  ·have:=(uL (s:=kd) hw).1.drop (l:=3) (c:=kd.c) (by omega) m2 m3
   simpa using this
  refine zAd (b:=r) ?_
  refine yE (b:=b) (x:=kd) ?_
  refine zCh (lo:=0) (hi:=3) (mx:=3) ?_
  rw [zKc m3]
  refine zAd (b:=b) ?_
  refine zOz (s:=kd) (m:=3) (c':=3) (by omega) (by omega) (by omega) ?_
  rw [show (kp.map Value.pointer).take (3 * 1) = (kp.take 3).map Value.pointer by simp]
  unfold zJ7
  refine zKg ?_
  exact zI (h2 x h6 hsplit ⟨s.a,2,2⟩ ⟨kd.a,3,3⟩ r s2 c2 mb)
 ·have hk0:kp = []:=by
   simp only [decide_eq_false_iff_not] at hb2
   rcases hk with rfl | hk
   ·rfl
   ·omega
  have e1:kp.take 3 = kp:=by rw [hk0]; rfl
  have e2:kp.drop 3 = []:=by rw [hk0]; rfl
  simp only [e1,e2] at h2
  unfold zJ7
  refine zKg ?_
  refine fun w hw=>?_
  refine hg (show Holds B (vY G ⟨none,0,0⟩ []::_) w from hw.zAv G.tK 1) ?_
  exact zI (h2 x h6 hsplit ⟨s.a,2,2⟩ kd r s2 ⟨none,0,0⟩ mb)
end
end Bt
end
section
open Go Go.RowKit
namespace Bt
section
variable {κ:Type} {G:BtT κ} {c:κ→κ→Int} {B:World} {Γ Δ:List zB}
abbrev Kid (G:BtT κ):=Nat×List G.It
def ptr (q:Kid G):Option Addr:=some ⟨q.1,0,none⟩
def psL (q0:Kid G) (ps:List (G.It×Kid G)):List G.It:=q0.2++ps.flatMap fun p=>p.1::p.2.2
def zAE (l:List (Kid G×G.It)):List G.It:=l.flatMap fun p=>p.1.2++[p.2]
def jS (r:List (G.It×Kid G)):List G.It:=r.flatMap fun p=>p.1::p.2.2
theorem zZk:∀ (i:Nat) (q0:Kid G) (ps:List (G.It×Kid G)),i ≤ ps.length→∃ l q r,l.length = i∧ps.map Prod.fst = l.map Prod.snd++r.map Prod.fst∧q0::ps.map Prod.snd = l.map Prod.fst++q::r.map Prod.snd∧psL q0 ps = zAE l++q.2++jS r
 | 0,q0,ps,_=>⟨[],q0,ps,rfl,rfl,rfl,by simp [psL,zAE,jS]⟩
 | i + 1,q0,[],h=>by simp at h
 | i + 1,q0,(x,q1)::ps,h=>by
  obtain ⟨l,q,r,h1,h2,h3,h4⟩:=zZk i q1 ps (by simpa using h)
  refine ⟨(q0,x)::l,q,r,by simp [h1],by simp [h2],by simp only [List.map_cons,List.cons_append,← h3],?_⟩
  have:psL q0 ((x,q1)::ps) = q0.2++x::psL q1 ps:=by simp [psL]
  rw [this,h4]
  simp [zAE]
theorem zRd:∀ (l:List (Kid G×G.It)) (q:Kid G) (r:List (G.It×Kid G)),∃ q0 ps,ps.length = l.length + r.length∧ps.map Prod.fst = l.map Prod.snd++r.map Prod.fst∧q0::ps.map Prod.snd = l.map Prod.fst++q::r.map Prod.snd∧psL q0 ps = zAE l++q.2++jS r
 | [],q,r=>⟨q,r,by simp,rfl,rfl,by simp [psL,zAE,jS]⟩
 | (p,x)::l,q,r=>by
  obtain ⟨q0,ps,h1,h2,h3,h4⟩:=zRd l q r
  refine ⟨p,(x,q0)::ps,by simp [h1]; omega,by simp [h2],by simp only [List.map_cons,List.cons_append,← h3],?_⟩
  have:psL p ((x,q0)::ps) = p.2++x::psL q0 ps:=by simp [psL]
  rw [this,h4]
  simp [zAE]
theorem Srt.sub {ν:Type} {L M:List (κ×ν)} (h:Srt c L) (hs:M.Sublist L):Srt c M:=List.Pairwise.sublist hs h
theorem zQZ (ok:BtOk G c) {k:κ}:∀ (l:List (Kid G×G.It)),Srt c (zAE l)→(∀ x ∈ l.map Prod.snd,c x.1 k < 0)→∀ y ∈ zAE l,c y.1 k < 0
 | [],_,_,y,hy=>by simp [zAE] at hy
 | (p,x)::l,hs,h,y,hy=>by
  have e:zAE ((p,x)::l) = (p.2++[x])++zAE l:=rfl
  rw [e] at hs hy
  have hx:c x.1 k < 0:=h x (by simp)
  rcases List.mem_append.1 hy with hy | hy
  ·rcases List.mem_append.1 hy with hy | hy
   ·have h1:=(List.pairwise_append.1 (List.pairwise_append.1 hs).1).2.2 y hy x (by simp)
    exact ok.tr h1 hx
   ·rw [List.mem_singleton.1 hy]; exact hx
  ·exact zQZ ok l (List.pairwise_append.1 hs).2.1 (fun z hz=>h z (by simp at hz ⊢; exact .inr hz)) y hy
theorem zRe (ok:BtOk G c) {k:κ}:∀ (r:List (G.It×Kid G)),Srt c (jS r)→(∀ x ∈ r.map Prod.fst,c k x.1 < 0)→∀ y ∈ jS r,c k y.1 < 0
 | [],_,_,y,hy=>by simp [jS] at hy
 | (x,q)::r,hs,h,y,hy=>by
  have e:jS ((x,q)::r) = (x::q.2)++jS r:=rfl
  rw [e] at hs hy
  have hx:c k x.1 < 0:=h x (by simp)
  rcases List.mem_append.1 hy with hy | hy
  ·rcases List.mem_cons.1 hy with rfl | hy
   ·exact hx
   ·exact ok.tr hx ((List.pairwise_cons.1 (List.pairwise_append.1 hs).1).1 y hy)
  ·exact zRe ok r (List.pairwise_append.1 hs).2.1 (fun z hz=>h z (by simp at hz ⊢; exact .inr hz)) y hy
theorem zNi (q0:Kid G):∀ (ps:List (G.It×Kid G)),(ps.map Prod.fst).Sublist (psL q0 ps)
 | []=>by simp
 | (x,q)::ps=>by
  have:psL q0 ((x,q)::ps) = q0.2++x::psL q ps:=by simp [psL]
  rw [this,List.map_cons]
  exact ((zNi q ps).cons_cons x).trans (List.sublist_append_right _ _)
def zGO (c:κ→κ→Int) {ν:Type} (z:ν) (L:List (κ×ν)) (k:κ) (v:ν) (L':List (κ×ν)) (old:ν) (had:Bool):Prop :=
 (∃ A C,L = A++(k,old)::C∧L' = A++(k,v)::C∧had = true)∨(∃ A C,L = A++C∧(∀ x ∈ A,c x.1 k < 0)∧(∀ x ∈ C,c k x.1 < 0)∧L' = A++(k,v)::C∧old = z∧had = false)
theorem zGO.mid {ν:Type} {z v old:ν} {A C L L':List (κ×ν)} {k:κ} {had:Bool} (hA:∀ x ∈ A,c x.1 k < 0) (hC:∀ x ∈ C,c k x.1 < 0) (h:zGO c z L k v L' old had):zGO c z (A++L++C) k v (A++L'++C) old had:=by
 rcases h with ⟨A',C',rfl,rfl,rfl⟩ | ⟨A',C',rfl,h1,h2,rfl,rfl,rfl⟩
 ·exact .inl ⟨A++A',C'++C,by simp,by simp,rfl⟩
 ·refine .inr ⟨A++A',C'++C,by simp,fun x hx=>?_,fun x hx=>?_,by simp,rfl,rfl⟩
  ·rcases List.mem_append.1 hx with hx | hx
   ·exact hA x hx
   ·exact h1 x hx
  ·rcases List.mem_append.1 hx with hx | hx
   ·exact h2 x hx
   ·exact hC x hx
def qQ (G:BtT κ):Nat→Nat→Nat→List G.It→zB
 | 0,m,b,L=>ex fun s=>ex fun kd=>Sep.stars [pur ((m = 2→L ≠ [])∧L.length ≤ 5),qZ G b s kd,vg G s L,vY G kd []]
 | d + 1,m,b,L=>ex fun s=>ex fun kd=>ex fun q0:Kid G=>ex fun ps:List (G.It×Kid G)=>Sep.stars [pur ((1 ≤ m→ps ≠ [])∧ps.length ≤ 5∧L = psL q0 ps),qZ G b s kd,vg G s (ps.map Prod.fst),vY G kd ((q0::ps.map Prod.snd).map ptr),
   Sep.stars ((q0::ps.map Prod.snd).map fun q=>qQ G d 2 q.1 q.2)]
instance (priority:=high) zZl {d m b:Nat} {L:List G.It}:Own b (qQ G d m b L::Γ) (qQ G d m b L) Γ:=⟨.refl _⟩
theorem zNj {m b:Nat} {L:List G.It} {k:K} (h:∀ s kd,(m = 2→L ≠ [])→L.length ≤ 5→HG B (qZ G b s kd::vg G s L::vY G kd []::Γ) k):HG B (qQ G 0 m b L::Γ) k :=
 zEi (A':=ex fun s=>ex fun kd=>Sep.stars [pur ((m = 2→L ≠ [])∧L.length ≤ 5),qZ G b s kd,vg G s L,vY G kd []]) (fun _ h=>h) <| zD3 fun s=>zD3 fun kd=>zCY <| zHd fun ⟨h1,h2⟩=>h s kd h1 h2
theorem zHi {m b:Nat} {L:List G.It} {k:K} {s kd:Sl} (h1:m = 2→L ≠ []) (h2:L.length ≤ 5) (h:HG B (qQ G 0 m b L::Γ) k):HG B (qZ G b s kd::vg G s L::vY G kd []::Γ) k :=
 zWG (p:=(m = 2→L ≠ [])∧L.length ≤ 5) ⟨h1,h2⟩ <| zOx (Δ:=[pur ((m = 2→L ≠ [])∧L.length ≤ 5),qZ G b s kd,vg G s L,vY G kd []]) <| zUJ (F:=fun kd=>Sep.stars [pur ((m = 2→L ≠ [])∧L.length ≤ 5),qZ G b s kd,vg G s L,vY G kd []]) kd<|
  zUJ (F:=fun s=>ex fun kd=>Sep.stars [pur ((m = 2→L ≠ [])∧L.length ≤ 5),qZ G b s kd,vg G s L,vY G kd []]) s <| zEi (fun _ h=>h) h
abbrev vC (G:BtT κ) (d:Nat) (ks:List (Kid G)):zB:=Sep.stars (ks.map fun q=>qQ G d 2 q.1 q.2)
theorem zNk {d m b:Nat} {L:List G.It} {k:K} (h:∀ s kd q0 ps,(1 ≤ m→ps ≠ [])→ps.length ≤ 5→L = psL q0 ps→HG B (qZ G b s kd::vg G s (ps.map Prod.fst)::vY G kd ((q0::ps.map Prod.snd).map ptr)::vC G d (q0::ps.map Prod.snd)::Γ) k):HG B (qQ G (d + 1) m b L::Γ) k :=
 zEi (A':=ex fun s=>ex fun kd=>ex fun q0:Kid G=>ex fun ps:List (G.It×Kid G)=>Sep.stars [pur ((1 ≤ m→ps ≠ [])∧ps.length ≤ 5∧L = psL q0 ps),qZ G b s kd,vg G s (ps.map Prod.fst),vY G kd ((q0::ps.map Prod.snd).map ptr),vC G d (q0::ps.map Prod.snd)]) (fun _ h=>h)<|
  zD3 fun s=>zD3 fun kd=>zD3 fun q0=>zD3 fun ps=>zCY <| zHd fun ⟨h1,h2,h3⟩=>h s kd q0 ps h1 h2 h3
theorem zGd {d m b:Nat} {q0:Kid G} {ps:List (G.It×Kid G)} {k:K} {s kd:Sl} (h1:1 ≤ m→ps ≠ []) (h2:ps.length ≤ 5) (h:HG B (qQ G (d + 1) m b (psL q0 ps)::Γ) k) :
  HG B (qZ G b s kd::vg G s (ps.map Prod.fst)::vY G kd ((q0::ps.map Prod.snd).map ptr)::vC G d (q0::ps.map Prod.snd)::Γ) k:=fun w hw=>by
 refine h w ?_
 have h3:Holds B (Sep.stars [pur ((1 ≤ m→ps ≠ [])∧ps.length ≤ 5∧psL q0 ps = psL q0 ps),qZ G b s kd,vg G s (ps.map Prod.fst),vY G kd ((q0::ps.map Prod.snd).map ptr),vC G d (q0::ps.map Prod.snd)]::Γ) w:=Holds.flat.2 (Holds.pur.2 ⟨⟨h1,h2,rfl⟩,hw⟩)
 exact h3.imp fun g hg=>⟨s,kd,q0,ps,hg⟩
theorem zO3 {d:Nat} {A C:List (Kid G)} {q:Kid G}:(((A++q::C).map fun q=>qQ G d 2 q.1 q.2)++Γ).Perm (((A++C).map fun q=>qQ G d 2 q.1 q.2)++qQ G d 2 q.1 q.2::Γ):=by
 have h2:((A++q::C).map fun q=>qQ G d 2 q.1 q.2).Perm (qQ G d 2 q.1 q.2::(A++C).map fun q=>qQ G d 2 q.1 q.2):=(List.perm_middle (a:=q) (l₁:=A) (l₂:=C)).map _
 refine (h2.append_right Γ).trans ?_
 exact (List.perm_middle (a:=qQ G d 2 q.1 q.2) (l₁:=(A++C).map fun q=>qQ G d 2 q.1 q.2) (l₂:=Γ)).symm
theorem zUT {d:Nat} {A C:List (Kid G)} {q:Kid G} {k:K} (h:HG B (qQ G d 2 q.1 q.2::vC G d (A++C)::Γ) k):HG B (vC G d (A++q::C)::Γ) k:=fun w hw=>
 h w (Holds.flat.2 ((Holds.flat.1 hw).perm zO3)).swap
theorem zEl {d:Nat} {A C:List (Kid G)} {q:Kid G} {k:K} (h:HG B (vC G d (A++q::C)::Γ) k):HG B (qQ G d 2 q.1 q.2::vC G d (A++C)::Γ) k:=fun w hw=>
 h w (Holds.flat.2 ((Holds.flat.1 hw.swap).perm zO3.symm))
end
end Bt
end
section
open Go Go.RowKit
namespace Bt
section
variable {κ:Type} {G:BtT κ} {c:κ→κ→Int} {B:World} {Γ Δ:List zB}
theorem zRf {A C:List G.It} {k:κ} {v0 v:Cel G.nv}:zCg ((A++(k,v0)::C).flatMap G.f) (A.length * (G.nv + 1) + 1) v.1 = (A++(k,v)::C).flatMap G.f:=by
 have e1:(A++(k,v0)::C).flatMap G.f = (A.flatMap G.f++[G.kV k])++(v0.1++C.flatMap G.f):=by simp [BtT.f]
 have e2:(A++(k,v)::C).flatMap G.f = (A.flatMap G.f++[G.kV k])++(v.1++C.flatMap G.f):=by simp [BtT.f]
 rw [e1,e2,zEI (by simp [yu G.f _ G.uj]) (by rw [v0.2.1,v.2.1])]
theorem zO4 {A C:List G.It} {k:κ} {v0:Cel G.nv}:(((A++(k,v0)::C).flatMap G.f).drop (A.length * (G.nv + 1) + 1)).take G.nv = v0.1:=by
 have e1:(A++(k,v0)::C).flatMap G.f = (A.flatMap G.f++[G.kV k])++(v0.1++C.flatMap G.f):=by simp [BtT.f]
 rw [e1,show A.length * (G.nv + 1) + 1 = (A.flatMap G.f++[G.kV k]).length by simp [yu G.f _ G.uj],List.drop_left,List.take_left' v0.2.1]
theorem zMP {A C:List G.It} {x:G.It}:((A++C).flatMap G.f).take (A.length * (G.nv + 1))++G.f x++((A++C).flatMap G.f).drop (A.length * (G.nv + 1)) = (A++x::C).flatMap G.f:=by
 rw [zEk G.uj,zEj G.uj,List.take_left,List.drop_left]
 simp
theorem zUU {A C:List (Option Addr)} {x:Option Addr}:((A++C).map Value.pointer).take (A.length * 1)++[Value.pointer x]++((A++C).map Value.pointer).drop (A.length * 1) = (A++x::C).map Value.pointer:=by
 rw [Nat.mul_one,← List.map_take,← List.map_drop,List.take_left,List.drop_left]
 simp
theorem zNl {d:Nat} {A C:List (Kid G)} {k:K} (h:HG B (vC G d A::vC G d C::Γ) k):HG B (vC G d (A++C)::Γ) k:=fun w hw=>by
 have h1:=Holds.flat.1 hw
 rw [List.map_append,List.append_assoc] at h1
 have h2:Holds B ((C.map fun q=>qQ G d 2 q.1 q.2)++vC G d A::Γ) w:=(Holds.flat.2 h1).perm List.perm_middle.symm
 exact h w (Holds.flat.2 h2).swap
theorem zQa {q0:Kid G} {ps:List (G.It×Kid G)} {A C:List G.It} (e:ps.map Prod.fst = A++C):∃ l q r,A = l.map Prod.snd∧C = r.map Prod.fst∧q0::ps.map Prod.snd = l.map Prod.fst++q::r.map Prod.snd∧psL q0 ps = zAE l++q.2++jS r∧ps.length = l.length + r.length:=by
 have hl:=congrArg List.length e
 simp only [List.length_map,List.length_append] at hl
 obtain ⟨l,q,r,h1,h2,h3,h4⟩:=zZk A.length q0 ps (by omega)
 rw [e] at h2
 obtain ⟨h5,h6⟩:=List.append_inj h2 (by simp [h1])
 refine ⟨l,q,r,h5,h6,h3,h4,?_⟩
 rw [hl,h6,h1,List.length_map]
theorem zMQ (ok:BtOk G c):∀ (d:Nat) {m b:Nat} {M:List G.It} {k:κ} {v:Cel G.nv} {Γ:List zB} {Q:Array Value→Bool→Option Addr→Option Addr→K},1 ≤ m→Srt c M →
  (∀ M' old had,zGO c (G.z0 ok.vz) M k v M' old had→HG B (qQ G d 2 b M'::Γ) (Q old.1.toArray had none none)) →
  (∀ M1 x M2 old had r mb,zGO c (G.z0 ok.vz) M k v (M1++x::M2) old had→HG B (blk mb (.cells (G.f x).toArray G.tI (0,0))::qQ G d 2 b M1::qQ G d 2 r M2::Γ) (Q old.1.toArray had (some ⟨mb,0,none⟩) (some ⟨r,0,none⟩))) →
  HG B (qQ G d m b M::Γ) (G.nputC (some ⟨b,0,none⟩) (G.f (k,v)).toArray Q):=by
 intro d
 induction d with
 | zero=>
  intro m b M k v Γ Q hm hs h1 h2
  refine fun w hw=>ok.put _ _ _ _ ?_
  refine hg hw ?_
  clear hw w
  refine zNj fun s kd _ hl=>?_
  refine vw kd fun m1 m2 m3 m4=>?_
  unfold zYL
  refine ql fun x3=>?_
  refine ql fun o=>?_
  refine yE (b:=x3) (x:=k) ?_
  refine zKf ok (s:=s) (kd:=kd) hs (by omega) (fun A v0 C e=>?_) fun A C e hA hC=>?_
  ·subst e
   refine s_t ?_
   refine xM ?_
   refine vw s fun l1 l2 l3 l4=>?_
   rw [yu G.f _ G.uj] at l1
   have hn:s.n = (A++(k,v0)::C).length:=(Nat.eq_of_mul_eq_mul_right (by omega) l1).symm
   have hlen:(A++(k,v0)::C).length = A.length + (C.length + 1):=List.length_append
   refine yE (b:=b) (x:=s) ?_
   refine zCQ (s:=s) (i:=A.length) ?_
   refine zFa (s:=s) (l':=v0.1) zO4 v0.2.1 ?_
   refine zDI (b:=o) ?_ ok.vz.1 v0.2.1 v0.2.2
   refine zAQ ?_
   refine yE (b:=b) (x:=s) ?_
   refine zDH (b:=x3) (off:=0 + 1) (l:=G.f (k,v)) (l':=v.1) ?_ (List.take_of_length_le (Nat.le_of_eq v.2.1)) v.2.1
   refine zCQ (s:=s) (i:=A.length) ?_
   refine zUM (s:=s) ?_ v.2.1 ?_ v.2.2
   rotate_left
   ·rw [yu G.f _ G.uj,hlen,Nat.add_mul,Nat.add_mul]; omega
   rw [zRf]
   refine zKg (v:=v0) ?_
   refine zI (Δ:=qZ G b s kd::vg G s (A++(k,v)::C)::vY G kd []::Γ) ?_
   refine zHi (m:=2) (by simp) (by simpa using hl) (h1 _ _ _ (.inl ⟨A,C,rfl,rfl,rfl⟩))
  ·subst e
   refine s_f ?_
   refine xM ?_
   refine yE (b:=b) (x:=kd) ?_
   refine s_t ?_ (by simpa using m1.symm)
   refine zAQ ?_
   refine zIc ?_
   refine jR (b:=b) (x:=s) ?_
   refine zKd (b:=x3) (l':=G.f (k,v)) ?_ (List.take_of_length_le (by simp [G.uj])) (G.uj _)
   refine zGu ?_ (by simp [ok.vz.1]) (G.uj _)
   refine ql fun t=>?_
   refine zBb ?_
   obtain ⟨R,rot,hins⟩:=ok.insI
   refine vw s fun l1 l2 l3 l4=>?_
   rw [yu G.f _ G.uj] at l1
   have hn:s.n = (A++C).length:=(Nat.eq_of_mul_eq_mul_right (by omega) l1).symm
   have hlen:(A++C).length = A.length + C.length:=List.length_append
   refine fun w hw=>hins _ _ _ _ _ ?_
   refine hg hw ?_
   clear hw w
   refine zUO (s:=s) (i:=A.length) (t:=t) (by omega) (by omega) (G.uj _) (by omega) (zJ9 ok _) (zNh ok _) (fun s' hs'=>?_) ok.TI ok.ZI
   rw [zMP]
   refine zAd (b:=b) ?_
   refine zI (Δ:=zBD G o (G.z0 ok.vz)::qZ G b s' kd::vg G s' (A++(k,v)::C)::vY G kd []::Γ) ?_
   have hput:zGO c (G.z0 ok.vz) (A++C) k v (A++(k,v)::C) (G.z0 ok.vz) false:=.inr ⟨A,C,rfl,hA,hC,rfl,rfl,rfl⟩
   refine zYO ok (by simp; omega) (.inl rfl) (fun h5=>?_) fun x h6 hx s1 c1 r s2 c2 mb=>?_
   ·refine zHi (m:=2) (by simp) h5 (h1 _ _ _ hput)
   ·have h7:=h2 ((A++(k,v)::C).take 2) x ((A++(k,v)::C).drop 3) _ _ r mb (by rw [← hx]; exact hput)
    simp only [List.take_nil,List.drop_nil]
    refine zI (Δ:=qZ G b s1 c1::vg G s1 ((A++(k,v)::C).take 2)::vY G c1 []::qZ G r s2 c2::vg G s2 ((A++(k,v)::C).drop 3)::vY G c2 []::blk mb (.cells (G.f x).toArray G.tI (0,0))::Γ) ?_
    refine zHi (m:=2) (fun _ h=>?_) (by rw [List.length_take]; omega) ?_
    ·have:=congrArg List.length h; simp only [List.length_take,List.length_nil] at this; omega
    refine zI (Δ:=qZ G r s2 c2::vg G s2 ((A++(k,v)::C).drop 3)::vY G c2 []::blk mb (.cells (G.f x).toArray G.tI (0,0))::qQ G 0 2 b ((A++(k,v)::C).take 2)::Γ) ?_
    refine zHi (m:=2) (fun _ h=>?_) (by rw [List.length_drop]; omega) ?_
    ·have:=congrArg List.length h; simp only [List.length_drop,List.length_nil] at this; omega
    exact zI h7
 | succ d ih=>
  intro m b M k v Γ Q hm hs h1 h2
  refine fun w hw=>ok.put _ _ _ _ ?_
  refine hg hw ?_
  clear hw w
  refine zNk fun s kd q0 ps hne hl hM=>?_
  subst hM
  unfold zYL
  refine ql fun x3=>?_
  refine ql fun o=>?_
  refine yE (b:=x3) (x:=k) ?_
  refine zKf ok (s:=s) (kd:=kd) (hs.sub (zNi q0 ps)) (by simp; omega) (fun A v0 C e=>?_) fun A C e hA hC=>?_
  ·obtain ⟨l,q,r,hA,hC,hK,hL,hlen⟩:=zQa (q0:=q0) e
   rw [e,hK]
   rw [hL] at hs h1 h2
   obtain ⟨⟨xx,q1⟩,r,rfl,hxx,hC'⟩:=List.map_eq_cons_iff.1 hC.symm
   simp only at hxx
   subst hxx
   subst hA
   subst hC'
   refine s_t ?_
   refine xM ?_
   refine vw s fun l1 l2 l3 l4=>?_
   rw [yu G.f _ G.uj] at l1
   have hil:(l.map Prod.snd++(k,v0)::r.map Prod.fst).length = (l.map Prod.snd).length + (r.length + 1):=by simp
   have hn:s.n = (l.map Prod.snd).length + (r.length + 1):=by rw [← hil]; exact (Nat.eq_of_mul_eq_mul_right (by omega) l1).symm
   refine yE (b:=b) (x:=s) ?_
   refine zCQ (s:=s) (i:=(l.map Prod.snd).length) ?_
   refine zFa (s:=s) (l':=v0.1) zO4 v0.2.1 ?_
   refine zDI (b:=o) ?_ ok.vz.1 v0.2.1 v0.2.2
   refine zAQ ?_
   refine yE (b:=b) (x:=s) ?_
   refine zDH (b:=x3) (off:=0 + 1) (l:=G.f (k,v)) (l':=v.1) ?_ (List.take_of_length_le (Nat.le_of_eq v.2.1)) v.2.1
   refine zCQ (s:=s) (i:=(l.map Prod.snd).length) ?_
   refine zUM (s:=s) ?_ v.2.1 ?_ v.2.2
   rotate_left
   ·rw [yu G.f _ G.uj,hil,Nat.add_mul,Nat.add_mul]; omega
   rw [zRf]
   refine zKg (v:=v0) ?_
   obtain ⟨q0',ps',e1,e2,e3,e4⟩:=zRd l q (((k,v),q1)::r)
   have e5:l.map Prod.fst++q::(((k,v0),q1)::r).map Prod.snd = q0'::ps'.map Prod.snd:=e3.symm
   have e6:l.map Prod.snd++(k,v)::r.map Prod.fst = ps'.map Prod.fst:=e2.symm
   rw [e5,e6]
   refine zI (Δ:=qZ G b s kd::vg G s (ps'.map Prod.fst)::vY G kd ((q0'::ps'.map Prod.snd).map ptr)::vC G d (q0'::ps'.map Prod.snd)::Γ) ?_
   simp only [List.length_cons] at hlen e1
   refine zGd (m:=2) (fun _ h=>?_) (by omega) ?_
   ·rw [h,List.length_nil] at e1; omega
   refine h1 _ _ _ (.inl ⟨zAE l++q.2,q1.2++jS r,?_,?_,rfl⟩)
   ·simp [jS]
   ·rw [e4]; simp [jS]
  ·obtain ⟨l,q,r,rfl,rfl,hK,hL,hlen⟩:=zQa (q0:=q0) e
   rw [e,hK]
   rw [hL] at hs h1 h2
   refine s_f ?_
   refine xM ?_
   have hkl:((l.map Prod.fst++q::r.map Prod.snd).map ptr).length = l.length + r.length + 1:=by simp; omega
   refine vw kd fun m1 m2 m3 m4=>?_
   rw [zUS,hkl] at m1
   refine vw s fun l1 l2 l3 l4=>?_
   rw [yu G.f _ G.uj] at l1
   have hil:(l.map Prod.snd++r.map Prod.fst).length = l.length + r.length:=by simp
   have hn:s.n = l.length + r.length:=by rw [← hil]; exact (Nat.eq_of_mul_eq_mul_right (by omega) l1).symm
   refine yE (b:=b) (x:=kd) ?_
   refine s_f ?_ (by simp; omega)
   refine zAQ ?_
   refine yE (b:=b) (x:=kd) ?_
   refine zCQ (s:=kd) (i:=l.length) ?_ (by simp)
   refine zGv (s:=kd) (x:=ptr q) (by simp) ?_
   refine zDH (b:=x3) (l':=G.f (k,v)) ?_ (List.take_of_length_le (by simp [G.uj])) (G.uj _)
   refine jF (vC G d (l.map Prod.fst++q::r.map Prod.snd)) ?_
   refine zUT ?_
   have hs1:=List.pairwise_append.1 hs
   have hs2:=List.pairwise_append.1 hs1.1
   have hpre:=zQZ ok l hs2.1 hA
   have hpost:=zRe ok r hs1.2.1 hC
   refine ih (m:=2) (by omega) hs2.2.1 (fun M' old had hp=>?_) fun M1 x M2 old had rb mb hp=>?_
   ·refine zDI (b:=o) ?_ ok.vz.1 old.2.1 old.2.2
    refine s_f ?_
    refine zI (Δ:=zBD G o old::qZ G b s kd::vg G s (l.map Prod.snd++r.map Prod.fst)::vY G kd ((l.map Prod.fst++q::r.map Prod.snd).map ptr)::qQ G d 2 q.1 M'::vC G d (l.map Prod.fst++r.map Prod.snd)::Γ) ?_
    refine zYO ok (by omega) (.inr (by omega)) (fun h5=>?_) fun x h6 hx s1 c1 r s2 c2 mb=>(by omega)
    obtain ⟨q0',ps',e1,e2,e3,e4⟩:=zRd l (q.1,M') r
    refine zI (Δ:=qQ G d 2 q.1 M'::vC G d (l.map Prod.fst++r.map Prod.snd)::qZ G b s kd::vg G s (l.map Prod.snd++r.map Prod.fst)::vY G kd ((l.map Prod.fst++q::r.map Prod.snd).map ptr)::Γ) ?_
    refine zEl (q:=(q.1,M')) ?_
    have e5:(l.map Prod.fst++q::r.map Prod.snd).map ptr = (l.map Prod.fst++(q.1,M')::r.map Prod.snd).map ptr:=by simp [ptr]
    rw [e5,← e2,← e3]
    refine zI (Δ:=qZ G b s kd::vg G s (ps'.map Prod.fst)::vY G kd ((q0'::ps'.map Prod.snd).map ptr)::vC G d (q0'::ps'.map Prod.snd)::Γ) ?_
    refine zGd (m:=2) (fun _ h=>?_) (by omega) ?_
    ·rw [h] at e1; rw [List.length_nil] at e1
     exact hne hm (List.length_eq_zero_iff.1 (by omega))
    rw [e4]
    exact h1 _ _ _ (hp.mid hpre hpost)
   ·refine zDI (b:=o) ?_ ok.vz.1 old.2.1 old.2.2
    refine s_t ?_
    refine zAQ ?_
    refine zIc ?_
    refine xM ?_
    refine jR (b:=b) (x:=s) ?_
    refine zKd (b:=mb) (l':=G.f x) ?_ (List.take_of_length_le (by simp [G.uj])) (G.uj _)
    refine zGu ?_ (by simp [ok.vz.1]) (G.uj _)
    refine ql fun t=>?_
    refine zBb ?_
    obtain ⟨R,rot,hins⟩:=ok.insI
    refine fun w hw=>hins _ _ _ _ _ ?_
    refine hg hw ?_
    clear hw w
    refine zUO (s:=s) (i:=(l.map Prod.snd).length) (t:=t) (by simp; omega) (by omega) (G.uj _) (by omega) (zJ9 ok _) (zNh ok _) (fun s' hs'=>?_) ok.TI ok.ZI
    rw [zMP]
    refine zAd (b:=b) ?_
    refine yE (b:=b) (x:=kd) ?_
    refine zAn ?_ (by simp; omega) (by simp; omega)
    refine ql fun t2=>?_
    have hkp:(l.map Prod.fst++q::r.map Prod.snd).map ptr = (l.map Prod.fst++[q]).map ptr++(r.map Prod.snd).map ptr:=by simp
    rw [hkp]
    have hkA:((l.map Prod.fst++[q]).map ptr).length = l.length + 1:=by simp
    obtain ⟨R2,rot2,hins2⟩:=ok.zQY
    refine fun w hw=>hins2 _ _ _ _ _ ?_
    refine hg hw ?_
    clear hw w
    rw [show (((l.map Prod.snd).length:Nat):Int) + 1 = (((l.map Prod.fst++[q]).map ptr).length:Nat) by rw [hkA]; simp]
    refine zUO (s:=kd) (i:=((l.map Prod.fst++[q]).map ptr).length) (t:=t2) (us:=[Value.pointer (some ⟨rb,0,none⟩)]) (by omega) (by omega) rfl (by omega) (zRc _) (by simp [qC]) (fun kd' hkd'=>?_) ok.TK ok.ZK
    rw [zUU]
    refine zAd (b:=b) ?_
    obtain ⟨q0',ps',e1,e2,e3,e4⟩:=zRd l (q.1,M1) ((x,(rb,M2))::r)
    simp only [List.length_cons] at e1
    have e5:(l.map Prod.fst++[q]).map ptr++some ⟨rb,0,none⟩::(r.map Prod.snd).map ptr = (q0'::ps'.map Prod.snd).map ptr:=by rw [e3]; simp [ptr]
    have e6:l.map Prod.snd++x::r.map Prod.fst = ps'.map Prod.fst:=e2.symm
    rw [e5,e6]
    refine zI (Δ:=qQ G d 2 rb M2::vC G d (l.map Prod.fst++r.map Prod.snd)::qQ G d 2 q.1 M1::zBD G o old::qZ G b s' kd'::vg G s' (ps'.map Prod.fst)::vY G kd' ((q0'::ps'.map Prod.snd).map ptr)::Γ) ?_
    refine zEl (q:=(rb,M2)) ?_
    refine vD ?_
    refine zEl (q:=(q.1,M1)) ?_
    rw [show l.map Prod.fst++(q.1,M1)::(rb,M2)::r.map Prod.snd = q0'::ps'.map Prod.snd from e3.symm]
    have hput:zGO c (G.z0 ok.vz) (zAE l++q.2++jS r) k v (psL q0' ps') old had:=by
     rw [e4]
     have:=hp.mid hpre hpost
     simpa [jS] using this
    refine zI (Δ:=zBD G o old::qZ G b s' kd'::vg G s' (ps'.map Prod.fst)::vY G kd' ((q0'::ps'.map Prod.snd).map ptr)::vC G d (q0'::ps'.map Prod.snd)::Γ) ?_
    refine zYO ok (by simp; omega) (.inr (by simp)) (fun h5=>?_) fun y h6 hy s1 c1 r2 s2 c2 mb2=>?_
    ·rw [List.length_map] at h5
     refine zI (Δ:=qZ G b s' kd'::vg G s' (ps'.map Prod.fst)::vY G kd' ((q0'::ps'.map Prod.snd).map ptr)::vC G d (q0'::ps'.map Prod.snd)::Γ) ?_
     refine zGd (m:=2) (fun _ h=>?_) h5 (h1 _ _ _ hput)
     rw [h,List.length_nil] at e1; omega
    ·rw [List.length_map] at h6
     obtain ⟨P,p3,R,hP,e7⟩:∃ P p3 R,P.length = 2∧ps' = P++p3::R:=⟨ps'.take 2,ps'[2],ps'.drop 3,by rw [List.length_take]; omega,by rw [← List.drop_eq_getElem_cons,List.take_append_drop]⟩
     have hRl:R.length = 3:=by have:=congrArg List.length e7; simp only [List.length_append,List.length_cons] at this; omega
     have t1:(ps'.map Prod.fst).take 2 = P.map Prod.fst:=by rw [e7,List.map_append]; exact List.take_left' (by simp [hP])
     have t2:(ps'.map Prod.fst).drop 3 = R.map Prod.fst:=by rw [e7,show P++p3::R = (P++[p3])++R by simp,List.map_append]; exact List.drop_left' (by simp [hP])
     have t3:q0'::ps'.map Prod.snd = (q0'::P.map Prod.snd)++(p3.2::R.map Prod.snd):=by rw [e7]; simp
     have t4:((q0'::ps'.map Prod.snd).map ptr).take 3 = (q0'::P.map Prod.snd).map ptr:=by rw [t3,List.map_append]; exact List.take_left' (by simp [hP])
     have t5:((q0'::ps'.map Prod.snd).map ptr).drop 3 = (p3.2::R.map Prod.snd).map ptr:=by rw [t3,List.map_append]; exact List.drop_left' (by simp [hP])
     have t6:psL q0' ps' = psL q0' P++p3.1::psL p3.2 R:=by rw [e7]; simp [psL]
     have t7:y = p3.1:=by
      rw [t1,t2,e7] at hy
      simp only [List.map_append,List.map_cons,List.append_cancel_left_eq,List.cons.injEq] at hy
      exact hy.1.symm
     rw [t4,t5,t1,t2,t3,t7]
     refine jF (vC G d ((q0'::P.map Prod.snd)++(p3.2::R.map Prod.snd))) ?_
     refine zNl ?_
     refine zI (Δ:=qZ G b s1 c1::vg G s1 (P.map Prod.fst)::vY G c1 ((q0'::P.map Prod.snd).map ptr)::vC G d (q0'::P.map Prod.snd)::qZ G r2 s2 c2::vg G s2 (R.map Prod.fst)::vY G c2 ((p3.2::R.map Prod.snd).map ptr)::vC G d (p3.2::R.map Prod.snd)::blk mb2 (.cells (G.f p3.1).toArray G.tI (0,0))::Γ) ?_
     refine zGd (m:=2) (fun _ h=>by rw [h] at hP; cases hP) (by omega) ?_
     refine zI (Δ:=qZ G r2 s2 c2::vg G s2 (R.map Prod.fst)::vY G c2 ((p3.2::R.map Prod.snd).map ptr)::vC G d (p3.2::R.map Prod.snd)::blk mb2 (.cells (G.f p3.1).toArray G.tI (0,0))::qQ G (d + 1) 2 b (psL q0' P)::Γ) ?_
     refine zGd (m:=2) (fun _ h=>by rw [h] at hRl; cases hRl) (by omega) ?_
     exact zI (h2 _ _ _ _ _ r2 mb2 (t6 ▸ hput))
end
end Bt
end
section
open Go Go.RowKit
namespace Bt
section
variable {κ:Type} {G:BtT κ} {c:κ→κ→Int} {B:World} {Γ Δ:List zB}
def zA8 (G:BtT κ) (c:κ→κ→Int) (t:Nat) (L:List G.It):zB:=ex fun d=>ex fun b=>Sep.stars [pur (Srt c L),blk t (.cells [.pointer (some ⟨b,0,none⟩),.int .i64 L.length].toArray G.tT (0,0)),qQ G d 1 b L]
instance (priority:=high) zZm {t:Nat} {L:List G.It}:Own t (zA8 G c t L::Γ) (zA8 G c t L) Γ:=⟨.refl _⟩
theorem zQb {t:Nat} {L:List G.It} {k:K} (h:∀ d b,Srt c L→HG B (blk t (.cells [.pointer (some ⟨b,0,none⟩),.int .i64 L.length].toArray G.tT (0,0))::qQ G d 1 b L::Γ) k):HG B (zA8 G c t L::Γ) k :=
 zD3 fun d=>zD3 fun b=>zCY <| zHd fun h1=>h d b h1
theorem zWJ {t d b:Nat} {L:List G.It} {w:World} (h1:Srt c L) (hw:Holds B (blk t (.cells [.pointer (some ⟨b,0,none⟩),.int .i64 L.length].toArray G.tT (0,0))::qQ G d 1 b L::Γ) w):Holds B (zA8 G c t L::Γ) w:=by
 have h3:Holds B (Sep.stars [pur (Srt c L),blk t (.cells [.pointer (some ⟨b,0,none⟩),.int .i64 L.length].toArray G.tT (0,0)),qQ G d 1 b L]::Γ) w:=Holds.flat.2 (Holds.pur.2 ⟨h1,hw⟩)
 exact h3.imp fun g hg=>⟨d,b,hg⟩
theorem zEJ {t d b:Nat} {L:List G.It} {k:K} (h1:Srt c L) (h:HG B (zA8 G c t L::Γ) k):HG B (blk t (.cells [.pointer (some ⟨b,0,none⟩),.int .i64 L.length].toArray G.tT (0,0))::qQ G d 1 b L::Γ) k:=fun w hw=>h w (zWJ h1 hw)
theorem zUV {t:Nat} {L:List G.It} {k:K} (h:Srt c L→HG B (zA8 G c t L::Γ) k):HG B (zA8 G c t L::Γ) k:=zQb fun d b h1=>zEJ h1 (h h1)
theorem zSd {Q:Option Addr→K} (h:∀ t,HG B (zA8 G c t []::Γ) (Q (some ⟨t,0,none⟩))):HG B Γ (zYK G Q):=by
 unfold zYK
 refine ql fun b=>?_
 refine ql fun t=>?_
 refine fun w hw=>?_
 refine hg (show Holds B (SlC G.tI (G.nv + 1) ⟨none,0,0⟩ []::_) w from hw.zAv G.tI (G.nv + 1)) ?_
 refine fun w hw=>?_
 refine hg (show Holds B (SlC G.tK 1 ⟨none,0,0⟩ []::_) w from hw.zAv G.tK 1) ?_
 refine zI (Δ:=qZ G b ⟨none,0,0⟩ ⟨none,0,0⟩::SlC G.tI (G.nv + 1) ⟨none,0,0⟩ []::SlC G.tK 1 ⟨none,0,0⟩ []::blk t (.cells [.pointer (some ⟨b,0,none⟩),.int .i64 0].toArray G.tT (0,0))::Γ) ?_
 refine zHi (m:=1) (L:=[]) (by simp) (by simp) ?_
 refine vD ?_
 exact zEJ (L:=[]) List.Pairwise.nil (h t)
theorem qQ.weak {d m m' b:Nat} {L:List G.It} (hm:m' = 2→m = 2) (hm':1 ≤ m'→1 ≤ m):∀ h,qQ G d m b L h→qQ G d m' b L h:=fun h hh=>by
 cases d with
 | zero=>
  obtain ⟨s,kd,hh⟩:=hh
  exact ⟨s,kd,zBH (fun g hg=>⟨fun h2=>hg.1 (hm h2),hg.2⟩) (fun _ h=>h) hh⟩
 | succ d=>
  obtain ⟨s,kd,q0,ps,hh⟩:=hh
  exact ⟨s,kd,q0,ps,zBH (fun g hg=>⟨fun h2=>hg.1 (hm' h2),hg.2⟩) (fun _ h=>h) hh⟩
theorem zGO.srt (ok:BtOk G c) {ν:Type} {z v old:ν} {L L':List (κ×ν)} {k:κ} {had:Bool} (h:zGO c z L k v L' old had) (hs:Srt c L):Srt c L':=by
 rcases h with ⟨A,C,rfl,rfl,rfl⟩ | ⟨A,C,rfl,h1,h2,rfl,rfl,rfl⟩
 ·obtain ⟨a1,a2,a3⟩:=List.pairwise_append.1 hs
  obtain ⟨b1,b2⟩:=List.pairwise_cons.1 a2
  refine List.pairwise_append.2 ⟨a1,List.pairwise_cons.2 ⟨fun y hy=>b1 y hy,b2⟩,fun x hx y hy=>?_⟩
  rcases List.mem_cons.1 hy with rfl | hy
  ·exact a3 x hx (k,old) List.mem_cons_self
  ·exact a3 x hx y (List.mem_cons_of_mem _ hy)
 ·obtain ⟨a1,a2,a3⟩:=List.pairwise_append.1 hs
  refine List.pairwise_append.2 ⟨a1,List.pairwise_cons.2 ⟨fun y hy=>h2 y hy,a2⟩,fun x hx y hy=>?_⟩
  rcases List.mem_cons.1 hy with rfl | hy
  ·exact h1 x hx
  ·exact a3 x hx y hy
theorem zGO.len {ν:Type} {z v old:ν} {L L':List (κ×ν)} {k:κ} {had:Bool} (h:zGO c z L k v L' old had):L'.length = L.length + (if had then 0 else 1):=by
 rcases h with ⟨A,C,rfl,rfl,rfl⟩ | ⟨A,C,rfl,h1,h2,rfl,rfl,rfl⟩
 ·simp
 ·simp; omega
theorem zWK {kz a:Value} {vz us:List Value} {n:Nat} (ha:qC a = true) (hz:vz.length = n) (hu:us.length = n):Instr.fill ([(0,1),(1,n)][·]?) (kz::vz).toArray [(0,a),(1,.agg us.toArray)] = some (a::us).toArray:=by
 have h0:a.cells = #[a]:=by cases a <;> first | rfl | (simp [qC] at ha)
 have h1:(Value.agg us.toArray).cells = us.toArray:=rfl
 have e0:([(0,1),(1,n)]:List (Nat×Nat))[0]? = some (0,1):=rfl
 have e1:([(0,1),(1,n)]:List (Nat×Nat))[1]? = some (1,n):=rfl
 simp only [Instr.fill,h0,h1,e0,e1]
 have h2:=zCc us [a] vz (by simp; omega)
 simp [hu,hz]
 refine ⟨by omega,?_⟩
 rw [show [a].length = 1 from rfl,List.zipIdx_eq_map_add,List.foldl_map] at h2
 simpa [Nat.add_comm] using h2
theorem zRg (ok:BtOk G c) {o t6:Nat} {old:Cel G.nv} {v6:Cel G.nv} {had:Bool} {Q:Array Value→Bool→K} (h:HG B Γ (Q old.1.toArray had)):HG B (zBD G o old::zBD G t6 v6::Γ) (zJ8 G Q ⟨t6,0,none⟩ ⟨o,0,none⟩ had):=by
 unfold zJ8
 have e:(old.1.drop 0).take G.nv = old.1:=by rw [List.drop_zero,List.take_of_length_le (Nat.le_of_eq old.2.1)]
 refine zDH (b:=o) ?_ e old.2.1
 refine zDI (b:=t6) ?_ v6.2.1 old.2.1 old.2.2
 refine zDH (b:=t6) ?_ e old.2.1
 exact zI h
theorem zNm (ok:BtOk G c) {o t t6 d b n:Nat} {L L':List G.It} {k:κ} {v old v6:Cel G.nv} {had:Bool} {Q:Array Value→Bool→K} (hs:Srt c L) (hL:L.length < 1000000000) (hp:zGO c (G.z0 ok.vz) L k v L' old had)
  (h:HG B (zA8 G c t L'::Γ) (Q old.1.toArray had)) :
  HG B (zBD G o old::zBD G t6 v6::blk t (.cells [.pointer (some ⟨b,0,none⟩),.int .i64 L.length].toArray G.tT (0,0))::qQ G d 1 b L'::Γ) (zHh G Q (some ⟨t,0,none⟩) ⟨t6,0,none⟩ ⟨o,0,none⟩ had):=by
 unfold zHh
 have hlen:=hp.len
 refine yA (fun hb=>?_) fun hb=>?_
 ·have h0:had = false:=by simpa using hb
  refine xM ?_
  refine yE (b:=t) (x:=(L.length:Int)) ?_
  refine zAn ?_
  refine zAd (b:=t) ?_
  rw [show ((L.length:Nat):Int) + 1 = ((L'.length:Nat):Int) by rw [hlen,h0]; simp]
  refine zI (Δ:=zBD G o old::zBD G t6 v6::blk t (.cells [.pointer (some ⟨b,0,none⟩),.int .i64 L'.length].toArray G.tT (0,0))::qQ G d 1 b L'::Γ) ?_
  refine zRg ok ?_
  exact zEJ (hp.srt ok hs) h
 ·have h0:had = true:=by simpa using hb
  rw [show ((L.length:Nat):Int) = ((L'.length:Nat):Int) by rw [hlen,h0]; simp]
  refine zRg ok ?_
  exact zEJ (hp.srt ok hs) h
theorem zRh (ok:BtOk G c) {o t t6 d b n:Nat} {L L':List G.It} {k:κ} {v old v6:Cel G.nv} {had:Bool} {Q:Array Value→Bool→K} (hs:Srt c L) (hL:L.length < 1000000000) (hp:zGO c (G.z0 ok.vz) L k v L' old had)
  (h:HG B (zA8 G c t L'::Γ) (Q old.1.toArray had)) :
  HG B (zBD G o old::zBD G t6 v6::blk t (.cells [.pointer (some ⟨b,0,none⟩),.int .i64 L.length].toArray G.tT (0,0))::qQ G d 2 b L'::Γ) (zF8 G Q (some ⟨t,0,none⟩) ⟨t6,0,none⟩ ⟨o,0,none⟩ had none none):=by
 unfold zF8
 refine s_f ?_
 refine vH b ?_
 refine zEi (qQ.weak (m':=1) (by simp) (by simp)) ?_
 refine zI (Δ:=zBD G o old::zBD G t6 v6::blk t (.cells [.pointer (some ⟨b,0,none⟩),.int .i64 L.length].toArray G.tT (0,0))::qQ G d 1 b L'::Γ) ?_
 exact zNm ok (n:=n) hs hL hp h
theorem zUW {b r b2 t1 t2 d:Nat} {M1 M2:List G.It} {x:G.It} {k:K} (h:HG B (qQ G (d + 1) 1 b2 (M1++x::M2)::Γ) k) :
  HG B (qZ G b2 ⟨some ⟨t1,0,none⟩,1,1⟩ ⟨some ⟨t2,0,none⟩,2,2⟩::blk t1 (.cells (G.f x).toArray G.tI (0,0))::blk t2 (.cells [.pointer (some ⟨b,0,none⟩),.pointer (some ⟨r,0,none⟩)].toArray G.tK (0,0))::qQ G d 2 b M1::qQ G d 2 r M2::Γ) k:=by
 refine vH t1 ?_
 refine zEi (A':=vg G ⟨some ⟨t1,0,none⟩,1,1⟩ [x]) (zA0 (vs:=[x].flatMap G.f) (by simp) (by simp [G.uj])) ?_
 refine vH t2 ?_
 refine zEi (A':=vY G ⟨some ⟨t2,0,none⟩,2,2⟩ [some ⟨b,0,none⟩,some ⟨r,0,none⟩]) (zA0 (vs:=[Value.pointer (some ⟨b,0,none⟩),Value.pointer (some ⟨r,0,none⟩)]) (by simp) (by simp)) ?_
 refine fun w hw=>?_
 refine hg (show Holds B (vC G d []::_) w from Holds.flat.2 hw) ?_
 refine zI (Δ:=qQ G d 2 r M2::vC G d []::qQ G d 2 b M1::qZ G b2 ⟨some ⟨t1,0,none⟩,1,1⟩ ⟨some ⟨t2,0,none⟩,2,2⟩::vg G ⟨some ⟨t1,0,none⟩,1,1⟩ [x]::vY G ⟨some ⟨t2,0,none⟩,2,2⟩ [some ⟨b,0,none⟩,some ⟨r,0,none⟩]::Γ) ?_
 show HG B (_::vC G d ([]++[])::_) k
 refine zEl (A:=[]) (C:=[]) (q:=(r,M2)) ?_
 refine vD ?_
 refine zEl (A:=[]) (C:=[(r,M2)]) (q:=(b,M1)) ?_
 show HG B (vC G d (((b,M1):Kid G)::[(x,((r,M2):Kid G))].map Prod.snd)::_::vg G ⟨some ⟨t1,0,none⟩,1,1⟩ ([(x,((r,M2):Kid G))].map Prod.fst)::vY G ⟨some ⟨t2,0,none⟩,2,2⟩ ((((b,M1):Kid G)::[(x,((r,M2):Kid G))].map Prod.snd).map ptr)::_) k
 refine zI (Δ:=qZ G b2 ⟨some ⟨t1,0,none⟩,1,1⟩ ⟨some ⟨t2,0,none⟩,2,2⟩::vg G ⟨some ⟨t1,0,none⟩,1,1⟩ ([(x,((r,M2):Kid G))].map Prod.fst)::vY G ⟨some ⟨t2,0,none⟩,2,2⟩ ((((b,M1):Kid G)::[(x,((r,M2):Kid G))].map Prod.snd).map ptr)::vC G d (((b,M1):Kid G)::[(x,((r,M2):Kid G))].map Prod.snd)::Γ) ?_
 refine zGd (m:=1) (by simp) (by simp) ?_
 have e:psL ((b,M1):Kid G) [(x,(r,M2))] = M1++x::M2:=by simp [psL]
 rw [e]; exact h
theorem zO5 (ok:BtOk G c) {o t t6 d b n r mb:Nat} {L M1 M2:List G.It} {x:G.It} {k:κ} {v old v6:Cel G.nv} {had:Bool} {Q:Array Value→Bool→K} (hs:Srt c L) (hL:L.length < 1000000000) (hp:zGO c (G.z0 ok.vz) L k v (M1++x::M2) old had)
  (h:HG B (zA8 G c t (M1++x::M2)::Γ) (Q old.1.toArray had)) :
  HG B (zBD G o old::zBD G t6 v6::blk t (.cells [.pointer (some ⟨b,0,none⟩),.int .i64 L.length].toArray G.tT (0,0))::blk mb (.cells (G.f x).toArray G.tI (0,0))::qQ G d 2 b M1::qQ G d 2 r M2::Γ) (zF8 G Q (some ⟨t,0,none⟩) ⟨t6,0,none⟩ ⟨o,0,none⟩ had (some ⟨mb,0,none⟩) (some ⟨r,0,none⟩)):=by
 unfold zF8
 refine s_t ?_
 refine zAQ ?_
 refine zIc ?_
 refine xM ?_
 refine xM ?_
 refine zKd (b:=mb) (l':=G.f x) ?_ (List.take_of_length_le (by simp [G.uj])) (G.uj _)
 refine jR (b:=t) (x:=some ⟨b,0,none⟩) ?_
 refine zNg ?_ ?_
 ·refine zGu ?_ (by simp [ok.vz.1]) (G.uj _)
  refine ql fun t1=>?_
  refine zBb ?_
  refine ql fun t2=>?_
  refine zBb ?_
  refine ql fun b2=>?_
  refine zAd (b:=t) ?_
  refine zI (Δ:=qZ G b2 ⟨some ⟨t1,0,none⟩,1,1⟩ ⟨some ⟨t2,0,none⟩,2,2⟩::blk t1 (.cells (G.f x).toArray G.tI (0,0))::blk t2 (.cells [.pointer (some ⟨b,0,none⟩),.pointer (some ⟨r,0,none⟩)].toArray G.tK (0,0))::qQ G d 2 b M1::qQ G d 2 r M2::zBD G o old::zBD G t6 v6::blk t (.cells [.pointer (some ⟨b2,0,none⟩),.int .i64 L.length].toArray G.tT (0,0))::Γ) ?_
  refine zUW ?_
  refine zI (Δ:=zBD G o old::zBD G t6 v6::blk t (.cells [.pointer (some ⟨b2,0,none⟩),.int .i64 L.length].toArray G.tT (0,0))::qQ G (d + 1) 1 b2 (M1++x::M2)::Γ) ?_
  exact zNm ok (n:=n) hs hL hp h
 ·refine ql fun t2=>?_
  refine zBb ?_
  refine zGu ?_ (by simp [ok.vz.1]) (G.uj _)
  refine ql fun t1=>?_
  refine zBb ?_
  refine ql fun b2=>?_
  refine zAd (b:=t) ?_
  refine zI (Δ:=qZ G b2 ⟨some ⟨t1,0,none⟩,1,1⟩ ⟨some ⟨t2,0,none⟩,2,2⟩::blk t1 (.cells (G.f x).toArray G.tI (0,0))::blk t2 (.cells [.pointer (some ⟨b,0,none⟩),.pointer (some ⟨r,0,none⟩)].toArray G.tK (0,0))::qQ G d 2 b M1::qQ G d 2 r M2::zBD G o old::zBD G t6 v6::blk t (.cells [.pointer (some ⟨b2,0,none⟩),.int .i64 L.length].toArray G.tT (0,0))::Γ) ?_
  refine zUW ?_
  refine zI (Δ:=zBD G o old::zBD G t6 v6::blk t (.cells [.pointer (some ⟨b2,0,none⟩),.int .i64 L.length].toArray G.tT (0,0))::qQ G (d + 1) 1 b2 (M1++x::M2)::Γ) ?_
  exact zNm ok (n:=n) hs hL hp h
theorem zSe (ok:BtOk G c) {t:Nat} {L:List G.It} {k:κ} {v:Cel G.nv} {Q:Array Value→Bool→K} (hL:L.length < 1000000000) (h:∀ L' old had,zGO c (G.z0 ok.vz) L k v L' old had→HG B (zA8 G c t L'::Γ) (Q old.1.toArray had)) :
  HG B (zA8 G c t L::Γ) (zYM G (some ⟨t,0,none⟩) k v.1.toArray Q):=by
 refine zQb fun d b hs=>?_
 unfold zYM
 refine ql fun v5=>?_
 refine ql fun t6=>?_
 refine zAQ ?_
 refine zIc ?_
 refine xM ?_
 refine jR (b:=t) (x:=some ⟨b,0,none⟩) ?_
 refine zKd (b:=v5) (off:=0) (l:=v.1) (l':=v.1) ?_ (List.take_of_length_le (Nat.le_of_eq v.2.1)) v.2.1
 refine zZg (cs:=G.f (k,v)) ?_ (zWK (ok.kf k) ok.vz.1 v.2.1)
 refine zNg ?_ ?_
 ·refine zI (Δ:=qQ G d 1 b L::blk t (.cells [.pointer (some ⟨b,0,none⟩),.int .i64 L.length].toArray G.tT (0,0))::zBD G t6 (G.z0 ok.vz)::Γ) ?_
  refine zMQ ok d (m:=1) (Nat.le_refl _) hs (fun M' old had hp=>?_) fun M1 x M2 old had r mb hp=>?_
  ·refine ql fun o=>?_
   refine zDI (b:=o) ?_ ok.vz.1 old.2.1 old.2.2
   refine zI (Δ:=zBD G o old::zBD G t6 (G.z0 ok.vz)::blk t (.cells [.pointer (some ⟨b,0,none⟩),.int .i64 L.length].toArray G.tT (0,0))::qQ G d 2 b M'::Γ) ?_
   exact zRh ok (n:=0) hs hL hp (h _ _ _ hp)
  ·refine ql fun o=>?_
   refine zDI (b:=o) ?_ ok.vz.1 old.2.1 old.2.2
   refine zI (Δ:=zBD G o old::zBD G t6 (G.z0 ok.vz)::blk t (.cells [.pointer (some ⟨b,0,none⟩),.int .i64 L.length].toArray G.tT (0,0))::blk mb (.cells (G.f x).toArray G.tI (0,0))::qQ G d 2 b M1::qQ G d 2 r M2::Γ) ?_
   exact zO5 ok (n:=0) hs hL hp (h _ _ _ hp)
 ·refine ql fun o=>?_
  refine zBb ?_
  refine zI (Δ:=qQ G d 1 b L::blk t (.cells [.pointer (some ⟨b,0,none⟩),.int .i64 L.length].toArray G.tT (0,0))::zBD G t6 (G.z0 ok.vz)::zBD G o (G.z0 ok.vz)::Γ) ?_
  refine zMQ ok d (m:=1) (Nat.le_refl _) hs (fun M' old had hp=>?_) fun M1 x M2 old had r mb hp=>?_
  ·refine zDI (b:=o) ?_ ok.vz.1 old.2.1 old.2.2
   refine zI (Δ:=zBD G o old::zBD G t6 (G.z0 ok.vz)::blk t (.cells [.pointer (some ⟨b,0,none⟩),.int .i64 L.length].toArray G.tT (0,0))::qQ G d 2 b M'::Γ) ?_
   exact zRh ok (n:=0) hs hL hp (h _ _ _ hp)
  ·refine zDI (b:=o) ?_ ok.vz.1 old.2.1 old.2.2
   refine zI (Δ:=zBD G o old::zBD G t6 (G.z0 ok.vz)::blk t (.cells [.pointer (some ⟨b,0,none⟩),.int .i64 L.length].toArray G.tT (0,0))::blk mb (.cells (G.f x).toArray G.tI (0,0))::qQ G d 2 b M1::qQ G d 2 r M2::Γ) ?_
   exact zO5 ok (n:=0) hs hL hp (h _ _ _ hp)
end
end Bt
end
section
open Go Go.RowKit Go.MapKept
section
variable {α β:Type} [DecidableEq α]
def zO (k:α):List (α×β)→Option β
 | []=>none
 | p::m=>if k = p.1 then some p.2 else zO k m
def qR (k:α) (v:β):List (α×β)→List (α×β)
 | []=>[(k,v)]
 | p::m=>if k = p.1 then (k,v)::m else p::qR k v m
def vJ (k:α):List (α×β)→List (α×β)
 | []=>[]
 | p::m=>if k = p.1 then m else p::vJ k m
theorem zJJ (k:α):∀ m:List (α×β),(zO k m = none∧(∀ v,qR k v m = m++[(k,v)])∧vJ k m = m∧∀ p ∈ m,p.1 ≠ k) ∨
  ∃ j x,j < m.length∧m[j]? = some (k,x)∧(∀ i,i < j→∀ p,m[i]? = some p→p.1 ≠ k)∧zO k m = some x∧(∀ v,qR k v m = m.set j (k,v))∧vJ k m = m.eraseIdx j
 | []=>.inl ⟨rfl,fun _=>rfl,rfl,by simp⟩
 | p::m=>by
  by_cases hk:k = p.1
  ·refine .inr ⟨0,p.2,by simp,by rw [hk]; rfl,fun i hi=>by omega,by simp [zO,hk],fun v=>by simp [qR,hk],by simp [vJ,hk]⟩
  ·rcases zJJ k m with ⟨h1,h2,h3,h4⟩ | ⟨j,x,hj,h0,hb,h1,h2,h3⟩
   ·refine .inl ⟨by simp [zO,hk,h1],fun v=>by simp [qR,hk,h2],by simp [vJ,hk,h3],fun q hq=>?_⟩
    rcases List.mem_cons.1 hq with rfl | hq
    ·exact fun e=>hk e.symm
    ·exact h4 q hq
   ·refine .inr ⟨j + 1,x,by simpa using hj,by simpa using h0,fun i hi q hq=>?_,by simp [zO,hk,h1],fun v=>by simp [qR,hk,h2],by simp [vJ,hk,h3]⟩
    cases i with
    | zero=>simp at hq; subst hq; exact fun e=>hk e.symm
    | succ i=>exact hb i (by omega) q (by simpa using hq)
end
structure zJa {α:Type} (d:TypeDesc) (enc:α→Value):Prop where
 key:∀ a,IsKey d (enc a)
 inj:∀ a b,enc a = enc b→a = b
 bits:∀ a,Instr.sameBits 10000 (enc a) (enc a) = true
theorem zAr (k:IntKind):zJa (.int k) (Value.int k):=⟨fun _=>rfl,fun a b h=>by injection h,fun a=>by simp [Instr.sameBits]⟩
theorem zO6:zJa .string Value.string:=⟨fun _=>trivial,fun a b h=>by injection h,fun a=>by
 show (a == a) = true
 rw [bytes_beq]⟩
section
variable {α β:Type} [DecidableEq α] {P:Program} {B w:World} {Γ:List zB} {enc:α→Value} {cV:β→Value}
def zHj (enc:α→Value) (cV:β→Value) (es:Array MapEntry) (m:List (α×β)):Prop:=es.toList.map (fun e=>(e.key,e.val)) = m.map fun p=>(enc p.1,cV p.2)
def stamps (es:Array MapEntry) (c:Nat):Prop:=(es.toList.map (·.born)).Nodup∧∀ e ∈ es.toList,e.born < c
theorem zKh (c:Nat):stamps #[] c:=⟨by simp,by simp⟩
theorem zO7 {es:Array MapEntry} {c:Nat} (h:stamps es c) (k v:Value):stamps (es.push { key:=k,val:=v,born:=c }) (c + 1):=by
 refine ⟨?_,fun e he=>?_⟩
 ·simp only [Array.toList_push,List.map_append,List.map_cons,List.map_nil]
  rw [List.nodup_append]
  refine ⟨h.1,by simp,fun x hx y hy=>?_⟩
  simp only [List.mem_singleton] at hy
  subst hy
  obtain ⟨e,he,rfl⟩:=List.mem_map.1 hx
  have:=h.2 e he
  omega
 ·simp only [Array.toList_push] at he
  rcases List.mem_append.1 he with he | he
  ·have:=h.2 e he; omega
  ·simp only [List.mem_singleton] at he; subst he; exact Nat.lt_succ_self _
theorem zLj {es:Array MapEntry} {c:Nat} (h:stamps es c) (j:Nat) (k v:Value):stamps (es.modify j fun e=>{ e with key:=k,val:=v }) c:=by
 have e1:(es.modify j fun e=>{ e with key:=k,val:=v }).toList.map (·.born) = es.toList.map (·.born):=by
  apply List.ext_getElem?
  intro i
  simp only [List.getElem?_map,Array.getElem?_toList,Array.getElem?_modify]
  split
  ·cases es[i]? <;> rfl
  ·rfl
 refine ⟨by rw [e1]; exact h.1,fun e he=>?_⟩
 have:e.born ∈ es.toList.map (·.born):=by rw [← e1]; exact List.mem_map_of_mem he
 obtain ⟨e',he',hb⟩:=List.mem_map.1 this
 rw [← hb]; exact h.2 e' he'
theorem zNn {es:Array MapEntry} {c:Nat} (h:stamps es c) (j:Nat):stamps (es.eraseIdxIfInBounds j) c:=by
 have hs:List.Sublist (es.eraseIdxIfInBounds j).toList es.toList:=by
  unfold Array.eraseIdxIfInBounds
  split
  ·rw [Array.toList_eraseIdx]; exact List.eraseIdx_sublist _ _
  ·exact List.Sublist.refl _
 exact ⟨h.1.sublist (hs.map _),fun e he=>h.2 e (hs.subset he)⟩
def qM (enc:α→Value) (cV:β→Value) (b:Nat) (m:List (α×β)):zB:=ex fun es:Array MapEntry=>ex fun c:Nat=>fun g=>(zHj enc cV es m∧stamps es c)∧blk b (.map es c) g
theorem qM.opens {b:Nat} {m:List (α×β)} (h:Holds B (qM enc cV b m::Γ) w):∃ es c,(zHj enc cV es m∧stamps es c)∧Holds B (blk b (.map es c)::Γ) w:=by
 obtain ⟨es,h⟩:=Holds.ex.1 h
 obtain ⟨c,h⟩:=Holds.ex.1 h
 exact ⟨es,c,h.fact fun g hg=>hg.1,h.imp fun g hg=>hg.2⟩
theorem qM.shuts {b:Nat} {m:List (α×β)} {es:Array MapEntry} {c:Nat} (hr:zHj enc cV es m∧stamps es c) (h:Holds B (blk b (.map es c)::Γ) w):Holds B (qM enc cV b m::Γ) w :=
 Holds.ex.2 ⟨es,Holds.ex.2 ⟨c,h.imp fun g hg=>⟨hr,hg⟩⟩⟩
theorem zKA {es:Array MapEntry} {m:List (α×β)} (hr:zHj enc cV es m) (i:Nat):(es.toList[i]?).map (fun e=>(e.key,e.val)) = (m[i]?).map fun p=>(enc p.1,cV p.2):=by
 have:=congrArg (·[i]?) hr
 simpa using this
theorem zSf {d:TypeDesc} (hE:zJa d enc) {es:Array MapEntry} {m:List (α×β)} (hr:zHj enc cV es m):∀ x ∈ es.toList,IsKey d x.key:=by
 intro x hx
 have:(x.key,x.val) ∈ m.map fun p=>(enc p.1,cV p.2):=by rw [← hr]; exact List.mem_map_of_mem hx
 obtain ⟨p,_,hp⟩:=List.mem_map.1 this
 have:enc p.1 = x.key:=congrArg Prod.fst hp
 rw [← this]; exact hE.key _
theorem zNo {d:TypeDesc} (hE:zJa d enc) {es:Array MapEntry} {m:List (α×β)} (hr:zHj enc cV es m) (k:α) :
  (Instr.findNow d (enc k) es.toList 0 = some none∧zO k m = none∧(∀ v,qR k v m = m++[(k,v)])∧vJ k m = m) ∨
  ∃ j x,Instr.findNow d (enc k) es.toList 0 = some (some (j,cV x))∧j < m.length∧m[j]? = some (k,x)∧zO k m = some x∧(∀ v,qR k v m = m.set j (k,v))∧vJ k m = m.eraseIdx j:=by
 have hlen:es.toList.length = m.length:=by have:=congrArg List.length hr; simpa using this
 rcases zJJ k m with ⟨h1,h2,h3,h4⟩ | ⟨j,x,hj,h0,hb,h1,h2,h3⟩
 ·refine .inl ⟨?_,h1,h2,h3⟩
  rcases findNow_spec (hE.key k) es.toList 0 (zSf hE hr) with ⟨g1,_⟩ | ⟨i,e,g1,g2,g3⟩
  ·exact g1
  ·have:=zKA hr i
   rw [g2] at this
   cases hm:m[i]? with
   | none=>rw [hm] at this; simp at this
   | some p=>
    rw [hm] at this
    simp only [Option.map_some,Option.some.injEq,Prod.mk.injEq] at this
    exact absurd (hE.inj _ _ (this.1.symm.trans g3)) (h4 p (List.mem_of_getElem? hm))
 ·have key:∀ (l:List MapEntry) (m:List (α×β)) (j i:Nat),l.map (fun e=>(e.key,e.val)) = m.map (fun p=>(enc p.1,cV p.2))→m[j]? = some (k,x)→(∀ i,i < j→∀ p,m[i]? = some p→p.1 ≠ k) →
    Instr.findNow d (enc k) l i = some (some (i + j,cV x)):=by
   intro l
   induction l with
   | nil=>intro m j i hr hm _; cases m <;> simp at hr hm
   | cons e l ih=>
    intro m j i hr hm hb
    cases m with
    | nil=>simp at hr
    | cons p m=>
     simp only [List.map_cons,List.cons.injEq,Prod.mk.injEq] at hr
     obtain ⟨⟨e1,e2⟩,hr⟩:=hr
     obtain ⟨r,hs,hiff⟩:=sameNow_of_keys (hE.key k) (hE.key p.1)
     unfold Instr.findNow
     rw [e1,hs]
     cases j with
     | zero=>
      simp only [List.getElem?_cons_zero,Option.some.injEq] at hm
      subst hm
      have:r = true:=hiff.2 rfl
      subst this
      simp only [e2,Nat.add_zero]
     | succ j=>
      have hne:p.1 ≠ k:=hb 0 (by omega) p rfl
      have:r = false:=by
       cases r with
       | false=>rfl
       | true=>exact absurd (hE.inj _ _ (hiff.1 rfl)) (fun e=>hne e.symm)
      subst this
      simp only
      rw [ih m j (i + 1) hr (by simpa using hm) (fun i' hi' q hq=>hb (i' + 1) (by omega) q (by simpa using hq))]
      congr 3; omega
  refine .inr ⟨j,x,?_,hj,h0,h1,h2,h3⟩
  have:=key es.toList m j 0 hr h0 hb
  rwa [Nat.zero_add] at this
def zE3 (P:Program) (T:TypeId) (d:TypeDesc) (E:TypeId):Prop:=∃ kt,P.underlying T = some (.map kt E)∧P.underlying kt = some d
theorem zRi {T:TypeId} {d:TypeDesc} {E:TypeId} {k:Option Nat→K} (h:Holds B Γ w) (hk:∀ b w,Holds B (qM enc cV b []::Γ) w→k (some b) w) :
  Do P (Instr.makeMap T none) Value.map k w:=by
 refine ⟨some w.heap.size,{ w with heap:=w.heap.push (.map #[] 0) },rfl,hk _ _ (qM.shuts (es:=#[]) (c:=0) ⟨rfl,zKh 0⟩ (h.alloc _))⟩
theorem zUX {T E:TypeId} {d:TypeDesc} {b:Nat} {m:List (α×β)} {z:β} {a:α} (hT:zE3 P T d E) (hE:zJa d enc) (hz:zBx P E (cV z)) {es:Array MapEntry} {c:Nat} (hb:w.heap[b]? = some (.map es c)) (hr:zHj enc cV es m) (ok:Bool) :
  (Instr.lookup T (.map (some b)) (enc a) ok).run P w = .ok (if ok then .tuple #[cV ((zO a m).getD z),.bool (zO a m).isSome] else cV ((zO a m).getD z)) w:=by
 obtain ⟨kt,hT,hd⟩:=hT
 unfold Instr.lookup
 simp only [Sem.run_bind,run_underlying hT,Result.andThen,MapKept.run_getObj_map hb,run_checkKey hd (hE.key a),Sem.run_pure]
 rcases zNo hE hr a with ⟨h1,h2,_⟩ | ⟨j,x,h1,_,_,h2,_⟩
 ·simp only [run_findKey hd h1,Result.andThen,Sem.run_bind,zBI hz,Sem.run_pure,h2]
  cases ok <;> rfl
 ·simp only [run_findKey hd h1,Result.andThen,Sem.run_bind,Sem.run_pure,h2]
  cases ok <;> rfl
theorem zWL {T E:TypeId} {d:TypeDesc} {b:Nat} {m:List (α×β)} {z:β} {a:α} {k:β→K} (hT:zE3 P T d E) (hE:zJa d enc) (hz:zBx P E (cV z)) (h:Holds B (qM enc cV b m::Γ) w)
  (hk:k ((zO a m).getD z) w):Rd P (Instr.lookup T (.map (some b)) (enc a) false) cV k w:=by
 obtain ⟨es,c,⟨hr,hst⟩,h⟩:=qM.opens h
 exact ⟨_,zUX hT hE hz h.block hr false,hk⟩
theorem Holds.zNp {b:Nat} {es es':Array MapEntry} {c c':Nat} (h:Holds B (blk b (.map es c)::Γ) w):(setObj b (.map es' c')).run P w = .ok () { w with heap:=w.heap.setIfInBounds b (.map es' c') } ∧
  Holds B (blk b (.map es' c')::Γ) { w with heap:=w.heap.setIfInBounds b (.map es' c') } :=
 ⟨run_setObj_map _ h.block,h.setBlock rfl⟩
theorem zRj {T E:TypeId} {d:TypeDesc} {b:Nat} {m:List (α×β)} {a:α} {v:β} {k:K} (hT:zE3 P T d E) (hE:zJa d enc) (h:Holds B (qM enc cV b m::Γ) w)
  (hk:∀ w',Holds B (qM enc cV b (qR a v m)::Γ) w'→k w'):DoU P (Instr.mapUpdate T (.map (some b)) (enc a) (cV v)) k w:=by
 obtain ⟨kt,hT,hd⟩:=hT
 obtain ⟨es,c,⟨hr,hst⟩,h⟩:=qM.opens h
 have hb:=h.block
 have hlen:es.size = m.length:=by have:=congrArg List.length hr; simpa using this
 unfold Instr.mapUpdate DoU
 simp only [Sem.run_bind,run_underlying hT,Result.andThen,MapKept.run_getObj_map hb,run_checkKey hd (hE.key a)]
 rcases zNo hE hr a with ⟨h1,_,h2,_⟩ | ⟨j,x,h1,hj,h0,_,h2,_⟩
 ·simp only [run_findKey hd h1,Result.andThen]
  obtain ⟨e1,h3⟩:=h.zNp (P:=P) (es':=es.push { key:=enc a,val:=cV v,born:=c }) (c':=c + 1)
  refine ⟨_,_,e1,hk _ (qM.shuts ⟨?_,zO7 hst _ _⟩ h3)⟩
  rw [h2]
  simp only [zHj,Array.toList_push,List.map_append,List.map_cons,List.map_nil]
  rw [show es.toList.map (fun e=>(e.key,e.val)) = _ from hr]
 ·have hes:∃ e,es.toList[j]? = some e∧e.key = enc a:=by
   have:=zKA hr j
   rw [h0] at this
   cases he:es.toList[j]? with
   | none=>rw [he] at this; simp at this
   | some e=>
    rw [he] at this
    simp only [Option.map_some,Option.some.injEq,Prod.mk.injEq] at this
    exact ⟨e,rfl,this.1⟩
  obtain ⟨e,he,hek⟩:=hes
  have he2:es[j]? = some e:=by rw [← he,Array.getElem?_toList]
  simp only [run_findKey hd h1,Result.andThen,Sem.run_bind,he2,Option.map_some,Option.getD_some,hek,Instr.keyThatStays,hE.bits,if_true,Sem.run_pure]
  obtain ⟨e1,h3⟩:=h.zNp (P:=P) (es':=es.modify j fun e=>{ e with key:=enc a,val:=cV v }) (c':=c)
  refine ⟨_,_,e1,hk _ (qM.shuts ⟨?_,zLj hst _ _ _⟩ h3)⟩
  rw [h2]
  simp only [zHj]
  apply List.ext_getElem?
  intro i
  have hi:=zKA hr i
  simp only [List.getElem?_map,Array.getElem?_toList,Array.getElem?_modify] at hi ⊢
  by_cases hij:j = i
  ·subst hij
   rw [List.getElem?_set_self hj,he2]
   simp
  ·rw [List.getElem?_set_ne hij,if_neg hij]
   exact hi
theorem zMR {T KT E t:TypeId} {d:TypeDesc} {b:Nat} {m:List (α×β)} {a:α} {k:Value→K} (hT:zE3 P T d E) (hE:zJa d enc) (h:Holds B (qM enc cV b m::Γ) w)
  (hk:∀ w',Holds B (qM enc cV b (vJ a m)::Γ) w'→k (.tuple #[]) w'):Do P (Builtin.delete_ #[T,KT] t #[.map (some b),enc a]) id k w:=by
 obtain ⟨kt,hT,hd⟩:=hT
 obtain ⟨es,c,⟨hr,hst⟩,h⟩:=qM.opens h
 have hb:=h.block
 have hlen:es.size = m.length:=by have:=congrArg List.length hr; simpa using this
 have e0:#[T,KT][0]? = some T:=rfl
 have e1:#[Value.map (some b),enc a][0]? = some (.map (some b)):=rfl
 have e2:#[Value.map (some b),enc a][1]? = some (enc a):=rfl
 unfold Builtin.delete_ Do
 simp only [e0,e1,e2,Sem.run_bind,run_underlying hT,Result.andThen,MapKept.run_getObj_map hb,run_checkKey hd (hE.key a)]
 rcases zNo hE hr a with ⟨h1,_,_,h2⟩ | ⟨j,x,h1,hj,h0,_,_,h2⟩
 ·simp only [run_findKey hd h1,Result.andThen,Sem.run_bind]
  obtain ⟨e3,h3⟩:=h.zNp (P:=P) (es':=es) (c':=c)
  refine ⟨.tuple #[],_,?_,hk _ (qM.shuts ⟨?_,hst⟩ h3)⟩
  ·simp only [Sem.run_bind,e3,Result.andThen,Sem.run_pure]; rfl
  rw [h2]; exact hr
 ·simp only [run_findKey hd h1,Result.andThen,Sem.run_bind]
  obtain ⟨e3,h3⟩:=h.zNp (P:=P) (es':=es.eraseIdxIfInBounds j) (c':=c)
  refine ⟨.tuple #[],_,?_,hk _ (qM.shuts ⟨?_,zNn hst _⟩ h3)⟩
  ·simp only [Sem.run_bind,e3,Result.andThen,Sem.run_pure]; rfl
  rw [h2]
  have hjs:j < es.size:=by omega
  simp only [zHj,Array.eraseIdxIfInBounds,dif_pos hjs,Array.toList_eraseIdx]
  have mape:∀ {α β:Type} (f:α→β) (l:List α) (i:Nat),(l.eraseIdx i).map f = (l.map f).eraseIdx i:=by
   intro α β f l
   induction l with
   | nil=>intro i; simp
   | cons x l ih=>intro i; cases i <;> simp [ih]
  rw [mape,mape,show es.toList.map (fun e=>(e.key,e.val)) = _ from hr]
end
section
variable {α β γ:Type} [DecidableEq α]
theorem zO8 (g:β→γ) (k:α):∀ m:List (α×β),zO k (m.map fun p=>(p.1,g p.2)) = (zO k m).map g
 | []=>rfl
 | p::m=>by
  simp only [List.map_cons,zO]
  split
  ·rfl
  ·exact zO8 g k m
theorem zKi (g:β→γ) (k:α):∀ m:List (α×β),vJ k (m.map fun p=>(p.1,g p.2)) = (vJ k m).map fun p=>(p.1,g p.2)
 | []=>rfl
 | p::m=>by
  simp only [List.map_cons,vJ]
  split
  ·rfl
  ·rw [List.map_cons,zKi g k m]
theorem zFc (g:β→γ) (k:α) (v:β):∀ m:List (α×β),qR k (g v) (m.map fun p=>(p.1,g p.2)) = (qR k v m).map fun p=>(p.1,g p.2)
 | []=>rfl
 | p::m=>by
  simp only [List.map_cons,qR]
  split
  ·rfl
  ·rw [List.map_cons,zFc g k v m]
theorem zAV {k:α} {v:β} {m:List (α×β)} (h:zO k m = none):qR k v m = m++[(k,v)]:=by
 rcases zJJ k m with ⟨_,h2,_⟩ | ⟨_,_,_,_,_,h1,_⟩
 ·exact h2 v
 ·rw [h] at h1; cases h1
end
end
section
open Go Go.RowKit
section
variable {α β:Type} [DecidableEq α] {P:Program} {B w:World} {Γ Δ:List zB} {enc:α→Value} {cV:β→Value} {k:K}
instance (priority:=high) zZ8 {α β:Type} [DecidableEq α] {enc:α→Value} {cV:β→Value} {b:Nat} {m:List (α×β)} {Γ:List zB}:Own b (qM enc cV b m::Γ) (qM enc cV b m) Γ:=⟨.refl _⟩
theorem zKB {T:TypeId} {k:Option Nat→K} (h:∀ b,HG B (qM enc cV b []::Γ) (k (some b))):HG B Γ (Do P (Instr.makeMap T none) Value.map k):=fun w hw=>by
 refine ⟨some w.heap.size,{ w with heap:=w.heap.push (.map #[] 0) },rfl,h _ _ (qM.shuts (es:=#[]) (c:=0) ⟨rfl,zKh 0⟩ (hw.alloc _))⟩
theorem zDj {γ:Type} {cG:γ→Value} {g:β→γ} {T E:TypeId} {d:TypeDesc} {b:Nat} {m:List (α×β)} {z:β} {a:α} {k:γ→K} (hc:∀ x,cV x = cG (g x)) (hT:zE3 P T d E) (hE:zJa d enc) (hz:zBx P E (cV z)) (h:HG B Γ (k (g ((zO a m).getD z)))) [p:Own b Γ (qM enc cV b m) Δ] :
  HG B Γ (Rd P (Instr.lookup T (.map (some b)) (enc a) false) cG k):=fun w hw=>by
 obtain ⟨x,hx,hk⟩:=zWL (P:=P) (T:=T) (a:=a) (k:=fun y w=>y = (zO a m).getD z∧k (g y) w) hT hE hz (hw.perm p.perm) ⟨rfl,h w hw⟩
 obtain ⟨rfl,hk⟩:=hk
 exact ⟨_,by rw [hx,hc],hk⟩
theorem zO9 {γ:Type} {cG:γ→Value} {T E:TypeId} {d:TypeDesc} {b:Nat} {m:List (α×β)} {a:α} {v:β} {x:Value} (hx:x = cV v) (hT:zE3 P T d E) (hE:zJa d enc) (h:HG B (qM enc cV b (qR a v m)::Δ) k) [p:Own b Γ (qM enc cV b m) Δ] :
  HG B Γ (DoU P (Instr.mapUpdate T (.map (some b)) (enc a) x) k):=fun w hw=>by subst hx; exact zRj hT hE (hw.perm p.perm) fun w' h'=>h w' h'
theorem xK (m:List (α×β)) (a a':α) (v:β):zO a' (qR a v m) = if a' = a then some v else zO a' m:=by
 induction m with
 | nil=>simp [qR,zO]
 | cons p m ih=>
  unfold qR
  split
  ·rename_i h
   subst h
   by_cases h2:a' = p.1 <;> simp [zO,h2]
  ·rename_i h
   by_cases h2:a' = p.1
   ·simp [zO,h2]
    intro h3; exact absurd h3.symm h
   ·simp [zO,h2,ih]
end
end
section
open Go Go.RowKit
class Nx (B:World) (Γ:List zB) (k:K) (Δ:outParam (List zB)) (j:outParam K):Prop where h:HG B Δ j→HG B Γ k
class zPA (l:List Value) (n:Nat) (v:outParam Value):Prop where h:nth l n = some v
class Cv {α:Type} (c:α→Value) (v:Value) (x:outParam α):Prop where h:v = c x
class zWM (l:List Value) (n:Nat) (v:Value) (l':outParam (List Value)):Prop where h:l.set n v = l'∧n < l.length
class zKj (l:List Value) (m n:Nat) (l':outParam (List Value)):Prop where h:(l.drop m).take n = l'∧l'.length = n
class zJK (v:Value):Prop where h:qC v = true
class zRk (l:List Value):Prop where h:l.all qC = true
class zPB (l:List Value) (n:outParam Nat):Prop where h:l.length = n
class zGe (b:Bool) (v:outParam Bool):Prop where h:b = v
instance zbG {v:Value} {l:List Value}:zPA (v::l) 0 v:=⟨rfl⟩
instance zbH {v u:Value} {l:List Value} {n:Nat} [h:zPA l n v]:zPA (u::l) (n + 1) v:=⟨h.h⟩
instance zal {b:Bool}:Cv Value.bool (.bool b) b:=⟨rfl⟩
instance zbI {k:IntKind} {n:Int}:Cv (Value.int k) (.int k n) n:=⟨rfl⟩
instance zbJ {b:ByteArray}:Cv Value.string (.string b) b:=⟨rfl⟩
instance zbK {p:Option Addr}:Cv Value.pointer (.pointer p) p:=⟨rfl⟩
instance zbL {p:Option Nat}:Cv Value.map (.map p) p:=⟨rfl⟩
instance (priority:=high) zbY {s:Sl}:Cv Sl.val s.val s:=⟨rfl⟩
instance zbM {a:Option Addr} {n c:Nat}:Cv Sl.val (.slice a n c) ⟨a,n,c⟩:=⟨rfl⟩
instance zbZ {v:Value}:Cv id v v:=⟨rfl⟩
instance zbN {v:Array Value}:Cv Value.agg (.agg v) v:=⟨rfl⟩
instance zbO {v u:Value} {l:List Value}:zWM (u::l) 0 v (v::l):=⟨⟨rfl,Nat.zero_lt_succ _⟩⟩
instance zbP {v u:Value} {l l':List Value} {n:Nat} [h:zWM l n v l']:zWM (u::l) (n + 1) v (u::l'):=⟨⟨by rw [List.set_cons_succ,h.h.1],Nat.succ_lt_succ h.h.2⟩⟩
instance zam {l:List Value}:zKj l 0 0 []:=⟨⟨rfl,rfl⟩⟩
instance zan {u:Value} {l l':List Value} {n:Nat} [h:zKj l 0 n l']:zKj (u::l) 0 (n + 1) (u::l'):=⟨⟨by have:=h.h.1; rw [List.drop_zero] at this ⊢; rw [List.take_succ_cons,this],by rw [List.length_cons,h.h.2]⟩⟩
instance zao {u:Value} {l l':List Value} {m n:Nat} [h:zKj l m n l']:zKj (u::l) (m + 1) n l':=⟨h.h⟩
instance zaq {b:Bool}:zJK (.bool b):=⟨rfl⟩
instance zar {k:IntKind} {n:Int}:zJK (.int k n):=⟨rfl⟩
instance zas {b:ByteArray}:zJK (.string b):=⟨rfl⟩
instance zat {p:Option Addr}:zJK (.pointer p):=⟨rfl⟩
instance zau {p:Option Nat}:zJK (.map p):=⟨rfl⟩
instance zZ9 {a:Option Addr} {n c:Nat}:zJK (.slice a n c):=⟨rfl⟩
instance zav:zRk []:=⟨rfl⟩
instance zaw {v:Value} {l:List Value} [h:zJK v] [g:zRk l]:zRk (v::l):=⟨by rw [List.all_cons,h.h,g.h]; rfl⟩
instance zbQ:zPB [] 0:=⟨rfl⟩
instance zbR {v:Value} {l:List Value} {n:Nat} [h:zPB l n]:zPB (v::l) (n + 1):=⟨by rw [List.length_cons,h.h]⟩
instance zax:zGe true true:=⟨rfl⟩
instance zay:zGe false false:=⟨rfl⟩
instance zaA {b:Bool} [h:zGe b true]:zGe (!b) false:=⟨by rw [h.h]; rfl⟩
instance zaB {b:Bool} [h:zGe b false]:zGe (!b) true:=⟨by rw [h.h]; rfl⟩
instance zaz {α:Type} {x:α}:zGe (some x).isNone false:=⟨rfl⟩
instance za0 {α:Type}:zGe (none:Option α).isNone true:=⟨rfl⟩
instance (priority:=high) zZn {b n:Nat}:zCv ((⟨b,0,none⟩:Addr).add n) b n:=⟨by rw [zR,Nat.zero_add]⟩
section
variable {B:World} {Γ Δ Γ0:List zB} {k j:K}
theorem zKk {k:(World→Prop)→K} (Γ0:List zB) (h:HG B Γ (k (Holds B Γ0))) [d:Drops Γ Γ0]:HG B Γ (xW k):=fun w hw=>⟨Holds B Γ0,hw.drops,h w hw⟩
theorem zNq (h:HG B Δ j) [n:Nx B Γ k Δ j]:HG B Γ k:=n.h h
instance zbS {a:Addr} {k:Addr→K}:Nx B Γ (Nn (some a) k) Γ (k a):=⟨xM⟩
instance zbT:Nx B Γ (Dr k) Γ k:=⟨zAQ⟩
instance zbU {k:(World→Prop)→K}:Nx B Γ (xW k) Γ (k (Holds B Γ)):=⟨zIc⟩
instance zbV [d:Drops Γ Δ]:Nx B Γ (Sv (Holds B Δ) k) Γ k:=⟨fun h=>zBb h⟩
instance zbW {α:Type} {a:Addr} {b off:Nat} {l:List Value} {T:TypeId} {fz:Nat×Nat} {c:α→Value} {v:Value} {x:α} {k:α→K} [ad:zCv a b off] [p:Own b Γ (blk b (.cells l.toArray T fz)) Δ] [n:zPA l off v] [e:Cv c v x]:Nx B Γ (Ld a c k) Γ (k x):=⟨fun h=>yE h (by rw [n.h,e.h])⟩
instance za1 {α:Type} {a:Addr} {b off:Nat} {l:List Value} {T:TypeId} {fz:Nat×Nat} {c:α→Value} {v:Value} {x:α} {k:α→K} [ad:zCv a b off] [p:Own b Γ0 (blk b (.cells l.toArray T fz)) Δ] [n:zPA l off v] [e:Cv c v x]:Nx B Γ (LdS (Holds B Γ0) a c k) Γ (k x):=⟨fun h=>jR h (by rw [n.h,e.h])⟩
instance za2 {a:Addr} {b off n:Nat} {l l':List Value} {T:TypeId} {fz:Nat×Nat} {k:Array Value→K} [ad:zCv a b off] [p:Own b Γ (blk b (.cells l.toArray T fz)) Δ] [t:zKj l off n l']:Nx B Γ (LdN a n k) Γ (k l'.toArray):=⟨fun h=>zDH h t.h.1 t.h.2⟩
instance zaC {a:Addr} {b off n:Nat} {l l':List Value} {T:TypeId} {fz:Nat×Nat} {k:Array Value→K} [ad:zCv a b off] [p:Own b Γ0 (blk b (.cells l.toArray T fz)) Δ] [t:zKj l off n l']:Nx B Γ (zBt (Holds B Γ0) a n k) Γ (k l'.toArray):=⟨fun h=>zKd h t.h.1 t.h.2⟩
instance zbX {a:Addr} {b off:Nat} {l l':List Value} {T:TypeId} {v:Value} [ad:zCv a b off] [p:Own b Γ (blk b (.cells l.toArray T (0,0))) Δ] [s:zWM l off v l'] [f:zJK v]:Nx B Γ (St a v k) (blk b (.cells l'.toArray T (0,0))::Δ) k:=⟨fun h=>zAd h (Nat.ble_eq_true_of_le s.h.2) s.h.1 f.h⟩
instance za3 {a:Addr} {b n:Nat} {l l':List Value} {T:TypeId} [ad:zCv a b 0] [p:Own b Γ (blk b (.cells l.toArray T (0,0))) Δ] [h1:zPB l n] [h2:zPB l' n] [f:zRk l']:Nx B Γ (StN a n l'.toArray k) (blk b (.cells l'.toArray T (0,0))::Δ) k:=⟨fun h=>zDI h h1.h h2.h f.h⟩
instance za4 {α:Type} {l:List Value} {off:Nat} {c:α→Value} {v:Value} {x:α} {k:α→K} [n:zPA l off v] [e:Cv c v x]:Nx B Γ (Fld l.toArray off c k) Γ (k x):=⟨fun h=>zZf h (by rw [n.h,e.h])⟩
instance zaD {zero cs:List Value} {n:Nat} {k:Array Value→K} [h1:zPB zero n] [h2:zPB cs n]:Nx B Γ (Bld zero.toArray (fun i=>some (i * n,n)) [(0,.agg cs.toArray)] k) Γ (k cs.toArray):=⟨fun h=>zGu h h1.h h2.h⟩
instance zba {b:Bool} {x y:K} [h:zGe b true]:Nx B Γ (Ite b x y) Γ x:=⟨fun g=>s_t g h.h⟩
instance zbb {b:Bool} {x y:K} [h:zGe b false]:Nx B Γ (Ite b x y) Γ y:=⟨fun g=>s_f g h.h⟩
end
class zFd (v:Value) (us:outParam (List Value)):Prop where h:v.cells = us.toArray
class zMS (z:List Value) (off:Nat) (us:List Value) (z':outParam (List Value)):Prop where h:off + us.length ≤ z.length∧z' = z.take off++us++z.drop (off + us.length)
class zNr (pl:List (Nat×Nat)) (i:Nat) (off n:outParam Nat):Prop where h:pl[i]? = some (off,n)
class zRl (pl:List (Nat×Nat)) (z:List Value) (ps:List (Nat×Value)) (cs:outParam (List Value)):Prop where h:Instr.fill (pl[·]?) z.toArray ps = some cs.toArray
instance zaE {l:List Value}:zFd (.agg l.toArray) l:=⟨rfl⟩
instance zaF {b:Bool}:zFd (.bool b) [.bool b]:=⟨rfl⟩
instance zaG {k:IntKind} {n:Int}:zFd (.int k n) [.int k n]:=⟨rfl⟩
instance zaH {b:ByteArray}:zFd (.string b) [.string b]:=⟨rfl⟩
instance zaI {p:Option Addr}:zFd (.pointer p) [.pointer p]:=⟨rfl⟩
instance zaJ {p:Option Nat}:zFd (.map p) [.map p]:=⟨rfl⟩
instance zZo {a:Option Addr} {n c:Nat}:zFd (.slice a n c) [.slice a n c]:=⟨rfl⟩
instance za5 {z:List Value}:zMS z 0 [] z:=⟨⟨by simp,by simp⟩⟩
instance za6 {v u:Value} {z us z':List Value} [h:zMS z 0 us z']:zMS (v::z) 0 (u::us) (u::z'):=⟨by
 obtain ⟨h1,h2⟩:=h.h
 simp only [Nat.zero_add,List.take_zero,List.nil_append] at h1 h2
 refine ⟨by simp; omega,?_⟩
 simp only [List.length_cons,Nat.zero_add,List.take_zero,List.nil_append,List.drop_succ_cons,List.cons_append]
 rw [h2]⟩
instance za7 {v:Value} {z us z':List Value} {off:Nat} [h:zMS z off us z']:zMS (v::z) (off + 1) us (v::z'):=⟨by
 obtain ⟨h1,h2⟩:=h.h
 refine ⟨by simp; omega,?_⟩
 rw [h2,show off + 1 + us.length = (off + us.length) + 1 by omega]
 simp⟩
instance zaK {o n:Nat} {pl:List (Nat×Nat)}:zNr ((o,n)::pl) 0 o n:=⟨rfl⟩
instance zaL {x:Nat×Nat} {o n i:Nat} {pl:List (Nat×Nat)} [h:zNr pl i o n]:zNr (x::pl) (i + 1) o n:=⟨h.h⟩
instance za8 {pl:List (Nat×Nat)} {z:List Value}:zRl pl z [] z:=⟨rfl⟩
theorem zSg {pl:Nat→Option (Nat×Nat)} {z us z':List Value} {i off:Nat} {v:Value} {ps:List (Nat×Value)} (hp:pl i = some (off,us.length)) (hc:v.cells = us.toArray) (h:off + us.length ≤ z.length∧z' = z.take off++us++z.drop (off + us.length)) :
  Instr.fill pl z.toArray ((i,v)::ps) = Instr.fill pl z'.toArray ps:=by
 obtain ⟨h1,rfl⟩:=h
 rw [Instr.fill,hp,hc]
 simp only [List.size_toArray]
 rw [if_neg (by simp; omega)]
 congr 1
 have hl:(z.take off).length = off:=by rw [List.length_take]; omega
 have key:∀ (us m pre C:List Value),pre.length = off→m.length = us.length→∀ (o:Nat) (pre2:List Value),pre2.length = off + o→(us.zipIdx o).foldl (fun (cs:Array Value) (p:Value×Nat)=>cs.setIfInBounds (off + p.2) p.1) (pre2++m++C).toArray = (pre2++us++C).toArray:=by
  intro us
  induction us with
  | nil=>intro m pre C _ hm o pre2 _; rw [List.length_eq_zero_iff.1 hm]; rfl
  | cons u us ih=>
   intro m pre C hp hm o pre2 hp2
   cases m with
   | nil=>simp at hm
   | cons x m=>
    simp only [List.zipIdx_cons,List.foldl_cons]
    have e:(pre2++x::m++C).toArray.setIfInBounds (off + o) u = ((pre2++[u])++m++C).toArray:=by
     apply Array.ext'
     rw [← hp2]
     simp
    rw [e,ih m pre C hp (by simpa using hm) (o + 1) (pre2++[u]) (by simp; omega)]
    simp
 have e:z = z.take off++(z.drop off).take us.length++z.drop (off + us.length):=by
  rw [← List.drop_drop,List.append_assoc,List.take_append_drop,List.take_append_drop]
 have h3:=key us ((z.drop off).take us.length) (z.take off) (z.drop (off + us.length)) hl (by rw [List.length_take,List.length_drop]; omega) 0 (z.take off) (by omega)
 rw [← e] at h3
 rw [← Array.foldl_toList,Array.toList_zipIdx]
 exact h3
instance za9 {pl:List (Nat×Nat)} {z z' us cs:List Value} {i off n:Nat} {v:Value} {ps:List (Nat×Value)} [p:zNr pl i off n] [c:zFd v us] [l:zPB us n] [o:zMS z off us z'] [f:zRl pl z' ps cs]:zRl pl z ((i,v)::ps) cs :=
 ⟨by rw [zSg (by rw [l.h]; exact p.h) c.h o.h]; exact f.h⟩
instance zbA {pl:List (Nat×Nat)} {B:World} {Γ:List zB} {z cs:List Value} {ps:List (Nat×Value)} {k:Array Value→K} [f:zRl pl z ps cs]:Nx B Γ (Bld z.toArray (pl[·]?) ps k) Γ (k cs.toArray):=⟨fun h w hw=>⟨_,f.h,h w hw⟩⟩
end
section
open Go Go.RowKit
abbrev zHk (r:Loop):Loop:={ r with state:=.busy }
abbrev zRm (r:Loop) (J:Exit):Loop:={ r with state:=.done,pending:=some (zOs J) }
abbrev zYP (r:Loop):Prop:=r.state = .ready∧r.pending = none
def Aft (B:World) (l:Nat) (r:Loop) (J:Exit) (a j:K):K:=fun w=>(∃ Δ,Holds B (blk l (.loop r)::Δ) w∧HG B Δ a)∨(∃ Δ,Holds B (blk l (.loop (zRm r J))::Δ) w∧HG B Δ j)
section
variable {P:Program} {B:World} {Γ Δ:List zB} {l:Nat} {r:Loop} {J:Exit} {k a j:K}
theorem zUY (h:HG B Δ a) [p:Own l Γ (blk l (.loop r)) Δ]:HG B Γ (Aft B l r J a j):=fun w hw=>.inl ⟨Δ,hw.perm p.perm,h⟩
theorem zYQ (h:HG B Δ j) [p:Own l Γ (blk l (.loop (zRm r J))) Δ]:HG B Γ (Aft B l r J a j):=fun w hw=>.inr ⟨Δ,hw.perm p.perm,h⟩
theorem zUZ (h:HG B (blk l (.loop (zHk r))::Δ) k) [p:Own l Γ (blk l (.loop r)) Δ]:HG B Γ (zKW l r k):=fun w hw=>
 ⟨(hw.perm p.perm).block,h _ (zAJ (hw.perm p.perm))⟩
theorem zYR (hr:zYP r) (h:HG B (blk l (.loop r)::Δ) k) [p:Own l Γ (blk l (.loop (zHk r))) Δ]:HG B Γ (zNA l (zHk r) k):=fun w hw=>by
 refine ⟨(hw.perm p.perm).block,h _ ?_⟩
 have h1:=zAJ (o':=.loop { zHk r with state:=.ready,pending:=none }) (hw.perm p.perm)
 have e:({ zHk r with state:=.ready,pending:=none }:Loop) = r:=by
  obtain ⟨h1,h2⟩:=hr
  cases r; simp only at h1 h2; subst h1; subst h2; rfl
 rw [e] at h1 ⊢
 exact h1
theorem zRn {D:Nat} (h:HG B Δ k) [p:Own D Γ (blk D (.deferred (some []))) Δ]:HG B Γ (zAl D k):=fun w hw=>
 zNB (hw.perm p.perm) fun w hw=>h w hw
theorem zWN {f:Value} {args:List Value} {kk:Value→K} (h:HG B Γ (j6 P f args (YN (kk (.bool true)) (kk (.bool false))))):HG B Γ (j6 P f args kk):=fun w hw=>
 zGp (h w hw) fun v w hv=>by
  rcases hv with ⟨rfl,h⟩ | ⟨rfl,h⟩ <;> exact h
theorem zFe {α:Type} {c:α→Value} {x:α} {k:α→K} (h:HG B Γ (k x)):HG B Γ (qD c k (c x)):=fun w hw=>⟨x,rfl,h w hw⟩
theorem zPC {α:Type} {g:FuncId} {cs:List Value} {cX:α→List Value} {body:(K→K)→K→K→α→K} {after afterJ:Nat→K} (hc:callable P g = true)
  (h:∀ D l r,zYP r→(∀ (x:α) (kN kJ:K) (Δ:List zB),HG B (blk l (.loop r)::Δ) (body (zKW l r) (zNA l (zHk r) kN) (zRU l (zHk r) J kJ) x)→HG B (blk l (.loop r)::Δ) (j6 P (yv l) (cX x) (YN kN kJ))) →
   HG B (blk l (.loop r)::blk D (.deferred (some []))::Γ) (zX P g (yv l::cs).toArray fun _=>Aft B l r J (after D) (afterJ D))) :
  HG B Γ (zAD P (.func (.func g) #[] cs.toArray) J cX body after afterJ):=fun w hw=>by
 refine ⟨g,cs.toArray,rfl,hc,fun r w1 h1 h2 h3 hw1 hy=>?_⟩
 have h4:=hw.alloc (.deferred (some []))
 have h5:=h4.alloc (.loop r)
 have e:({ w with heap:=w.heap.push (.deferred (some [])) }:World).heap.size = w.heap.size + 1:=by simp
 rw [e] at h5
 subst hw1
 have h6:=h w.heap.size (w.heap.size + 1) r ⟨h1,h2⟩ (fun x kN kJ Δ hb w hw=>⟨_,rfl,hy x kN kJ w hw.block (hb w hw)⟩) _ h5
 refine (show Calls P g (yv (w.heap.size + 1)::cs).toArray _ (Ret _) from h6).mono fun e w3 he=>?_
 cases e with
 | returned v=>
  rcases he with ⟨Δ,h7,h8⟩ | ⟨Δ,h7,h8⟩
  ·exact .inl ⟨h7.block,h8 _ (zAJ (o':=.loop { r with state:=.exhausted }) h7).tail⟩
  ·exact .inr ⟨h7.block,h8 _ (zAJ (o':=.loop { r with state:=.exhausted,pending:=some (zOs J) }) h7).tail⟩
 | panicked c=>exact he.elim
 | outgrown=>exact he.elim
end
end
section
open Go Go.RowKit
namespace Bt
structure BtW (κ:Type) extends BtT κ where
 fAll:Nat
 tPT:Nat
 nwalkC:Option Addr→Option Addr→Value→(Bool→K)→K
section
variable {κ:Type}
def zAe (G:BtW κ) (Q:Bool→K) (X2:(Option Addr)→Int→K) (i7_4:Int) (t74_4:Bool):K :=
 Ite t74_4
  (Q false)
  (Ar (IntKind.wrap .i64 (i7_4 + 1)) fun t26=>
  X2 none t26)
def zBk (G:BtW κ) (Q:Bool→K) (X2:(Option Addr)→Int→K) (n0_3:Addr) (yield2_3:Value) (i7_3:Int) (t46_3:Bool):K :=
 Ite t46_3
  (Q false)
  (Dr<|
  Ld n0_3 Sl.val fun t51=>
  Ite (decide (i7_3 < (t51.n:Int)))
   (Ld n0_3 Sl.val fun t59=>
   Idx t59 i7_3 (G.nv + 1) fun t61=>
   Ld t61 G.kV fun t63=>
   Ld n0_3 Sl.val fun t67=>
   Idx t67 i7_3 (G.nv + 1) fun t69=>
   LdN (t69.add 1) G.nv fun t71=>
   j6 G.P yield2_3 [(G.kV t63),(.agg t71)] <| qD (fun (t72:Bool)=>Value.bool t72) fun t72=>
   zAe G Q X2 i7_3 (!t72))
   (zAe G Q X2 i7_3 false))
def zFf (G:BtW κ) (Q:Bool→K)  (X2:(Option Addr)→Int→K) (n0_2:(Option Addr)) (yield2_2:Value) (from1_2:(Option Addr)) (i7_2:Int):K :=
 Nn n0_2 fun t20=>
 Ld t20 Sl.val fun t22=>
 Ite (decide (i7_2 ≤ (t22.n:Int)))
  (Ld (t20.add 1) Sl.val fun t31=>
  Ite (decide (i7_2 < (t31.n:Int)))
   (Ld (t20.add 1) Sl.val fun t38=>
   Idx t38 i7_2 1 fun t40=>
   Ld t40 Value.pointer fun t41=>
   G.nwalkC t41 from1_2 yield2_2 fun t44=>
   zBk G Q X2 t20 yield2_2 i7_2 (!t44))
   (zBk G Q X2 t20 yield2_2 i7_2 false))
  (Q true)
def zEK (G:BtW κ) (Q:Bool→K)  (n0_1:(Option Addr)) (from1_1:(Option Addr)) (yield2_1:Value) (i7_1:Int):K :=
 yM (α:=(Option Addr)×Int) (fun X x=>zFf G Q (fun from1_2 i7_2=>X (from1_2,i7_2)) n0_1 yield2_1 x.1 x.2) (from1_1,i7_1)
def zKl (G:BtW κ) (n0:(Option Addr)) (from1:(Option Addr)) (yield2:Value) (Q:Bool→K):K :=
 Ite (!(from1).isNone)
  (Nn from1 fun t13=>
  Ld t13 G.kV fun t14=>
  G.nsearchC n0 t14 fun t15x0 t15x1=>
  zEK G Q n0 (some t13) yield2 t15x0)
  (zEK G Q n0 from1 yield2 0)
end
structure zRo {κ:Type} (G:BtW κ) (c:κ→κ→Int):Prop extends BtOk G.toBtT c where
 walk:∀ n f y Q w,zKl G n f y Q w→G.nwalkC n f y Q w
section
variable {κ:Type} {G:BtW κ} {c:κ→κ→Int} {B:World} {Γ Δ:List zB}
theorem zKm (ok:zRo G c) {F:Nat→zB} {E:zB} {L0:List G.It} {y:Value}
  (step:∀ i x,L0[i]? = some x→∀ (Δ:List zB) (kk:Value→K),HG B (F (i + 1)::Δ) (kk (.bool true))→HG B (E::Δ) (kk (.bool false))→HG B (F i::Δ) (j6 G.P y [G.kV x.1,.agg x.2.1.toArray] kk)) :
  ∀ (d:Nat) {m b:Nat} {A L C:List G.It} {Γ:List zB} {Q:Bool→K},L0 = A++L++C→HG B (F (A.length + L.length)::qQ G.toBtT d m b L::Γ) (Q true)→HG B (E::qQ G.toBtT d m b L::Γ) (Q false) →
   HG B (F A.length::qQ G.toBtT d m b L::Γ) (zKl G (some ⟨b,0,none⟩) none y Q)
 | 0,m,b,A,L,C,Γ,Q,hL0,ht,hf=>by
  unfold zKl zEK
  refine s_f ?_
  refine vH b ?_
  refine zNj fun s kd hm hl=>?_
  refine vw s fun l1 l2 l3 l4=>?_
  refine vw kd fun m1 m2 m3 m4=>?_
  rw [yu G.f _ G.uj] at l1
  have hn:s.n = L.length:=(Nat.eq_of_mul_eq_mul_right (by omega) l1).symm
  have hkn:kd.n = 0:=by simpa using m1.symm
  have ht':HG B (F (A.length + L.length)::qZ G.toBtT b s kd::vg G.toBtT s L::vY G.toBtT kd []::Γ) (Q true):=by
   refine vH b ?_
   refine zI (Δ:=qZ G.toBtT b s kd::vg G.toBtT s L::vY G.toBtT kd []::F (A.length + L.length)::Γ) ?_
   exact zHi hm hl (vD ht)
  have hf':HG B (E::qZ G.toBtT b s kd::vg G.toBtT s L::vY G.toBtT kd []::Γ) (Q false):=by
   refine vH b ?_
   refine zI (Δ:=qZ G.toBtT b s kd::vg G.toBtT s L::vY G.toBtT kd []::E::Γ) ?_
   exact zHi hm hl (vD hf)
  refine zI (Δ:=F (A.length + min 0 L.length)::qZ G.toBtT b s kd::vg G.toBtT s L::vY G.toBtT kd []::Γ) ?_ (d:=by simpa using (inferInstance:Drops (qZ G.toBtT b s kd::vg G.toBtT s L::vY G.toBtT kd []::F A.length::Γ) (F A.length::qZ G.toBtT b s kd::vg G.toBtT s L::vY G.toBtT kd []::Γ)))
  refine jm (α:=Option Addr×Int) (ι:=Nat) (fun x i=>x = (none,(i:Int))∧i ≤ L.length + 1) (fun x i=>F (A.length + min i L.length)::qZ G.toBtT b s kd::vg G.toBtT s L::vY G.toBtT kd []::Γ) (fun x i=>L.length + 1 - i) 0 ⟨rfl,Nat.zero_le _⟩ ?_
  rintro k' _ i ⟨rfl,hi⟩ hk'
  simp only at hk' ⊢
  unfold zFf
  refine xM ?_
  refine yE (b:=b) (x:=s) ?_
  refine yA (fun hb=>?_) fun hb=>?_
  ·have hiL:i ≤ L.length:=by simp only [decide_eq_true_eq] at hb; omega
   rw [Nat.min_eq_left hiL]
   refine yE (b:=b) (x:=kd) ?_
   refine s_f ?_
   unfold zBk
   refine s_f ?_
   refine zAQ ?_
   refine yE (b:=b) (x:=s) ?_
   refine yA (fun hb2=>?_) fun hb2=>?_
   ·have hil:i < L.length:=by simp only [decide_eq_true_eq] at hb2; omega
    have hge:L[i]? = some L[i]:=List.getElem?_eq_getElem hil
    generalize L[i] = x at hge
    have hge0:L0[A.length + i]? = some x:=by
     rw [hL0,List.append_assoc,List.getElem?_append_right (by omega),Nat.add_sub_cancel_left,List.getElem?_append_left hil,hge]
    refine yE (b:=b) (x:=s) ?_
    refine zCQ (s:=s) (i:=i) ?_
    refine zGv (s:=s) (x:=x.1) (by exact (zDi (off:=0) G.uj hge (by omega)).trans rfl) ?_
    refine yE (b:=b) (x:=s) ?_
    refine zCQ (s:=s) (i:=i) ?_
    refine zFa (s:=s) (off:=1) (l':=x.2.1) ?_ x.2.2.1 ?_
    ·have h1:=zBP G.uj hge
     have e:((L.flatMap G.f).drop (i * (G.nv + 1) + 1)).take G.nv = (((L.flatMap G.f).drop (i * (G.nv + 1))).take (G.nv + 1)).drop 1:=by rw [← List.drop_drop,List.drop_take]; rfl
     rw [e,h1]; rfl
    refine step _ x hge0 _ _ ?_ ?_
    ·refine zFe ?_
     unfold zAe
     refine s_f ?_
     refine zAn ?_
     have:=hk' (none,(i:Int) + 1) (i + 1) ⟨by simp,by omega⟩ (by omega)
     rw [Nat.min_eq_left (show i + 1 ≤ L.length from hil)] at this
     exact this
    ·refine zFe ?_
     unfold zAe
     exact s_t hf'
   ·have hil:i = L.length:=by simp only [decide_eq_false_iff_not] at hb2; omega
    unfold zAe
    refine s_f ?_
    refine zAn ?_
    have:=hk' (none,(i:Int) + 1) (i + 1) ⟨by simp,by omega⟩ (by omega)
    rw [Nat.min_eq_right (by omega)] at this
    rw [hil]
    rw [hil] at this
    exact this
  ·have hil:¬ i ≤ L.length:=by simp only [decide_eq_false_iff_not] at hb; omega
   rw [Nat.min_eq_right (by omega)]
   exact ht'
 | d + 1,m,b,A,L,C,Γ,Q,hL0,ht,hf=>by
  unfold zKl zEK
  refine s_f ?_
  refine vH b ?_
  refine zNk fun s kd q0 ps hne hl hM=>?_
  subst hM
  refine vw s fun l1 l2 l3 l4=>?_
  refine vw kd fun m1 m2 m3 m4=>?_
  rw [yu G.f _ G.uj] at l1
  have hn:s.n = ps.length:=by
   have:=Nat.eq_of_mul_eq_mul_right (by omega) l1
   simpa using this.symm
  have hkn:kd.n = ps.length + 1:=by simpa using m1.symm
  have ht':HG B (F (A.length + (psL q0 ps).length)::qZ G.toBtT b s kd::vg G.toBtT s (ps.map Prod.fst)::vY G.toBtT kd ((q0::ps.map Prod.snd).map ptr)::vC G.toBtT d (q0::ps.map Prod.snd)::Γ) (Q true):=by
   refine vH b ?_
   refine zI (Δ:=qZ G.toBtT b s kd::vg G.toBtT s (ps.map Prod.fst)::vY G.toBtT kd ((q0::ps.map Prod.snd).map ptr)::vC G.toBtT d (q0::ps.map Prod.snd)::F (A.length + (psL q0 ps).length)::Γ) ?_
   exact zGd hne hl (vD ht)
  have hf':HG B (E::qZ G.toBtT b s kd::vg G.toBtT s (ps.map Prod.fst)::vY G.toBtT kd ((q0::ps.map Prod.snd).map ptr)::vC G.toBtT d (q0::ps.map Prod.snd)::Γ) (Q false):=by
   refine vH b ?_
   refine zI (Δ:=qZ G.toBtT b s kd::vg G.toBtT s (ps.map Prod.fst)::vY G.toBtT kd ((q0::ps.map Prod.snd).map ptr)::vC G.toBtT d (q0::ps.map Prod.snd)::E::Γ) ?_
   exact zGd hne hl (vD hf)
  let pos:Option (List (Kid G.toBtT×G.It)×Kid G.toBtT×List (G.It×Kid G.toBtT))→Nat:=fun i=>match i with
   | none=>A.length + (psL q0 ps).length
   | some (l,_,_)=>A.length + (zAE l).length
  let num:Option (List (Kid G.toBtT×G.It)×Kid G.toBtT×List (G.It×Kid G.toBtT))→Nat:=fun i=>match i with
   | none=>ps.length + 1
   | some (l,_,_)=>l.length
  let Gd:Option (List (Kid G.toBtT×G.It)×Kid G.toBtT×List (G.It×Kid G.toBtT))→Prop:=fun i=>match i with
   | none=>True
   | some (l,q,r)=>ps.map Prod.fst = l.map Prod.snd++r.map Prod.fst∧q0::ps.map Prod.snd = l.map Prod.fst++q::r.map Prod.snd∧psL q0 ps = zAE l++q.2++jS r
  refine zI (Δ:=F (pos (some ([],q0,ps)))::qZ G.toBtT b s kd::vg G.toBtT s (ps.map Prod.fst)::vY G.toBtT kd ((q0::ps.map Prod.snd).map ptr)::vC G.toBtT d (q0::ps.map Prod.snd)::Γ) ?_ (d:=by
   show Drops _ (F A.length::_)
   infer_instance)
  refine jm (α:=Option Addr×Int) (ι:=Option (List (Kid G.toBtT×G.It)×Kid G.toBtT×List (G.It×Kid G.toBtT))) (fun x i=>x = (none,(num i:Int))∧Gd i)
   (fun x i=>F (pos i)::qZ G.toBtT b s kd::vg G.toBtT s (ps.map Prod.fst)::vY G.toBtT kd ((q0::ps.map Prod.snd).map ptr)::vC G.toBtT d (q0::ps.map Prod.snd)::Γ) (fun x i=>ps.length + 1 - num i) (some ([],q0,ps)) ⟨rfl,rfl,rfl,rfl⟩ ?_
  rintro k' _ i ⟨rfl,hg1⟩ hk'
  simp only at hk' ⊢
  unfold zFf
  refine xM ?_
  refine yE (b:=b) (x:=s) ?_
  match i,hg1,hk' with
  | none,_,hk'=>
   refine s_f ?_ (by simp only [num,decide_eq_false_iff_not]; omega)
   exact ht'
  | some (l,q,r),⟨g1,g2,g3⟩,hk'=>
   simp only [pos,num] at hk' ⊢
   have hlen:ps.length = l.length + r.length:=by have:=congrArg List.length g1; simpa using this
   refine s_t ?_ (by simp only [decide_eq_true_eq]; omega)
   refine yE (b:=b) (x:=kd) ?_
   refine s_t ?_ (by simp only [decide_eq_true_eq]; omega)
   refine yE (b:=b) (x:=kd) ?_
   refine zCQ (s:=kd) (i:=l.length) ?_
   rw [g2]
   refine zGv (s:=kd) (x:=ptr q) (by simp) ?_
   refine jF (vC G.toBtT d (l.map Prod.fst++q::r.map Prod.snd)) ?_
   refine zUT ?_
   refine fun w hw=>ok.walk _ _ _ _ _ ?_
   refine hg hw ?_
   clear hw w
   have hbk:∀ {X:zB} {kk:K},HG B (X::qZ G.toBtT b s kd::vg G.toBtT s (ps.map Prod.fst)::vY G.toBtT kd ((q0::ps.map Prod.snd).map ptr)::vC G.toBtT d (q0::ps.map Prod.snd)::Γ) kk →
     HG B (X::qQ G.toBtT d 2 q.1 q.2::vC G.toBtT d (l.map Prod.fst++r.map Prod.snd)::qZ G.toBtT b s kd::vg G.toBtT s (ps.map Prod.fst)::vY G.toBtT kd ((l.map Prod.fst++q::r.map Prod.snd).map ptr)::Γ) kk:=fun {X kk} h=>by
    refine vH q.1 ?_
    refine zI (Δ:=qQ G.toBtT d 2 q.1 q.2::vC G.toBtT d (l.map Prod.fst++r.map Prod.snd)::X::qZ G.toBtT b s kd::vg G.toBtT s (ps.map Prod.fst)::vY G.toBtT kd ((l.map Prod.fst++q::r.map Prod.snd).map ptr)::Γ) ?_
    refine zEl ?_
    rw [← g2]
    exact zI h
   have eA:A.length + (zAE l).length = (A++zAE l).length:=by simp
   rw [eA]
   refine zI (Δ:=F (A++zAE l).length::qQ G.toBtT d 2 q.1 q.2::vC G.toBtT d (l.map Prod.fst++r.map Prod.snd)::qZ G.toBtT b s kd::vg G.toBtT s (ps.map Prod.fst)::vY G.toBtT kd ((l.map Prod.fst++q::r.map Prod.snd).map ptr)::Γ) ?_
   have hL0':L0 = (A++zAE l)++q.2++(jS r++C):=by rw [hL0,g3]; simp
   refine zKm ok step d (C:=jS r++C) hL0' (hbk ?_) (hbk ?_)
   ·unfold zBk
    refine s_f ?_
    refine zAQ ?_
    refine yE (b:=b) (x:=s) ?_
    cases r with
    | nil=>
     refine s_f ?_ (by simp only [List.length_nil] at hlen; simp only [decide_eq_false_iff_not]; omega)
     unfold zAe
     refine s_f ?_
     refine zAn ?_
     have:=hk' (none,(l.length:Int) + 1) none ⟨by simp only [num]; simp only [List.length_nil] at hlen; rw [hlen]; simp,trivial⟩ (by simp only [num]; omega)
     simp only [pos] at this
     have e2:(A++zAE l).length + q.2.length = A.length + (psL q0 ps).length:=by rw [g3]; simp [jS]; omega
     rw [e2]; exact this
    | cons p r=>
     obtain ⟨x,q'⟩:=p
     refine s_t ?_ (by simp only [List.length_cons] at hlen; simp only [decide_eq_true_eq]; omega)
     have hge:(ps.map Prod.fst)[l.length]? = some x:=by rw [g1]; simp
     have hge0:L0[(A++zAE l).length + q.2.length]? = some x:=by
      rw [hL0',show A++zAE l++q.2++(jS ((x,q')::r)++C) = (A++zAE l++q.2)++x::(q'.2++jS r++C) by simp [jS]]
      rw [List.getElem?_append_right (by simp; omega)]
      have e9:(A++zAE l).length + q.2.length - (A++zAE l++q.2).length = 0:=by simp only [List.length_append]; omega
      rw [e9]; rfl
     refine yE (b:=b) (x:=s) ?_
     refine zCQ (s:=s) (i:=l.length) ?_ rfl (by simp only [List.length_cons] at hlen; omega)
     refine zGv (s:=s) (x:=x.1) (by exact (zDi (off:=0) G.uj hge (by omega)).trans rfl) ?_
     refine yE (b:=b) (x:=s) ?_
     refine zCQ (s:=s) (i:=l.length) ?_ rfl (by simp only [List.length_cons] at hlen; omega)
     refine zFa (s:=s) (off:=1) (l':=x.2.1) ?_ x.2.2.1 ?_
     ·have h1:=zBP G.uj hge
      have e:(((ps.map Prod.fst).flatMap G.f).drop (l.length * (G.nv + 1) + 1)).take G.nv = ((((ps.map Prod.fst).flatMap G.f).drop (l.length * (G.nv + 1))).take (G.nv + 1)).drop 1:=by rw [← List.drop_drop,List.drop_take]; rfl
      rw [e,h1]; rfl
     refine step _ x hge0 _ _ ?_ ?_
     ·refine zFe ?_
      unfold zAe
      refine s_f ?_
      refine zAn ?_
      have:=hk' (none,(l.length:Int) + 1) (some (l++[(q,x)],q',r)) ⟨by simp [num],by rw [g1]; simp,by rw [g2]; simp,by rw [g3]; simp [zAE,jS]⟩ (by simp only [num,List.length_append,List.length_cons,List.length_nil]; simp only [List.length_cons] at hlen; omega)
      simp only [pos] at this
      have e2:A.length + (zAE (l++[(q,x)])).length = (A++zAE l).length + q.2.length + 1:=by simp [zAE]; omega
      rw [e2] at this; exact this
     ·refine zFe ?_
      unfold zAe
      exact s_t hf'
   ·unfold zBk
    exact s_t hf'
end
end Bt
end
section
open Go Go.RowKit
namespace Bt
section
variable {κ:Type} {G:BtT κ} {c:κ→κ→Int} {B:World} {Γ Δ:List zB}
theorem zMT (ok:BtOk G c) {b:Nat} {s kd:Sl} {its:List G.It} {k:κ} {Q:Int→Bool→K} [p:Own b Γ (blk b (.cells [s.val,kd.val].toArray G.tN (0,0))) Δ] {Δ2:List zB} [q:zCs s Γ (SlC G.tI (G.nv + 1) s (its.flatMap G.f)) Δ2]
  (hs:Srt c its) (hl:its.length ≤ 1000) (h:∀ A C hd,its = A++C→(∀ x ∈ A,c x.1 k < 0)→(∀ x ∈ C,¬ c x.1 k < 0)→HG B Γ (Q A.length hd)) :
  HG B Γ (G.nsearchC (some ⟨b,0,none⟩) k Q):=by
 refine zKf ok (s:=s) (kd:=kd) hs hl (fun A v C e=>?_) fun A C e hA hC=>h A C false e hA fun x hx=>?_
 ·subst e
  have h0:=List.pairwise_append.1 hs
  have hkk:c k k = 0:=(ok.eq (a:=k) (b:=k)).2 rfl
  refine h A _ true rfl (fun x hx=>h0.2.2 x hx (k,v) (by simp)) fun x hx=>?_
  rcases List.mem_cons.1 hx with rfl | hx
  ·simp only; omega
  ·have h1:c k x.1 < 0:=(List.pairwise_cons.1 h0.2.1).1 x hx
   intro h2
   have:=ok.tr h1 h2
   omega
 ·have h1:=hC x hx
  intro h2
  have:=ok.tr h1 h2
  have hkk:c k k = 0:=(ok.eq (a:=k) (b:=k)).2 rfl
  omega
theorem zPD {α:Type} {p:α→Prop} {L1 L2 P M R:List α} (h:L1++L2 = P++M++R) (h1:∀ x ∈ L1,p x) (h2:∀ x ∈ L2,¬ p x) (hP:∀ x ∈ P,p x) (hR:∀ x ∈ R,¬ p x):∃ M1 M2,M = M1++M2∧L1 = P++M1∧L2 = M2++R:=by
 rw [List.append_assoc] at h
 obtain ⟨c,e1,h'⟩:∃ c,L1 = P++c∧M++R = c++L2:=by
  rcases List.append_eq_append_iff.1 h with ⟨a,ha,hb⟩ | ⟨a,ha,hb⟩
  ·have:a = []:=by
    cases a with
    | nil=>rfl
    | cons x a=>exact absurd (hP x (by rw [ha]; simp)) (h2 x (by rw [hb]; simp))
   subst this
   exact ⟨[],by simpa using ha.symm,by simpa using hb.symm⟩
  ·exact ⟨a,ha,hb⟩
 subst e1
 rcases List.append_eq_append_iff.1 h' with ⟨a,ha,hb⟩ | ⟨a,ha,hb⟩
 ·have:a = []:=by
   cases a with
   | nil=>rfl
   | cons x a=>exact absurd (h1 x (by rw [ha]; simp)) (hR x (by rw [hb]; simp))
  subst this
  exact ⟨M,[],by simp,by simpa using ha,by simpa using hb.symm⟩
 ·exact ⟨c,a,ha,rfl,hb⟩
theorem zWO (ok:BtOk G c) {k:κ} {r:List (G.It×Kid G)} (hs:Srt c (jS r)) (h:∀ x ∈ r.map Prod.fst,¬ c x.1 k < 0):∀ y ∈ jS r,¬ c y.1 k < 0:=fun y hy=>by
 cases r with
 | nil=>simp [jS] at hy
 | cons p r=>
  obtain ⟨x,q⟩:=p
  have e:jS ((x,q)::r) = x::(q.2++jS r):=by simp [jS]
  rw [e] at hs hy
  have hx:¬ c x.1 k < 0:=h x (by simp)
  rcases List.mem_cons.1 hy with rfl | hy
  ·exact hx
  ·intro h2
   exact hx (ok.tr ((List.pairwise_cons.1 hs).1 y hy) h2)
end
section
variable {κ:Type} {G:BtW κ} {c:κ→κ→Int} {B:World} {Γ Δ:List zB}
theorem zJL (ok:zRo G c) {F:Nat→zB} {E:zB} {L0:List G.It} {y:Value} {kb tq:Nat} {key:κ}
  (step:∀ i x,L0[i]? = some x→∀ (Δ:List zB) (kk:Value→K),HG B (F (i + 1)::Δ) (kk (.bool true))→HG B (E::Δ) (kk (.bool false))→HG B (F i::Δ) (j6 G.P y [G.kV x.1,.agg x.2.1.toArray] kk)) :
  ∀ (d:Nat) {m b:Nat} {A L L1 L2 C:List G.It} {Γ:List zB} {Q:Bool→K},L0 = A++L++C→Srt c L→L = L1++L2→(∀ x ∈ L1,c x.1 key < 0)→(∀ x ∈ L2,¬ c x.1 key < 0) →
   HG B (F (A.length + L.length)::qQ G.toBtT d m b L::blk kb (.cells [G.kV key].toArray tq (0,0))::Γ) (Q true)→HG B (E::qQ G.toBtT d m b L::blk kb (.cells [G.kV key].toArray tq (0,0))::Γ) (Q false) →
   HG B (F (A.length + L1.length)::qQ G.toBtT d m b L::blk kb (.cells [G.kV key].toArray tq (0,0))::Γ) (zKl G (some ⟨b,0,none⟩) (some ⟨kb,0,none⟩) y Q)
 | 0,m,b,A,L,L1,L2,C,Γ0,Q,hL0,hsr,hsp,hlt,hge0,ht,hf=>by
  unfold zKl zEK
  refine s_t ?_
  refine xM ?_
  refine vH b ?_
  refine zNj fun s kd hm hl=>?_
  refine vw s fun l1 l2 l3 l4=>?_
  refine vw kd fun m1 m2 m3 m4=>?_
  rw [yu G.f _ G.uj] at l1
  have hn:s.n = L.length:=(Nat.eq_of_mul_eq_mul_right (by omega) l1).symm
  have hkn:kd.n = 0:=by simpa using m1.symm
  refine yE (b:=kb) (x:=key) ?_
  refine zMT ok.toBtOk (s:=s) (kd:=kd) hsr (by omega) fun A' C' hd e hA' hC'=>?_
  obtain ⟨M1,M2,e1,e2,_⟩:=zPD (P:=A') (M:=[]) (R:=C') (hsp.symm.trans (by simpa using e)) hlt hge0 hA' hC'
  obtain ⟨rfl,rfl⟩:=List.append_eq_nil_iff.1 e1.symm
  rw [List.append_nil] at e2
  subst e2
  have hle:L1.length ≤ L.length:=by rw [hsp]; simp
  revert ht hf
  generalize blk kb (.cells [G.kV key].toArray tq (0,0))::Γ0 = Γ
  intro ht hf
  have ht':HG B (F (A.length + L.length)::qZ G.toBtT b s kd::vg G.toBtT s L::vY G.toBtT kd []::Γ) (Q true):=by
   refine vH b ?_
   refine zI (Δ:=qZ G.toBtT b s kd::vg G.toBtT s L::vY G.toBtT kd []::F (A.length + L.length)::Γ) ?_
   exact zHi hm hl (vD ht)
  have hf':HG B (E::qZ G.toBtT b s kd::vg G.toBtT s L::vY G.toBtT kd []::Γ) (Q false):=by
   refine vH b ?_
   refine zI (Δ:=qZ G.toBtT b s kd::vg G.toBtT s L::vY G.toBtT kd []::E::Γ) ?_
   exact zHi hm hl (vD hf)
  refine zI (Δ:=F (A.length + min L1.length L.length)::qZ G.toBtT b s kd::vg G.toBtT s L::vY G.toBtT kd []::Γ) ?_ (d:=by rw [Nat.min_eq_left hle]; infer_instance)
  refine jm (α:=Option Addr×Int) (ι:=Option Addr×Nat) (fun x i=>x = (i.1,(i.2:Int))∧i.2 ≤ L.length + 1) (fun x i=>F (A.length + min i.2 L.length)::qZ G.toBtT b s kd::vg G.toBtT s L::vY G.toBtT kd []::Γ) (fun x i=>L.length + 1 - i.2) (some ⟨kb,0,none⟩,L1.length) ⟨rfl,by simp only; omega⟩ ?_
  rintro k' _ ⟨fp,i⟩ ⟨rfl,hi⟩ hk'
  simp only at hi
  simp only at hk' ⊢
  unfold zFf
  refine xM ?_
  refine yE (b:=b) (x:=s) ?_
  refine yA (fun hb=>?_) fun hb=>?_
  ·have hiL:i ≤ L.length:=by simp only [decide_eq_true_eq] at hb; omega
   rw [Nat.min_eq_left hiL]
   refine yE (b:=b) (x:=kd) ?_
   refine s_f ?_
   unfold zBk
   refine s_f ?_
   refine zAQ ?_
   refine yE (b:=b) (x:=s) ?_
   refine yA (fun hb2=>?_) fun hb2=>?_
   ·have hil:i < L.length:=by simp only [decide_eq_true_eq] at hb2; omega
    have hge:L[i]? = some L[i]:=List.getElem?_eq_getElem hil
    generalize L[i] = x at hge
    have hge0:L0[A.length + i]? = some x:=by
     rw [hL0,List.append_assoc,List.getElem?_append_right (by omega),Nat.add_sub_cancel_left,List.getElem?_append_left hil,hge]
    refine yE (b:=b) (x:=s) ?_
    refine zCQ (s:=s) (i:=i) ?_
    refine zGv (s:=s) (x:=x.1) (by exact (zDi (off:=0) G.uj hge (by omega)).trans rfl) ?_
    refine yE (b:=b) (x:=s) ?_
    refine zCQ (s:=s) (i:=i) ?_
    refine zFa (s:=s) (off:=1) (l':=x.2.1) ?_ x.2.2.1 ?_
    ·have h1:=zBP G.uj hge
     have e:((L.flatMap G.f).drop (i * (G.nv + 1) + 1)).take G.nv = (((L.flatMap G.f).drop (i * (G.nv + 1))).take (G.nv + 1)).drop 1:=by rw [← List.drop_drop,List.drop_take]; rfl
     rw [e,h1]; rfl
    refine step _ x hge0 _ _ ?_ ?_
    ·refine zFe ?_
     unfold zAe
     refine s_f ?_
     refine zAn ?_
     have:=hk' (none,(i:Int) + 1) (none,i + 1) ⟨by simp,by simp only; omega⟩ (by simp only; omega)
     rw [Nat.min_eq_left (show i + 1 ≤ L.length from hil)] at this
     exact this
    ·refine zFe ?_
     unfold zAe
     exact s_t hf'
   ·have hil:i = L.length:=by simp only [decide_eq_false_iff_not] at hb2; omega
    unfold zAe
    refine s_f ?_
    refine zAn ?_
    have:=hk' (none,(i:Int) + 1) (none,i + 1) ⟨by simp,by simp only; omega⟩ (by simp only; omega)
    rw [Nat.min_eq_right (by omega)] at this
    rw [hil]
    rw [hil] at this
    exact this
  ·have hil:¬ i ≤ L.length:=by simp only [decide_eq_false_iff_not] at hb; omega
   rw [Nat.min_eq_right (by omega)]
   exact ht'
 | d + 1,m,b,A,L,L1,L2,C,Γ0,Q,hL0,hsr,hsp,hlt,hge0,ht,hf=>by
  unfold zKl zEK
  refine s_t ?_
  refine xM ?_
  refine vH b ?_
  refine zNk fun s kd q0 ps hne hl hM=>?_
  subst hM
  refine vw s fun l1 l2 l3 l4=>?_
  refine vw kd fun m1 m2 m3 m4=>?_
  rw [yu G.f _ G.uj] at l1
  have hn:s.n = ps.length:=by
   have:=Nat.eq_of_mul_eq_mul_right (by omega) l1
   simpa using this.symm
  have hkn:kd.n = ps.length + 1:=by simpa using m1.symm
  refine yE (b:=kb) (x:=key) ?_
  refine zMT ok.toBtOk (s:=s) (kd:=kd) (hsr.sub (zNi q0 ps)) (by simp; omega) fun A' C' hd e hA' hC'=>?_
  have ht':HG B (F (A.length + (psL q0 ps).length)::qZ G.toBtT b s kd::vg G.toBtT s (ps.map Prod.fst)::vY G.toBtT kd ((q0::ps.map Prod.snd).map ptr)::vC G.toBtT d (q0::ps.map Prod.snd)::blk kb (.cells [G.kV key].toArray tq (0,0))::Γ0) (Q true):=by
   refine vH b ?_
   refine zI (Δ:=qZ G.toBtT b s kd::vg G.toBtT s (ps.map Prod.fst)::vY G.toBtT kd ((q0::ps.map Prod.snd).map ptr)::vC G.toBtT d (q0::ps.map Prod.snd)::F (A.length + (psL q0 ps).length)::blk kb (.cells [G.kV key].toArray tq (0,0))::Γ0) ?_
   exact zGd hne hl (vD ht)
  have hf':HG B (E::qZ G.toBtT b s kd::vg G.toBtT s (ps.map Prod.fst)::vY G.toBtT kd ((q0::ps.map Prod.snd).map ptr)::vC G.toBtT d (q0::ps.map Prod.snd)::blk kb (.cells [G.kV key].toArray tq (0,0))::Γ0) (Q false):=by
   refine vH b ?_
   refine zI (Δ:=qZ G.toBtT b s kd::vg G.toBtT s (ps.map Prod.fst)::vY G.toBtT kd ((q0::ps.map Prod.snd).map ptr)::vC G.toBtT d (q0::ps.map Prod.snd)::E::blk kb (.cells [G.kV key].toArray tq (0,0))::Γ0) ?_
   exact zGd hne hl (vD hf)
  obtain ⟨l0,qq,r0,rfl,rfl,hK0,hL2,hlen0⟩:=zQa (q0:=q0) e
  have hsr':=hsr
  rw [hL2] at hsr'
  have hs1:=List.pairwise_append.1 hsr'
  have hpre:=zQZ ok.toBtOk l0 (List.pairwise_append.1 hs1.1).1 hA'
  have hpost:=zWO ok.toBtOk hs1.2.1 hC'
  obtain ⟨Q1,Q2,hq,hL1,hL2'⟩:=zPD (hsp.symm.trans hL2) hlt hge0 hpre hpost
  let pos:Option (Option Addr×List (Kid G.toBtT×G.It)×Kid G.toBtT×List (G.It×Kid G.toBtT))→Nat:=fun i=>match i with
   | none=>A.length + (psL q0 ps).length
   | some (none,l,_,_)=>A.length + (zAE l).length
   | some (some _,_,_,_)=>A.length + L1.length
  let num:Option (Option Addr×List (Kid G.toBtT×G.It)×Kid G.toBtT×List (G.It×Kid G.toBtT))→Nat:=fun i=>match i with
   | none=>ps.length + 1
   | some (_,l,_,_)=>l.length
  let fst:Option (Option Addr×List (Kid G.toBtT×G.It)×Kid G.toBtT×List (G.It×Kid G.toBtT))→Option Addr:=fun i=>match i with
   | none=>none
   | some (a,_,_,_)=>a
  let Gd:Option (Option Addr×List (Kid G.toBtT×G.It)×Kid G.toBtT×List (G.It×Kid G.toBtT))→Prop:=fun i=>match i with
   | none=>True
   | some (a,l,q,r)=>(a = none∨a = some ⟨kb,0,none⟩∧l = l0∧q = qq∧r = r0)∧ps.map Prod.fst = l.map Prod.snd++r.map Prod.fst∧q0::ps.map Prod.snd = l.map Prod.fst++q::r.map Prod.snd∧psL q0 ps = zAE l++q.2++jS r
  refine zI (Δ:=F (pos (some (some ⟨kb,0,none⟩,l0,qq,r0)))::qZ G.toBtT b s kd::vg G.toBtT s (ps.map Prod.fst)::vY G.toBtT kd ((q0::ps.map Prod.snd).map ptr)::vC G.toBtT d (q0::ps.map Prod.snd)::blk kb (.cells [G.kV key].toArray tq (0,0))::Γ0) ?_ (d:=by
   show Drops _ (F (A.length + L1.length)::_)
   infer_instance)
  rw [List.length_map]
  refine jm (α:=Option Addr×Int) (ι:=Option (Option Addr×List (Kid G.toBtT×G.It)×Kid G.toBtT×List (G.It×Kid G.toBtT))) (fun x i=>x = (fst i,(num i:Int))∧Gd i)
   (fun x i=>F (pos i)::qZ G.toBtT b s kd::vg G.toBtT s (ps.map Prod.fst)::vY G.toBtT kd ((q0::ps.map Prod.snd).map ptr)::vC G.toBtT d (q0::ps.map Prod.snd)::blk kb (.cells [G.kV key].toArray tq (0,0))::Γ0) (fun x i=>ps.length + 1 - num i) (some (some ⟨kb,0,none⟩,l0,qq,r0)) ⟨rfl,.inr ⟨rfl,rfl,rfl,rfl⟩,e,hK0,hL2⟩ ?_
  rintro k' _ i ⟨rfl,hg1⟩ hk'
  simp only at hk' ⊢
  unfold zFf
  refine xM ?_
  refine yE (b:=b) (x:=s) ?_
  match i,hg1,hk' with
  | none,_,hk'=>
   refine s_f ?_ (by simp only [num,decide_eq_false_iff_not]; omega)
   exact ht'
  | some (fa,l,q,r),⟨g0,g1,g2,g3⟩,hk'=>
   simp only [pos,num,fst] at hk' ⊢
   have hlen:ps.length = l.length + r.length:=by have:=congrArg List.length g1; simpa using this
   refine s_t ?_ (by simp only [decide_eq_true_eq]; omega)
   refine yE (b:=b) (x:=kd) ?_
   refine s_t ?_ (by simp only [decide_eq_true_eq]; omega)
   refine yE (b:=b) (x:=kd) ?_
   refine zCQ (s:=kd) (i:=l.length) ?_
   rw [g2]
   refine zGv (s:=kd) (x:=ptr q) (by simp) ?_
   refine jF (vC G.toBtT d (l.map Prod.fst++q::r.map Prod.snd)) ?_
   refine zUT ?_
   refine fun w hw=>ok.walk _ _ _ _ _ ?_
   refine hg hw ?_
   clear hw w
   have hbk:∀ {X:zB} {kk:K},HG B (X::qZ G.toBtT b s kd::vg G.toBtT s (ps.map Prod.fst)::vY G.toBtT kd ((q0::ps.map Prod.snd).map ptr)::vC G.toBtT d (q0::ps.map Prod.snd)::blk kb (.cells [G.kV key].toArray tq (0,0))::Γ0) kk →
     HG B (X::qQ G.toBtT d 2 q.1 q.2::blk kb (.cells [G.kV key].toArray tq (0,0))::vC G.toBtT d (l.map Prod.fst++r.map Prod.snd)::qZ G.toBtT b s kd::vg G.toBtT s (ps.map Prod.fst)::vY G.toBtT kd ((l.map Prod.fst++q::r.map Prod.snd).map ptr)::Γ0) kk:=fun {X kk} h=>by
    refine vH q.1 ?_
    refine zI (Δ:=qQ G.toBtT d 2 q.1 q.2::vC G.toBtT d (l.map Prod.fst++r.map Prod.snd)::X::qZ G.toBtT b s kd::vg G.toBtT s (ps.map Prod.fst)::vY G.toBtT kd ((l.map Prod.fst++q::r.map Prod.snd).map ptr)::blk kb (.cells [G.kV key].toArray tq (0,0))::Γ0) ?_
    refine zEl ?_
    rw [← g2]
    exact zI h
   have eA:A.length + (zAE l).length = (A++zAE l).length:=by simp
   have hL0':L0 = (A++zAE l)++q.2++(jS r++C):=by rw [hL0,g3]; simp
   have contF:HG B (E::qZ G.toBtT b s kd::vg G.toBtT s (ps.map Prod.fst)::vY G.toBtT kd ((q0::ps.map Prod.snd).map ptr)::vC G.toBtT d (q0::ps.map Prod.snd)::blk kb (.cells [G.kV key].toArray tq (0,0))::Γ0) (zBk G Q (fun from1_2 i7_2=>k' (from1_2,i7_2)) ⟨b,0,none⟩ y (l.length:Int) (!false)):=by
    unfold zBk
    exact s_t hf'
   have contT:HG B (F ((A++zAE l).length + q.2.length)::qZ G.toBtT b s kd::vg G.toBtT s (ps.map Prod.fst)::vY G.toBtT kd ((q0::ps.map Prod.snd).map ptr)::vC G.toBtT d (q0::ps.map Prod.snd)::blk kb (.cells [G.kV key].toArray tq (0,0))::Γ0) (zBk G Q (fun from1_2 i7_2=>k' (from1_2,i7_2)) ⟨b,0,none⟩ y (l.length:Int) (!true)):=by
    unfold zBk
    refine s_f ?_
    refine zAQ ?_
    refine yE (b:=b) (x:=s) ?_
    cases r with
    | nil=>
     refine s_f ?_ (by simp only [List.length_nil] at hlen; simp only [decide_eq_false_iff_not]; omega)
     unfold zAe
     refine s_f ?_
     refine zAn ?_
     have:=hk' (none,(l.length:Int) + 1) none ⟨by simp only [num,fst]; simp only [List.length_nil] at hlen; rw [hlen]; simp,trivial⟩ (by simp only [num]; omega)
     simp only [pos] at this
     have e2:(A++zAE l).length + q.2.length = A.length + (psL q0 ps).length:=by rw [g3]; simp [jS]; omega
     rw [e2]; exact this
    | cons p r=>
     obtain ⟨x,q'⟩:=p
     refine s_t ?_ (by simp only [List.length_cons] at hlen; simp only [decide_eq_true_eq]; omega)
     have hge:(ps.map Prod.fst)[l.length]? = some x:=by rw [g1]; simp
     have hge0:L0[(A++zAE l).length + q.2.length]? = some x:=by
      rw [hL0',show A++zAE l++q.2++(jS ((x,q')::r)++C) = (A++zAE l++q.2)++x::(q'.2++jS r++C) by simp [jS]]
      rw [List.getElem?_append_right (by simp; omega)]
      have e9:(A++zAE l).length + q.2.length - (A++zAE l++q.2).length = 0:=by simp only [List.length_append]; omega
      rw [e9]; rfl
     refine yE (b:=b) (x:=s) ?_
     refine zCQ (s:=s) (i:=l.length) ?_ rfl (by simp only [List.length_cons] at hlen; omega)
     refine zGv (s:=s) (x:=x.1) (by exact (zDi (off:=0) G.uj hge (by omega)).trans rfl) ?_
     refine yE (b:=b) (x:=s) ?_
     refine zCQ (s:=s) (i:=l.length) ?_ rfl (by simp only [List.length_cons] at hlen; omega)
     refine zFa (s:=s) (off:=1) (l':=x.2.1) ?_ x.2.2.1 ?_
     ·have h1:=zBP G.uj hge
      have e:(((ps.map Prod.fst).flatMap G.f).drop (l.length * (G.nv + 1) + 1)).take G.nv = ((((ps.map Prod.fst).flatMap G.f).drop (l.length * (G.nv + 1))).take (G.nv + 1)).drop 1:=by rw [← List.drop_drop,List.drop_take]; rfl
      rw [e,h1]; rfl
     refine step _ x hge0 _ _ ?_ ?_
     ·refine zFe ?_
      unfold zAe
      refine s_f ?_
      refine zAn ?_
      have:=hk' (none,(l.length:Int) + 1) (some (none,l++[(q,x)],q',r)) ⟨by simp [num,fst],.inl rfl,by rw [g1]; simp,by rw [g2]; simp,by rw [g3]; simp [zAE,jS]⟩ (by simp only [num,List.length_append,List.length_cons,List.length_nil]; simp only [List.length_cons] at hlen; omega)
      simp only [pos] at this
      have e2:A.length + (zAE (l++[(q,x)])).length = (A++zAE l).length + q.2.length + 1:=by simp [zAE]; omega
      rw [e2] at this; exact this
     ·refine zFe ?_
      unfold zAe
      exact s_t hf'
   rcases g0 with rfl | ⟨rfl,rfl,rfl,rfl⟩
   ·simp only
    rw [eA]
    refine zI (Δ:=F (A++zAE l).length::qQ G.toBtT d 2 q.1 q.2::blk kb (.cells [G.kV key].toArray tq (0,0))::vC G.toBtT d (l.map Prod.fst++r.map Prod.snd)::qZ G.toBtT b s kd::vg G.toBtT s (ps.map Prod.fst)::vY G.toBtT kd ((l.map Prod.fst++q::r.map Prod.snd).map ptr)::Γ0) ?_
    exact zKm ok step d (C:=jS r++C) hL0' (hbk contT) (hbk contF)
   ·simp only
    have e5:A.length + L1.length = (A++zAE l).length + Q1.length:=by rw [hL1]; simp; omega
    rw [e5]
    refine zI (Δ:=F ((A++zAE l).length + Q1.length)::qQ G.toBtT d 2 q.1 q.2::blk kb (.cells [G.kV key].toArray tq (0,0))::vC G.toBtT d (l.map Prod.fst++r.map Prod.snd)::qZ G.toBtT b s kd::vg G.toBtT s (ps.map Prod.fst)::vY G.toBtT kd ((l.map Prod.fst++q::r.map Prod.snd).map ptr)::Γ0) ?_
    exact zJL ok step d (C:=jS r++C) hL0' (List.pairwise_append.1 hs1.1).2.1 hq (fun x hx=>hlt x (by rw [hL1]; simp [hx])) (fun x hx=>hge0 x (by rw [hL2']; simp [hx])) (hbk contT) (hbk contF)
def zUa (G:BtW κ) (yield0:Value) (t1 t2:Addr) (Q:K):K :=
 Ld t1 Value.pointer fun t4=>
 Nn t4 fun t5=>
 Ld t5 Value.pointer fun t7=>
 G.nwalkC t7 (some t2) yield0 fun t9=>
 Q
theorem zSh (ok:zRo G c) {t cb kb tq fF:Nat} {key:κ} (cF:callable G.P fF = true) (from1:∀ y a b Q w,zUa G y a b Q w→zX G.P fF #[y,.pointer (some a),.pointer (some b)] (fun _=>Q) w)
  {J:Exit} {F:Nat→zB} {E:zB} {L L1 L2:List G.It} {body:(K→K)→K→K→Value×Array Value→K} {after afterJ:Nat→K} (hL:L = L1++L2) (h1:∀ x ∈ L1,c x.1 key < 0) (h2:∀ x ∈ L2,¬ c x.1 key < 0)
  (step:∀ i x,L[i]? = some x→∀ l r kN kJ (Δ:List zB),zYP r→HG B (F (i + 1)::blk l (.loop r)::Δ) kN→HG B (E::blk l (.loop (zRm r J))::Δ) kJ →
   HG B (F i::blk l (.loop r)::Δ) (body (zKW l r) (zNA l (zHk r) kN) (zRU l (zHk r) J kJ) (G.kV x.1,x.2.1.toArray)))
  (ht:∀ D,HG B (F L.length::blk D (.deferred (some []))::blk cb (.cells [.pointer (some ⟨t,0,none⟩)].toArray G.tPT (0,0))::blk kb (.cells [G.kV key].toArray tq (0,0))::zA8 G.toBtT c t L::Γ) (after D))
  (hj:∀ D,HG B (E::blk D (.deferred (some []))::blk cb (.cells [.pointer (some ⟨t,0,none⟩)].toArray G.tPT (0,0))::blk kb (.cells [G.kV key].toArray tq (0,0))::zA8 G.toBtT c t L::Γ) (afterJ D)) :
  HG B (F L1.length::blk cb (.cells [.pointer (some ⟨t,0,none⟩)].toArray G.tPT (0,0))::blk kb (.cells [G.kV key].toArray tq (0,0))::zA8 G.toBtT c t L::Γ) (zAD G.P (.func (.func fF) #[] #[.pointer (some ⟨cb,0,none⟩),.pointer (some ⟨kb,0,none⟩)]) J (fun x:Value×Array Value=>[x.1,.agg x.2]) body after afterJ):=by
 refine zPC (cs:=[.pointer (some ⟨cb,0,none⟩),.pointer (some ⟨kb,0,none⟩)]) cF fun D l r hr hy=>?_
 refine fun w hw=>from1 _ _ _ _ _ ?_
 refine hg hw ?_
 clear hw w
 unfold zUa
 refine yE (b:=cb) (x:=some ⟨t,0,none⟩) ?_
 refine xM ?_
 refine vH t ?_
 refine zQb fun d b hs=>?_
 refine yE (b:=t) (x:=some ⟨b,0,none⟩) ?_
 refine fun w hw=>ok.walk _ _ _ _ _ ?_
 refine hg hw ?_
 clear hw w
 let F':Nat→zB:=fun i=>Sep.stars [F i,blk l (.loop r)]
 let E':zB:=Sep.stars [E,blk l (.loop (zRm r J))]
 have hin:∀ {X Y:zB} {Δ:List zB} {k:K},HG B (X::Y::Δ) k→HG B (Sep.stars [X,Y]::Δ) k:=fun h=>zCY h
 have hout:∀ {X Y:zB} {Δ:List zB} {k:K},HG B (Sep.stars [X,Y]::Δ) k→HG B (X::Y::Δ) k:=fun {X Y Δ k} h=>zOx (Δ:=[X,Y]) h
 refine zI (Δ:=F L1.length::blk l (.loop r)::qQ G.toBtT d 1 b L::blk kb (.cells [G.kV key].toArray tq (0,0))::blk t (.cells [.pointer (some ⟨b,0,none⟩),.int .i64 L.length].toArray G.tT (0,0))::blk D (.deferred (some []))::blk cb (.cells [.pointer (some ⟨t,0,none⟩)].toArray G.tPT (0,0))::Γ) ?_
 refine hout ?_
 have e0:L1.length = ([]:List G.It).length + L1.length:=by simp
 have hF:F' L1.length = F' (([]:List G.It).length + L1.length):=by rw [← e0]
 show HG B (F' L1.length::_) _
 rw [hF]
 refine zJL ok (F:=F') (E:=E') (L0:=L) (fun i x hx Δ kk h1 h2=>?_) d (A:=[]) (C:=[]) (by simp) hs hL h1 h2 ?_ ?_
 ·refine zWN ?_
  refine hin ?_
  refine vD ?_
  refine hy (G.kV x.1,x.2.1.toArray) _ _ _ ?_
  refine vD ?_
  exact step i x hx l r _ _ _ hr (hout h1) (hout h2)
 ·refine hin ?_
  refine zUY ?_
  simp only [List.length_nil,Nat.zero_add]
  refine vH t ?_
  refine vH b ?_
  refine vD ?_
  refine zEJ hs ?_
  exact zI (ht D)
 ·refine hin ?_
  refine zYQ ?_
  refine vH t ?_
  refine vH b ?_
  refine vD ?_
  refine zEJ hs ?_
  exact zI (hj D)
end
end Bt
end
end Go.Sep
namespace Go.Proofs.YtgmbfnboiobeaaaGreat
section
open Go Go.Sep
set_option maxHeartbeats 4000000
attribute [local irreducible] G Gp Cx Tx Ex Sx Dx Ox Ax Lx Rx Fx Bx Bj Al Do Ld LdN St StN New zX Ar DoU Rd Rd2 Pu Cd Ite Fv zAk j6 zAY qD jT zCN zDC zDc Ext Dead Dr xW Sv LdS zBt RdS zDw Nn Idx zCO zDx Fld Bld Slc zDy Cat All yM zAC zAD zAl
instance:CB Tryz.prog 107:=⟨by kernel_rfl⟩
instance:CB Tryz.prog 120:=⟨by kernel_rfl⟩
instance:CB Tryz.prog 131:=⟨by kernel_rfl⟩
instance:CB Tryz.prog 30:=⟨by kernel_rfl⟩
instance:CB Tryz.prog 34:=⟨by kernel_rfl⟩
instance:CB Tryz.prog 58:=⟨by kernel_rfl⟩
instance:CB Tryz.prog 98:=⟨by kernel_rfl⟩
instance:CT Tryz.prog 22:=⟨by kernel_rfl⟩
instance:CT Tryz.prog 5:=⟨by kernel_rfl⟩
instance:FT Tryz.prog 193 0 0 1:=⟨by kernel_rfl⟩
instance:FT Tryz.prog 85 0 0 1:=⟨by kernel_rfl⟩
instance:INT Tryz.prog 213 .u32:=⟨by kernel_rfl⟩
instance:INT Tryz.prog 3 .i64:=⟨by kernel_rfl⟩
instance:INT Tryz.prog 33 .u64:=⟨by kernel_rfl⟩
instance:INT Tryz.prog 5 .u8:=⟨by kernel_rfl⟩
instance:MX Tryz.prog:=⟨mixed⟩
instance:PLT Tryz.prog 193 [(0,1)]:=⟨_,Tryz.underlying193,by kernel_rfl⟩
instance:SLT Tryz.prog 22 5 1:=⟨by kernel_rfl⟩
instance:SZ Tryz.prog 22 1:=⟨by kernel_rfl⟩
instance:ZT Tryz.prog 193 (.agg #[(Sl.val ⟨none,0,0⟩)]):=⟨Tryz.t193,by kernel_rfl,by kernel_rfl⟩
instance:ZT Tryz.prog 5 (.int .u8 0):=⟨Tryz.t5,by kernel_rfl,by kernel_rfl⟩
def je (f:Pt) (g:Int) (Q:K): K :=
 Nn f fun a=>
 Ld a Sl.val fun b=>
 New 5 #[.int .u8 g] fun c=>
 Do Tryz.prog (Builtin.append_ #[22,22] 22 #[Sl.val b,(Sl.val (Sl.mk (some c) 1 1))]) Sl.val fun d=>
 St a (Sl.val d)<|
 Q
theorem zId (a b Q w) (h:je a b Q w):je.call a b Q w:=by
 exact zS 14 h Tryz.func33
def xJ.b1 (Q:K) (q:Int→K) (d:Pt) (a:Int): K :=
 Ite (decide ((128:Int) ≤ a))
  (Nn d fun b=>
  Ld b Sl.val fun f=>
  Ar (IntKind.wrap .u8 a) fun g=>
  Ar (bitsOf .or .u8 g 128) fun i=>
  New 5 #[.int .u8 i] fun j=>
  Do Tryz.prog (Builtin.append_ #[22,22] 22 #[Sl.val f,(Sl.val (Sl.mk (some j) 1 1))]) Sl.val fun k=>
  St b (Sl.val k)<|
  Cd (0 ≤ (7:Int))<|
  Ar (zBc .u64 a 7) fun l=>
  q l)
  (Nn d fun c=>
  Ld c Sl.val fun m=>
  Ar (IntKind.wrap .u8 a) fun n=>
  New 5 #[.int .u8 n] fun o=>
  Do Tryz.prog (Builtin.append_ #[22,22] 22 #[Sl.val m,(Sl.val (Sl.mk (some o) 1 1))]) Sl.val fun p=>
  St c (Sl.val p)<|
  Q)
def xJ (a:Pt) (b:Int) (Q:K): K :=
 yM (α:=Int) (fun X x=>xJ.b1 Q X a x) b
theorem zE4 (a b Q w) (h:xJ a b Q w):xJ.call a b Q w:=by
 have:∀ c,LH 0 (fun x:Int=>[(0,.pointer c),(1,.int .u64 x)]) (fun X x=>xJ.b1 Q X c x):=fun _=>⟨⟩
 exact zS 31 h Tryz.func34
def jI (d:Pt) (Q:Sl→K): K :=
 Nn d fun a=>
 Ld a Sl.val fun b=>
 yw.call b fun c=>
 Q c
theorem zEL (a Q w) (h:jI a Q w):jI.call a Q w:=by
 exact zS 8 h Tryz.func56
def zBM (c:Sl) (Q:Pt→K): K :=
 yw.call c fun a=>
 New 193 #[Sl.val a] fun b=>
 Q (some b)
theorem zKn (a Q w) (h:zBM a Q w):zBM.call a Q w:=by
 exact zS 7 h Tryz.func57
def yC.s3 (Q k:Int→Int→K) (b:Addr) (g i:Int) (j:Bool): K :=
 Ite j
  (Q 0 31)
  (Ld b Sl.val fun a=>
  Ar (IntKind.wrap .i64 (i + 1)) fun d=>
  Slc a d (a.n:Int) (a.c:Int) 1 fun f=>
  St b (Sl.val f)<|
  Q g 0)
def yC.s2 (Q c:Int→Int→K) (g:Addr) (m a d:Int) (p:Sl) (q n:Int) (o:Bool): K :=
 Ite o
  (Q 0 31)
  (Cd ((128:Int) ≠ 0)<|
  Ar (Int.tmod d 128) fun i=>
  Ar (IntKind.wrap .u64 i) fun j=>
  Ar (IntKind.wrap .i64 (7 * a)) fun f=>
  Cd (0 ≤ f)<|
  Ar (zFO .u64 j f) fun k=>
  Ar (bitsOf .or .u64 m k) fun b=>
  Ite (decide (d < 128))
   (Ite (decide (d = 0))
    (yC.s3 Q c g b a (decide ((0:Int) < a)))
    (yC.s3 Q c g b a false))
   (Ar (IntKind.wrap .i64 (n + 1)) fun l=>
   c b l))
def yC.b1 (Q f:Int→Int→K) (g:Addr) (c:Sl) (d i a:Int): K :=
 Ite (decide (a < d))
  (Idx c a 1 fun j=>
  Ld j (Value.int .u8) fun b=>
  Ite (decide (a = 9))
   (yC.s2 Q f g i a b c d a (decide ((1:Int) < b)))
   (yC.s2 Q f g i a b c d a false))
  (Q 0 30)
def yC (f:Pt) (Q:Int→Int→K): K :=
 Nn f fun a=>
 Ld a Sl.val fun b=>
 yM (α:=Int×Int) (fun X x=>yC.b1 Q (fun c d=>X (c,d)) a b (b.n:Int) x.1 x.2) (0,0)
theorem zE5 (p Q w) (h:yC p Q w):yC.call p Q w:=by
 have:∀ c,XH 2 c→JH 9 fun D=>∃ d f g,D [(0,(.pointer (some d))),(2,.int .u64 f),(4,.int .i64 g)] (fun C=>∀ q,C [(0,(.pointer (some d))),(2,.int .u64 f),(4,.int .i64 g),(37,.bool q)] (yC.s3 Q (fun a b=>c (a,b)) d f g q)):=by intros; exact ⟨fun _ ⟨_,_,_,h⟩=>⟨_,_,h⟩⟩
 have:∀ c,XH 2 c→JH 5 fun D=>∃ i j k l m n o,D [(0,(.pointer (some i))),(2,.int .u64 j),(4,.int .i64 k),(5,.int .u8 l),(9,Sl.val m),(10,.int .i64 n),(11,.int .i64 o)] (fun C=>∀ r,C [(0,(.pointer (some i))),(2,.int .u64 j),(4,.int .i64 k),(5,.int .u8 l),(9,Sl.val m),(10,.int .i64 n),(11,.int .i64 o),(21,.bool r)] (yC.s2 Q (fun a b=>c (a,b)) i j k l m n o r)):=by intros; exact ⟨fun _ ⟨_,_,_,_,_,_,_,h⟩=>⟨_,_,h⟩⟩
 have:∀ s t u,LH 2 (fun x:Int×Int=>[(0,(.pointer (some s))),(2,.int .u64 x.1),(9,Sl.val t),(10,.int .i64 u),(11,.int .i64 x.2)]) (fun X x=>yC.b1 Q (fun a b=>X (a,b)) s t u x.1 x.2):=fun _ _ _=>⟨⟩
 exact zS 50 h Tryz.func58
def jf (k:Pt) (Q:Int→Int→K): K :=
 Nn k fun a=>
 Ld a Sl.val fun d=>
 Ite (decide ((d.n:Int) = 0))
  (Q 0 30)
  (Ld a Sl.val fun f=>
  Idx f 0 1 fun g=>
  Ld g (Value.int .u8) fun i=>
  Ld a Sl.val fun b=>
  Slc b 1 (b.n:Int) (b.c:Int) 1 fun j=>
  St a (Sl.val j)<|
  Q i 0)
theorem zEM (a Q w) (h:jf a Q w):jf.call a Q w:=by
 exact zS 26 h Tryz.func59
def zAb (c:Pt) (Q:Int→K): K :=
 Nn c fun a=>
 Ld a Sl.val fun b=>
 Ite (decide ((0:Int) < (b.n:Int)))
  (Q 32)
  (Q 0)
theorem zJb (a Q w) (h:zAb a Q w):zAb.call a Q w:=by
 exact zS 9 h Tryz.func60
def zBB (b:Pt) (c:Sl) (Q:K): K :=
 Ar (IntKind.wrap .u64 (c.n:Int)) fun d=>
 xJ.call b d<|
 Nn b fun a=>
 Ld a Sl.val fun f=>
 Do Tryz.prog (Builtin.append_ #[22,22] 22 #[Sl.val f,Sl.val c]) Sl.val fun g=>
 St a (Sl.val g)<|
 Q
theorem zIe (a b Q w) (h:zBB a b Q w):zBB.call a b Q w:=by
 exact zS 18 h Tryz.func92
def zAz (a:Sl) (Q:Sl→Int→K): K :=
 Ite (decide ((4096:Int) < (a.n:Int)))
  (Q (Sl.mk none 0 0) 1)
  (zB0.call a fun b=>
  Cd (0 ≤ (8:Int))<|
  Ar (zBc .i64 (a.n:Int) 8) fun c=>
  Ar (IntKind.wrap .u8 c) fun d=>
  Ar (IntKind.wrap .u8 (a.n:Int)) fun f=>
  Ar (IntKind.wrap .u8 b) fun g=>
  Cd (0 ≤ (8:Int))<|
  Ar (zBc .u32 b 8) fun i=>
  Ar (IntKind.wrap .u8 i) fun j=>
  Cd (0 ≤ (16:Int))<|
  Ar (zBc .u32 b 16) fun k=>
  Ar (IntKind.wrap .u8 k) fun l=>
  Cd (0 ≤ (24:Int))<|
  Ar (zBc .u32 b 24) fun m=>
  Ar (IntKind.wrap .u8 m) fun o=>
  New 5 #[.int .u8 d,.int .u8 f,.int .u8 g,.int .u8 j,.int .u8 l,.int .u8 o] fun p=>
  Do Tryz.prog (Builtin.append_ #[22,22] 22 #[(Sl.val (Sl.mk (some p) 6 6)),Sl.val a]) Sl.val fun q=>
  Q q 0)
theorem zLk (a Q w) (h:zAz a Q w):zAz.call a Q w:=by
 exact zS 33 h Tryz.func98
def qp.s1 (Q:Sl→Int→K) (a:Addr) (l:Sl) (f g:Int): K :=
 Ite (decide (g ≠ 0))
  (St a (Sl.val l)<|
  Q (Sl.mk none 0 0) g)
  (Ld a Sl.val fun d=>
  Slc d 0 f (d.c:Int) 1 fun i=>
  yw.call i fun j=>
  Ld a Sl.val fun b=>
  Slc b f (b.n:Int) (b.c:Int) 1 fun k=>
  St a (Sl.val k)<|
  Q j 0)
def qp.s2 (Q:Sl→Int→K) (a:Addr) (b:Sl) (c d:Int) (f:Bool): K :=
 Ite f
  (qp.s1 Q a b c 30)
  (qp.s1 Q a b c d)
def qp (i:Pt) (Q:Sl→Int→K): K :=
 Nn i fun a=>
 Ld a Sl.val fun d=>
 yC.call (some a) fun b c=>
 Ite (decide (c = 0))
  (Ld a Sl.val fun f=>
  Ar (IntKind.wrap .u64 (f.n:Int)) fun g=>
  qp.s2 Q a d b c (decide (g < b)))
  (qp.s2 Q a d b c false)
theorem zIf (j Q w) (h:qp j Q w):qp.call j Q w:=by
 have:JH 5 fun D=>∃ a b c,D [(0,(.pointer (some a))),(4,Sl.val b),(5,.int .u64 c)] (fun C=>∀ k,C [(0,(.pointer (some a))),(4,Sl.val b),(5,.int .u64 c),(6,.int .i64 k)] (qp.s1 Q a b c k)):=⟨fun _ ⟨_,_,_,h⟩=>⟨_,_,h⟩⟩
 have:JH 4 fun D=>∃ d f g i,D [(0,(.pointer (some d))),(4,Sl.val f),(5,.int .u64 g),(6,.int .i64 i)] (fun C=>∀ l,C [(0,(.pointer (some d))),(4,Sl.val f),(5,.int .u64 g),(6,.int .i64 i),(28,.bool l)] (qp.s2 Q d f g i l)):=⟨fun _ ⟨_,_,_,_,h⟩=>⟨_,_,h⟩⟩
 exact zS 53 h Tryz.func102
def zAc (a:Sl) (Q:Sl→Int→Int→K): K :=
 Ite (decide ((a.n:Int) < 6))
  (Q (Sl.mk none 0 0) 0 30)
  (Dr<|
  Idx a 0 1 fun f=>
  Ld f (Value.int .u8) fun g=>
  Ar (IntKind.wrap .i64 g) fun i=>
  Cd (0 ≤ (8:Int))<|
  Ar (zFO .i64 i 8) fun j=>
  Idx a 1 1 fun k=>
  Ld k (Value.int .u8) fun l=>
  Ar (IntKind.wrap .i64 l) fun m=>
  Ar (bitsOf .or .i64 j m) fun d=>
  Ite (decide ((4096:Int) < d))
   (Q (Sl.mk none 0 0) 0 31)
   (Ar (IntKind.wrap .i64 ((a.n:Int) - 6)) fun o=>
   Ite (decide (o < d))
    (Q (Sl.mk none 0 0) 0 30)
    (Ar (IntKind.wrap .i64 (6 + d)) fun p=>
    Slc a 6 p (a.c:Int) 1 fun q=>
    zAz.call q fun b v=>
    Ar (IntKind.wrap .i64 (6 + d)) fun r=>
    Slc a 0 r (a.c:Int) 1 fun s=>
    y9.call b s fun t=>
    Ite (!t)
     (Q (Sl.mk none 0 0) 0 33)
     (Slc b 6 (b.n:Int) (b.c:Int) 1 fun u=>
     Q u (b.n:Int) 0))))
theorem zJc (a Q w) (h:zAc a Q w):zAc.call a Q w:=by
 exact zS 49 h Tryz.func106
def zB0 (a:Sl) (Q:Int→K): K :=
 Cd (0 ≤ (8:Int))<|
 Ar (zBc .i64 (a.n:Int) 8) fun b=>
 Ar (IntKind.wrap .u8 b) fun c=>
 Ar (IntKind.wrap .u8 (a.n:Int)) fun d=>
 New 5 #[.int .u8 c,.int .u8 d] fun f=>
 Do Tryz.prog (Builtin.append_ #[22,22] 22 #[(Sl.val (Sl.mk (some f) 2 2)),Sl.val a]) Sl.val fun g=>
 jD.call g fun i=>
 Q i
theorem zKo (a Q w) (h:zB0 a Q w):zB0.call a Q w:=by
 exact zS 14 h Tryz.func120
def jD.s3 (Q:Int→K) (f b:Int→Int→K) (c:Int) (g:Sl) (i j d:Int): K :=
 Ar (IntKind.wrap .i64 (d + 1)) fun a=>
 b c a
def jD.b2 (Q:Int→K) (a g:Int→Int→K) (i:Sl) (j b c d:Int): K :=
 Ite (decide (d < 8))
  (Ar (bitsOf .and .u32 c 1) fun k=>
  Cd (0 ≤ (1:Int))<|
  Ar (zBc .u32 c 1) fun f=>
  Ite (decide (k = 1))
   (Ar (bitsOf .xor .u32 f 2197175160) fun l=>
   jD.s3 Q a g l i j b d)
   (jD.s3 Q a g f i j b d))
  (Ar (IntKind.wrap .i64 (b + 1)) fun m=>
  a c m)
def jD.b1 (Q:Int→K) (n:Int→Int→K) (b:Sl) (c d a:Int): K :=
 Ite (decide (a < c))
  (Idx b a 1 fun f=>
  Ld f (Value.int .u8) fun g=>
  Ar (IntKind.wrap .u32 g) fun i=>
  Ar (bitsOf .xor .u32 d i) fun j=>
  yM (α:=Int×Int) (fun X x=>jD.b2 Q n (fun k l=>X (k,l)) b c a x.1 x.2) (j,0))
  (Ar (bitsOf .xor .u32 (if IntKind.signed .u32 then -1 else IntKind.max .u32) d) fun m=>
  Q m)
def jD (a:Sl) (Q:Int→K): K :=
 yM (α:=Int×Int) (fun X x=>jD.b1 Q (fun b c=>X (b,c)) a (a.n:Int) x.1 x.2) (4294967295,0)
theorem zPE (l Q w) (h:jD l Q w):jD.call l Q w:=by
 have:∀ c,XH 3 c→∀ m,XH 7 m→JH 12 fun D=>∃ g i j k,D [(7,Sl.val g),(8,.int .i64 i),(9,.int .i64 j),(17,.int .i64 k)] (fun C=>∀ n,C [(3,.int .u32 n),(7,Sl.val g),(8,.int .i64 i),(9,.int .i64 j),(17,.int .i64 k)] (jD.s3 Q (fun a b=>c (a,b)) (fun d f=>m (d,f)) n g i j k)):=by intros; exact ⟨fun _ ⟨_,_,_,_,h⟩=>⟨_,_,h⟩⟩
 have:∀ c,XH 3 c→∀ o p q,LH 7 (fun x:Int×Int=>[(3,.int .u32 x.1),(7,Sl.val o),(8,.int .i64 p),(9,.int .i64 q),(17,.int .i64 x.2)]) (fun X x=>jD.b2 Q (fun a b=>c (a,b)) (fun d f=>X (d,f)) o p q x.1 x.2):=by intros; exact ⟨⟩
 have:∀ r s,LH 3 (fun x:Int×Int=>[(3,.int .u32 x.1),(7,Sl.val r),(8,.int .i64 s),(9,.int .i64 x.2)]) (fun X x=>jD.b1 Q (fun a b=>X (a,b)) r s x.1 x.2):=fun _ _=>⟨⟩
 exact zS 31 h Tryz.func131
instance:CB Tryz.prog 103:=⟨by kernel_rfl⟩
instance:CB Tryz.prog 104:=⟨by kernel_rfl⟩
instance:CB Tryz.prog 124:=⟨by kernel_rfl⟩
instance:CB Tryz.prog 125:=⟨by kernel_rfl⟩
instance:CB Tryz.prog 126:=⟨by kernel_rfl⟩
instance:CT Tryz.prog 3:=⟨by kernel_rfl⟩
instance:CT Tryz.prog 71:=⟨by kernel_rfl⟩
instance:INT Tryz.prog 40 .u64:=⟨by kernel_rfl⟩
instance:SLT Tryz.prog 71 9 1:=⟨by kernel_rfl⟩
instance:SZ Tryz.prog 71 1:=⟨by kernel_rfl⟩
instance:UN Tryz.prog 22 (.slice 5):=⟨Tryz.underlying22⟩
instance:ZT Tryz.prog 9 (.string ⟨#[]⟩):=⟨Tryz.t9,by kernel_rfl,by kernel_rfl⟩
def yw (b:Sl) (Q:Sl→K): K :=
 Ite ((b).a.isNone)
  (Q (Sl.mk none 0 0))
  (New 5 #[] fun c=>
  Do Tryz.prog (Builtin.append_ #[22,22] 22 #[(Sl.val (Sl.mk (some c) 0 0)),Sl.val b]) Sl.val fun d=>
  Q d)
theorem zC2 (a Q w) (h:yw a Q w):yw.call a Q w:=by
 exact zS 8 h Tryz.func30
def jB (b:Value) (Q:Sl→K): K :=
 uZ.call b fun a=>
 jE.call a<|
 Q a
theorem zEN (a Q w) (h:jB a Q w):jB.call a Q w:=by
 exact zS 9 h Tryz.func65
def qH.s1 (Q:Value→K) (a b:Addr): K :=
 Q (.func (.func 121) #[] #[(.pointer (some a)),(.pointer (some b))])
def qH (d:Sl) (f:Int) (Q:Value→K): K :=
 New 22 #[Sl.val d] fun b=>
 New 3 #[.int .i64 f] fun a=>
 Ld a (Value.int .i64) fun c=>
 Ite (decide (c < 1))
  (Rd Tryz.prog (Instr.makeInterface 9 (.string ⟨#[99,97,110,110,111,116,32,98,101,32,108,101,115,115,32,116,104,97,110,32,49]⟩)) id fun g=>
  Dead)
  (qH.s1 Q b a)
theorem zC3 (c d Q w) (h:qH c d Q w):qH.call c d Q w:=by
 have:JH 3 fun D=>∃ a b,D [(2,(.pointer (some a))),(3,(.pointer (some b)))] (fun C=>C [(2,(.pointer (some a))),(3,(.pointer (some b)))] (qH.s1 Q a b)):=⟨fun _ ⟨_,_,h⟩=>⟨_,_,h⟩⟩
 exact zS 9 h Tryz.func99
def uZ (b:Value) (Q:Sl→K): K :=
 xV.call (Sl.mk none 0 0) b fun a=>
 Q a
theorem zD4 (a Q w) (h:uZ a Q w):uZ.call a Q w:=by
 exact zS 5 h Tryz.func103
def jE (a:Sl) (Q:K): K :=
 Ar (IntKind.wrap .u64 (a.n:Int)) fun b=>
 zLi.call b fun c=>
 zCr.call a 0 (a.n:Int) c<|
 Q
def y9.b1 (Q:Bool→K) (i:Int→K) (j k:Sl) (l a:Int): K :=
 Ite (decide (a < l))
  (Dr<|
  Idx j a 1 fun b=>
  Ld b (Value.int .u8) fun c=>
  Idx k a 1 fun d=>
  Ld d (Value.int .u8) fun f=>
  Ite (decide (c ≠ f))
   (Q false)
   (Ar (IntKind.wrap .i64 (a + 1)) fun g=>
   i g))
  (Q true)
def y9 (a b:Sl) (Q:Bool→K): K :=
 Ite (decide ((a.n:Int) ≠ (b.n:Int)))
  (Q false)
  (yM (α:=Int) (fun X x=>y9.b1 Q X a b (a.n:Int) x) 0)
theorem zC4 (a b Q w) (h:y9 a b Q w):y9.call a b Q w:=by
 have:∀ c d f,LH 4 (fun x:Int=>[(0,Sl.val c),(1,Sl.val d),(12,.int .i64 f),(13,.int .i64 x)]) (fun X x=>y9.b1 Q X c d f x):=fun _ _ _=>⟨⟩
 exact zS 26 h Tryz.func107
def qj.b1 (Q:K) (t:Int→K) (u:Value) (f k:Addr) (a:Int): K :=
 Ld f Sl.val fun l=>
 Ite (decide (a < (l.n:Int)))
  (Dr<|
  Ld k (Value.int .i64) fun g=>
  Ld f Sl.val fun b=>
  Slc b a (b.n:Int) (b.c:Int) 1 fun i=>
  Ar (if ((i.n:Int):Int) < g then (i.n:Int) else g) fun j=>
  Ld f Sl.val fun m=>
  Ar (IntKind.wrap .i64 (a + j)) fun o=>
  Ar (IntKind.wrap .i64 (a + j)) fun p=>
  Slc m a o p 1 fun q=>
  j6 Tryz.prog u [Sl.val q] <| qD (fun (d:Bool)=>Value.bool d) fun d=>
  Ite (!d)
   (Q)
   (Ld k (Value.int .i64) fun r=>
   Ar (IntKind.wrap .i64 (a + r)) fun s=>
   t s))
  (Q)
def qj (a:Value) (b c:Addr) (Q:K): K :=
 yM (α:=Int) (fun X x=>qj.b1 Q X a b c x) 0
theorem zCi (a b c Q w) (h:qj a b c Q w):qj.call a b c Q w:=by
 have:∀ d f g,LH 1 (fun x:Int=>[(0,d),(1,(.pointer (some f))),(2,(.pointer (some g))),(4,.int .i64 x)]) (fun X x=>qj.b1 Q X d f g x):=fun _ _ _=>⟨⟩
 exact zS 31 h Tryz.func121
def xV (k:Sl) (l:Value) (Q:Sl→K): K :=
 New 71 #[Sl.val k] fun a=>
 zAC Tryz.prog l Value.string (fun b c=>
  Ld a Sl.val fun d=>
  New 9 #[.string c] fun f=>
  Do Tryz.prog (Builtin.append_ #[71,71] 71 #[Sl.val d,(Sl.val (Sl.mk (some f) 1 1))]) Sl.val fun g=>
  St a (Sl.val g)<|
  b)
 fun i=>
 Ld a Sl.val fun j=>
 zAl i<|
 Q j
theorem zBl (a b Q w) (h:xV a b Q w):xV.call a b Q w:=by
 exact zS 13 h Tryz.func124
instance:CB Tryz.prog 106:=⟨by kernel_rfl⟩
instance:CB Tryz.prog 42:=⟨by kernel_rfl⟩
instance:CB Tryz.prog 51:=⟨by kernel_rfl⟩
instance:CB Tryz.prog 52:=⟨by kernel_rfl⟩
instance:CB Tryz.prog 53:=⟨by kernel_rfl⟩
instance:CB Tryz.prog 54:=⟨by kernel_rfl⟩
instance:CB Tryz.prog 55:=⟨by kernel_rfl⟩
instance:CB Tryz.prog 56:=⟨by kernel_rfl⟩
instance:CB Tryz.prog 67:=⟨by kernel_rfl⟩
instance:CB Tryz.prog 99:=⟨by kernel_rfl⟩
instance:PLT Tryz.prog 85 [(0,1)]:=⟨_,Tryz.underlying85,by kernel_rfl⟩
instance:STT Tryz.prog 9:=⟨by kernel_rfl⟩
instance:ZT Tryz.prog 22 (Sl.val ⟨none,0,0⟩):=⟨Tryz.t22,by kernel_rfl,by kernel_rfl⟩
instance:ZT Tryz.prog 85 (.agg #[(Sl.val ⟨none,0,0⟩)]):=⟨Tryz.t85,by kernel_rfl,by kernel_rfl⟩
def vR.s2 (Q:Int→K) (a:Pt) (i:ByteArray) (j:Sl) (b:ByteArray) (k:Int) (l:Bool): K :=
 Ite l
  (Q k)
  (zCV.call j fun f=>
  yK.call a b f fun c=>
  Ite (decide (c ≠ 0))
   (Q c)
   (y8.call a b fun d=>
   Ite (decide (d ≠ 0))
    (Q d)
    (zW.call a b i fun g=>
    Q g)))
def vR.s1 (Q:Int→K) (c:Pt) (d:ByteArray) (f:Sl) (g:Bool): K :=
 Ite g
  (Q 1)
  (Cat d (⟨#[126]⟩:ByteArray) fun b=>
  yY.call c b fun a=>
  Ite (decide (a ≠ 0))
   (vR.s2 Q c d f b a (decide (a ≠ 60)))
   (vR.s2 Q c d f b a false))
def vR (b:Pt) (a:ByteArray) (c:Sl) (Q:Int→K): K :=
 Ite (a.toList == (⟨#[]⟩:ByteArray).toList)
  (vR.s1 Q b a c true)
  (vR.s1 Q b a c (decide ((15:Int) < (a.size:Int))))
theorem zNs (k l m Q w) (h:vR k l m Q w):vR.call k l m Q w:=by
 have:JH 6 fun D=>∃ a b c d f,D [(0,.pointer a),(1,.string b),(2,Sl.val c),(7,.string d),(8,.int .i64 f)] (fun C=>∀ n,C [(0,.pointer a),(1,.string b),(2,Sl.val c),(7,.string d),(8,.int .i64 f),(28,.bool n)] (vR.s2 Q a b c d f n)):=⟨fun _ ⟨_,_,_,_,_,h⟩=>⟨_,_,h⟩⟩
 have:JH 2 fun D=>∃ g i j,D [(0,.pointer g),(1,.string i),(2,Sl.val j)] (fun C=>∀ o,C [(0,.pointer g),(1,.string i),(2,Sl.val j),(17,.bool o)] (vR.s1 Q g i j o)):=⟨fun _ ⟨_,_,_,h⟩=>⟨_,_,h⟩⟩
 exact zS 48 h Tryz.func25
def zBA (f:Pt) (g:ByteArray) (Q:Sl→Int→K): K :=
 jk.call f g fun b a=>
 Ite (decide (a ≠ 0))
  (Q (Sl.mk none 0 0) a)
  (qx.call b fun c d=>
  Q c d)
theorem zNt (a b Q w) (h:zBA a b Q w):zBA.call a b Q w:=by
 exact zS 21 h Tryz.func31
def zCV (c:Sl) (Q:Sl→K): K :=
 New 85 #[Sl.val ⟨none,0,0⟩] fun b=>
 Ar (IntKind.wrap .u64 (c.n:Int)) fun d=>
 xJ.call (some b) d<|
 jI.call (some b) fun f=>
 zAz.call f fun g r=>
 New 22 #[Sl.val ⟨none,0,0⟩] fun a=>
 St a (Sl.val g)<|
 qH.call c 1024 fun i=>
 zAC Tryz.prog i Sl.val (fun j k=>
  zAz.call k fun l s=>
  Ld a Sl.val fun m=>
  Do Tryz.prog (Builtin.append_ #[22,22] 22 #[Sl.val m,Sl.val l]) Sl.val fun o=>
  St a (Sl.val o)<|
  j)
 fun p=>
 Ld a Sl.val fun q=>
 zAl p<|
 Q q
theorem zNu (a Q w) (h:zCV a Q w):zCV.call a Q w:=by
 exact zS 34 h Tryz.func53
def qx.s3 (Q:Sl→Int→K) (c:Int→Int→Sl→K) (a:Sl) (b:Bool): K :=
 Ite b
  (Q (Sl.mk none 0 0) 61)
  (Q a 0)
def qx.s2 (Q:Sl→Int→K) (d:Int→Int→Sl→K) (a:Sl) (f q:Int) (b:Sl) (r:Bool): K :=
 Ite r
  (Slc a f (a.n:Int) (a.c:Int) 1 fun g=>
  zAc.call g fun i j k=>
  Do Tryz.prog (Builtin.append_ #[22,22] 22 #[Sl.val b,Sl.val i]) Sl.val fun l=>
  Ar (IntKind.wrap .i64 (f + j)) fun m=>
  d m k l)
  (Ite (decide (q ≠ 0))
   (qx.s3 Q d b true)
   (zCV.call b fun o=>
   y9.call o a fun p=>
   qx.s3 Q d b (!p)))
def qx.b1 (Q:Sl→Int→K) (d:Int→Int→Sl→K) (a:Sl) (b c:Int) (f:Sl): K :=
 Ite (decide (c = 0))
  (qx.s2 Q d a b c f (decide (b < (a.n:Int))))
  (qx.s2 Q d a b c f false)
def qx (a:Sl) (Q:Sl→Int→K): K :=
 zAc.call a fun j b c=>
 New 5 #[] fun d=>
 yM (α:=Int×Int×Sl) (fun X x=>qx.b1 Q (fun f g i=>X (f,g,i)) a x.1 x.2.1 x.2.2) (b,c,(Sl.mk (some d) 0 0))
theorem zKp (l Q w) (h:qx l Q w):qx.call l Q w:=by
 have:∀ d,XH 3 d→JH 10 fun D=>∃ f,D [(7,Sl.val f)] (fun C=>∀ m,C [(7,Sl.val f),(47,.bool m)] (qx.s3 Q (fun a b c=>d (a,b,c)) f m)):=by intros; exact ⟨fun _ ⟨_,h⟩=>⟨_,_,h⟩⟩
 have:∀ d,XH 3 d→JH 1000003 fun D=>∃ g i j k,D [(0,Sl.val g),(5,.int .i64 i),(6,.int .i64 j),(7,Sl.val k)] (fun C=>∀ n,C [(0,Sl.val g),(5,.int .i64 i),(6,.int .i64 j),(7,Sl.val k),(24,.bool n)] (qx.s2 Q (fun a b c=>d (a,b,c)) g i j k n)):=by intros; exact ⟨fun _ ⟨_,_,_,_,h⟩=>⟨_,_,h⟩⟩
 have:∀ o,LH 3 (fun x:Int×Int×Sl=>[(0,Sl.val o),(5,.int .i64 x.1),(6,.int .i64 x.2.1),(7,Sl.val x.2.2)]) (fun X x=>qx.b1 Q (fun a b c=>X (a,b,c)) o x.1 x.2.1 x.2.2):=fun _=>⟨⟩
 exact zS 49 h Tryz.func67
instance:CT Tryz.prog 60:=⟨by kernel_rfl⟩
def yV (b:(Option Nat)) (Q:Value→K): K :=
 New 60 #[.map b] fun a=>
 Q (.func (.func 105) #[] #[(.pointer (some a))])
theorem zAS (a Q w) (h:yV a Q w):yV.call a Q w:=by
 exact zS 4 h Tryz.func66
def zx.b1 (Q i:K) (j:Value) (b:Pt): K :=
 Do Tryz.prog (Instr.next (.pointer b) false 0) id fun c=>
 Ext c 0 Value.bool fun d=>
 Ite d
  (Do Tryz.prog (Instr.entry (.pointer b)) id fun f=>
  Ext f 0 Value.string fun g=>
  j6 Tryz.prog j [.string g] <| qD (fun (a:Bool)=>Value.bool a) fun a=>
  Ite (!a)
   (Q)
   (i))
  (Q)
def zx (c:Value) (d:Addr) (Q:K): K :=
 Ld d Value.map fun a=>
 Do Tryz.prog (Instr.range 60 (.map a)) Value.pointer fun b=>
 yM (α:=Unit) (fun X x=>zx.b1 Q (X ()) c b) ()
theorem zAF (a b Q w) (h:zx a b Q w):zx.call a b Q w:=by
 have:∀ c d,LH 1 (fun x:Unit=>[(0,c),(5,.pointer d)]) (fun X x=>zx.b1 Q (X ()) c d):=fun _ _=>⟨⟩
 exact zS 14 h Tryz.func105
instance:CB Tryz.prog 29:=⟨by kernel_rfl⟩
instance:CB Tryz.prog 65:=⟨by kernel_rfl⟩
instance:CB Tryz.prog 66:=⟨by kernel_rfl⟩
instance:CB Tryz.prog 87:=⟨by kernel_rfl⟩
instance:CB Tryz.prog 95:=⟨by kernel_rfl⟩
instance:CB Tryz.prog 96:=⟨by kernel_rfl⟩
instance:CB Tryz.prog 97:=⟨by kernel_rfl⟩
instance:CT Tryz.prog 4:=⟨by kernel_rfl⟩
instance:CT Tryz.prog 9:=⟨by kernel_rfl⟩
instance:FT Tryz.prog 62 0 0 1:=⟨by kernel_rfl⟩
instance:FT Tryz.prog 62 1 1 1:=⟨by kernel_rfl⟩
instance:FT Tryz.prog 62 2 2 1:=⟨by kernel_rfl⟩
instance:FT Tryz.prog 62 3 3 1:=⟨by kernel_rfl⟩
instance:FT Tryz.prog 75 0 0 1:=⟨by kernel_rfl⟩
instance:FT Tryz.prog 75 1 1 1:=⟨by kernel_rfl⟩
instance:PLT Tryz.prog 62 [(0,1),(1,1),(2,1),(3,1)]:=⟨_,Tryz.underlying62,by kernel_rfl⟩
instance:PLT Tryz.prog 75 [(0,1),(1,1)]:=⟨_,Tryz.underlying75,by kernel_rfl⟩
instance:SLT Tryz.prog 32 3 1:=⟨by kernel_rfl⟩
instance:SZ Tryz.prog 3 1:=⟨by kernel_rfl⟩
instance:SZ Tryz.prog 4 1:=⟨by kernel_rfl⟩
instance:ZT Tryz.prog 62 (.agg #[(.int .i64 0),(.map none),(.int .i64 0),(.bool false)]):=⟨Tryz.t62,by kernel_rfl,by kernel_rfl⟩
instance:ZT Tryz.prog 75 (.agg #[(Sl.val ⟨none,0,0⟩),(.int .i64 0)]):=⟨Tryz.t75,by kernel_rfl,by kernel_rfl⟩
def zAM.s1 (Q:Pt→Int→K) (c:Int) (d:Bool): K :=
 Ite d
  (Q none 1)
  (Do Tryz.prog (Instr.makeMap 60 none) Value.map fun a=>
  New 62 #[.int .i64 c,.map a,(.int .i64 (-1)),.bool false] fun b=>
  Q (some b) 0)
def zAM (a:Int) (Q:Pt→Int→K): K :=
 Ite (decide (a < 1))
  (zAM.s1 Q a true)
  (zAM.s1 Q a (decide ((1048576:Int) < a)))
theorem zPF (b Q w) (h:zAM b Q w):zAM.call b Q w:=by
 have:JH 2 fun D=>∃ a,D [(0,.int .i64 a)] (fun C=>∀ c,C [(0,.int .i64 a),(9,.bool c)] (zAM.s1 Q a c)):=⟨fun _ ⟨_,h⟩=>⟨_,_,h⟩⟩
 exact zS 14 h Tryz.func7
def jP (d:Pt) (a:Int) (Q:K): K :=
 Ar (if ((-1):Int) > a then (-1) else a) fun b=>
 Nn d fun c=>
 St (c.add 2) (.int .i64 b)<|
 Q
theorem zGx (a b Q w) (h:jP a b Q w):jP.call a b Q w:=by
 exact zS 9 h Tryz.func11
def qF.s2 (Q:Pt→K) (m:Int→K) (s:Addr) (t:Sl) (n:Addr) (o:ByteArray) (p:Pt) (q:Int) (u:Sl) (v r:Int): K :=
 Nn p fun a=>
 Ld (a.add 1) (Value.int .i64) fun f=>
 Ar (IntKind.wrap .i64 (f + q)) fun b=>
 Dr <| xW fun S=>
 LdS S (n.add 1) Value.map fun g=>
 LdS S a Sl.val fun d=>
 Slc d 0 b (d.c:Int) 1 fun i=>
 yw.call i fun j=>
 Sv S<|
 New 75 #[Sl.val j,.int .i64 b] fun k=>
 Sv S<|
 DoU Tryz.prog (Instr.mapUpdate 60 (.map g) (.string o) (.pointer (some k)))<|
 Ar (IntKind.wrap .i64 (r + 1)) fun l=>
 m l
def qF.b1 (Q:Pt→K) (m:Int→K) (g:Addr) (c:Sl) (i:Addr) (j:Sl) (k a:Int): K :=
 Ite (decide (a < k))
  (Idx j a 1 fun o=>
  Ld o Value.string fun d=>
  Ld (g.add 1) Value.map fun p=>
  Rd Tryz.prog (Instr.lookup 60 (.map p) (.string d) false) Value.pointer fun l=>
  Ite (decide (a < (c.n:Int)))
   (Dr<|
   Nn l fun f=>
   Ld f Sl.val fun q=>
   Ld (f.add 1) (Value.int .i64) fun r=>
   Ar (IntKind.wrap .i64 ((q.n:Int) - r)) fun s=>
   Ar (IntKind.wrap .i64 (s + 1)) fun b=>
   Idx c a 1 fun t=>
   Ld t (Value.int .i64) fun u=>
   Cd (b ≠ 0)<|
   Ar (Int.tmod u b) fun v=>
   Ar (IntKind.wrap .i64 (v + b)) fun x=>
   Cd (b ≠ 0)<|
   Ar (Int.tmod x b) fun y=>
   qF.s2 Q m g c i d (some f) y j k a)
   (qF.s2 Q m g c i d l 0 j k a))
  (Q (some i))
def qF (g:Pt) (i:Sl) (Q:Pt→K): K :=
 Nn g fun a=>
 Ld a (Value.int .i64) fun c=>
 Do Tryz.prog (Instr.makeMap 60 none) Value.map fun d=>
 New 62 #[.int .i64 c,.map d,(.int .i64 (-1)),.bool false] fun f=>
 j4.call (some a) fun b=>
 yM (α:=Int) (fun X x=>qF.b1 Q X a i f b (b.n:Int) x) 0
theorem zGy (l m Q w) (h:qF l m Q w):qF.call l m Q w:=by
 have:DH 10 2 [15] (.s [0,1,2,4,5,6,7,9,12,3,8,10] (.a [(11,1,.s [13] (.a [(14,1,.a [(15,0,.e)])]))])):=⟨⟩
 have:∀ n,XH 3 n→JH 9 fun D=>∃ b c d f g i j k,D [(0,(.pointer (some b))),(1,Sl.val c),(5,(.pointer (some d))),(7,.string f),(8,.pointer g),(20,Sl.val i),(21,.int .i64 j),(22,.int .i64 k)] (fun C=>∀ o,C [(0,(.pointer (some b))),(1,Sl.val c),(5,(.pointer (some d))),(7,.string f),(8,.pointer g),(9,.int .i64 o),(20,Sl.val i),(21,.int .i64 j),(22,.int .i64 k)] (qF.s2 Q n b c d f g o i j k)):=by intros; exact ⟨fun _ ⟨_,_,_,_,_,_,_,_,h⟩=>⟨_,_,h⟩⟩
 have:∀ p q r t u,LH 3 (fun x:Int=>[(0,(.pointer (some p))),(1,Sl.val q),(5,(.pointer (some r))),(20,Sl.val t),(21,.int .i64 u),(22,.int .i64 x)]) (fun X x=>qF.b1 Q X p q r t u x):=fun _ _ _ _ _=>⟨⟩
 exact zS 81 h Tryz.func12
def j4 (f:Pt) (Q:Sl→K): K :=
 Nn f fun a=>
 Ld (a.add 1) Value.map fun b=>
 yV.call b fun c=>
 jB.call c fun d=>
 Q d
theorem zGz (a Q w) (h:j4 a Q w):j4.call a Q w:=by
 exact zS 9 h Tryz.func29
def jk (g:Pt) (i:ByteArray) (Q:Sl→Int→K): K :=
 ug.call g i fun b a=>
 Ite (decide (a ≠ 0))
  (Q (Sl.mk none 0 0) a)
  (Nn b fun c=>
  Ld c Sl.val fun d=>
  yw.call d fun f=>
  Q f 0)
theorem zHl (a b Q w) (h:jk a b Q w):jk.call a b Q w:=by
 exact zS 22 h Tryz.func42
def yY.s2 (Q:Int→K) (a:Int): K :=
 Q a
def yY.s1 (Q:Int→K) (d:Pt) (f:ByteArray) (a:Int): K :=
 Ite (decide (a = 0))
  (Nn d fun b=>
  Ld (b.add 1) Value.map fun c=>
  Do Tryz.prog (Builtin.delete_ #[60,9] 0 #[.map c,.string f]) id fun _=>
  yY.s2 Q a)
  (yY.s2 Q a)
def yY (a:Pt) (b:ByteArray) (Q:Int→K): K :=
 ug.call a b fun f c=>
 Ite (decide (c = 0))
  (qL.call a fun d=>
  yY.s1 Q a b d)
  (yY.s1 Q a b c)
theorem zGP (d f Q w) (h:yY d f Q w):yY.call d f Q w:=by
 have:JH 6 fun D=>∃ a,D [(6,.int .i64 a)] (fun C=>C [(6,.int .i64 a)] (yY.s2 Q a)):=⟨fun _ ⟨_,h⟩=>⟨_,_,h⟩⟩
 have:JH 4 fun D=>∃ b c,D [(0,.pointer b),(1,.string c)] (fun C=>∀ g,C [(0,.pointer b),(1,.string c),(6,.int .i64 g)] (yY.s1 Q b c g)):=⟨fun _ ⟨_,_,h⟩=>⟨_,_,h⟩⟩
 exact zS 25 h Tryz.func51
def yK.s1 (Q:Int→K) (f:Addr) (g:Sl) (i:Pt): K :=
 Nn i fun a=>
 Ld a Sl.val fun b=>
 Do Tryz.prog (Builtin.append_ #[22,22] 22 #[Sl.val b,Sl.val g]) Sl.val fun c=>
 St a (Sl.val c)<|
 qL.call (some f) fun d=>
 Q d
def yK.s2 (Q:Int→K) (a:Addr) (f:ByteArray) (c:Sl) (g:Pt) (i j:Bool): K :=
 Ite j
  (Q 2)
  (Ite (!i)
   (New 75 #[Sl.val ⟨none,0,0⟩,.int .i64 0] fun b=>
   Ld (a.add 1) Value.map fun d=>
   DoU Tryz.prog (Instr.mapUpdate 60 (.map d) (.string f) (.pointer (some b)))<|
   yK.s1 Q a c (some b))
   (yK.s1 Q a c g))
def yK.s3 (Q:Int→K) (a:Addr) (c:ByteArray) (b:Sl) (d:Pt) (f g:Bool): K :=
 Ite g
  (yK.s2 Q a c b d f g)
  (Dr <| xW fun S=>
  LdS S a (Value.int .i64) fun i=>
  uh.call (some a) fun j=>
  Sv S<|
  Ar (IntKind.wrap .i64 (i - j)) fun k=>
  yK.s2 Q a c b d f (decide (k < (b.n:Int))))
def yK (m:Pt) (b:ByteArray) (f:Sl) (Q:Int→K): K :=
 Nn m fun a=>
 Ld (a.add 1) Value.map fun g=>
 Rd2 Tryz.prog (Instr.lookup 60 (.map g) (.string b) true) (fun x y=>.tuple #[Value.pointer x,.bool y]) fun d c=>
 Ld (a.add 3) Value.bool fun i=>
 Ite i
  (Q 3)
  (jY.call b fun j=>
  Ite (!j)
   (Q 1)
   (Ite (!c)
    (Ld (a.add 1) Value.map fun k=>
    Rd Tryz.prog (Builtin.len_ #[60] 3 #[.map k]) (Value.int .i64) fun l=>
    yK.s3 Q a b f d c (decide ((32:Int) ≤ l)))
    (yK.s3 Q a b f d c false)))
theorem zGQ (n o p Q w) (h:yK n o p Q w):yK.call n o p Q w:=by
 have:JH 12 fun D=>∃ b c,D [(0,(.pointer (some b))),(2,Sl.val c)] (fun C=>∀ q,C [(0,(.pointer (some b))),(2,Sl.val c),(7,.pointer q)] (yK.s1 Q b c q)):=⟨fun _ ⟨_,_,h⟩=>⟨_,_,h⟩⟩
 have:JH 8 fun D=>∃ d f g i,D [(0,(.pointer (some d))),(1,.string f),(2,Sl.val g),(7,.pointer i)] (fun C=>∀ r t,C [(0,(.pointer (some d))),(1,.string f),(2,Sl.val g),(7,.pointer i),(8,.bool r),(27,.bool t)] (yK.s2 Q d f g i r t)):=⟨fun _ ⟨_,_,_,_,h⟩=>⟨_,_,h⟩⟩
 have:DH 7 2 [] (.s [0,1,2,3,4,6,5] (.a [(7,1,.s [8,9,10] .e)])):=⟨⟩
 have:JH 7 fun D=>∃ j k l m,D [(0,(.pointer (some j))),(1,.string k),(2,Sl.val l),(7,.pointer m)] (fun C=>∀ u v,C [(0,(.pointer (some j))),(1,.string k),(2,Sl.val l),(7,.pointer m),(8,.bool u),(27,.bool v)] (yK.s3 Q j k l m u v)):=⟨fun _ ⟨_,_,_,_,h⟩=>⟨_,_,h⟩⟩
 exact zS 70 h Tryz.func52
def y8.s2 (Q:Int→K) (a:Int): K :=
 Q a
def y8.s1 (Q:Int→K) (d:Pt) (a:Int): K :=
 Ite (decide (a = 0))
  (Nn d fun b=>
  Ld b Sl.val fun c=>
  St (b.add 1) (.int .i64 (c.n:Int))<|
  y8.s2 Q a)
  (y8.s2 Q a)
def y8 (c:Pt) (f:ByteArray) (Q:Int→K): K :=
 ug.call c f fun a b=>
 Ite (decide (b = 0))
  (qL.call c fun d=>
  y8.s1 Q a d)
  (y8.s1 Q a b)
theorem zHm (c d Q w) (h:y8 c d Q w):y8.call c d Q w:=by
 have:JH 6 fun D=>∃ a,D [(6,.int .i64 a)] (fun C=>C [(6,.int .i64 a)] (y8.s2 Q a)):=⟨fun _ ⟨_,h⟩=>⟨_,_,h⟩⟩
 have:JH 4 fun D=>∃ b,D [(5,.pointer b)] (fun C=>∀ f,C [(5,.pointer b),(6,.int .i64 f)] (y8.s1 Q b f)):=⟨fun _ ⟨_,h⟩=>⟨_,_,h⟩⟩
 exact zS 28 h Tryz.func54
def zW.s3 (Q:Int→K) (a:Int): K :=
 Q a
def zW.s2 (Q:Int→K) (f:Pt) (g i:ByteArray) (j:Pt) (a:Int): K :=
 Ite (decide (a = 0))
  (Nn f fun b=>
  Ld (b.add 1) Value.map fun c=>
  Do Tryz.prog (Builtin.delete_ #[60,9] 0 #[.map c,.string g]) id fun _=>
  Ld (b.add 1) Value.map fun d=>
  DoU Tryz.prog (Instr.mapUpdate 60 (.map d) (.string i) (.pointer j))<|
  zW.s3 Q a)
  (zW.s3 Q a)
def zW.s1 (Q:Int→K) (a:Pt) (b c:ByteArray) (d:Pt) (f:Int): K :=
 Ite (decide (f = 0))
  (qL.call a fun g=>
  zW.s2 Q a b c d g)
  (zW.s2 Q a b c d f)
def zW.s4 (Q:Int→K) (a:Pt) (b c:ByteArray) (d:Pt) (f:Int) (g:Bool): K :=
 Ite g
  (zW.s1 Q a b c d 1)
  (zW.s1 Q a b c d f)
def zW (b:Pt) (c d:ByteArray) (Q:Int→K): K :=
 ug.call b c fun f a=>
 Ite (decide (a = 0))
  (jY.call d fun g=>
  zW.s4 Q b c d f a (!g))
  (zW.s4 Q b c d f a false)
theorem zGR (q r s Q w) (h:zW q r s Q w):zW.call q r s Q w:=by
 have:JH 9 fun D=>∃ a,D [(8,.int .i64 a)] (fun C=>C [(8,.int .i64 a)] (zW.s3 Q a)):=⟨fun _ ⟨_,h⟩=>⟨_,_,h⟩⟩
 have:JH 6 fun D=>∃ b c d f,D [(0,.pointer b),(1,.string c),(2,.string d),(7,.pointer f)] (fun C=>∀ t,C [(0,.pointer b),(1,.string c),(2,.string d),(7,.pointer f),(8,.int .i64 t)] (zW.s2 Q b c d f t)):=⟨fun _ ⟨_,_,_,_,h⟩=>⟨_,_,h⟩⟩
 have:JH 4 fun D=>∃ g i j k,D [(0,.pointer g),(1,.string i),(2,.string j),(7,.pointer k)] (fun C=>∀ u,C [(0,.pointer g),(1,.string i),(2,.string j),(7,.pointer k),(8,.int .i64 u)] (zW.s1 Q g i j k u)):=⟨fun _ ⟨_,_,_,_,h⟩=>⟨_,_,h⟩⟩
 have:JH 3 fun D=>∃ l m n o p,D [(0,.pointer l),(1,.string m),(2,.string n),(7,.pointer o),(8,.int .i64 p)] (fun C=>∀ v,C [(0,.pointer l),(1,.string m),(2,.string n),(7,.pointer o),(8,.int .i64 p),(21,.bool v)] (zW.s4 Q l m n o p v)):=⟨fun _ ⟨_,_,_,_,_,h⟩=>⟨_,_,h⟩⟩
 exact zS 40 h Tryz.func55
def ug (g:Pt) (i:ByteArray) (Q:Pt→Int→K): K :=
 Nn g fun a=>
 Ld (a.add 1) Value.map fun b=>
 Rd2 Tryz.prog (Instr.lookup 60 (.map b) (.string i) true) (fun x y=>.tuple #[Value.pointer x,.bool y]) fun c d=>
 Ld (a.add 3) Value.bool fun f=>
 Ite f
  (Q none 3)
  (Ite (!d)
   (Q none 60)
   (Q c 0))
theorem zHn (a b Q w) (h:ug a b Q w):ug.call a b Q w:=by
 exact zS 26 h Tryz.func87
def qL.s1 (Q:Int→K): K :=
 Q 0
def qL (g:Pt) (Q:Int→K): K :=
 Nn g fun a=>
 Ld (a.add 2) (Value.int .i64) fun b=>
 Ite (decide (b = 0))
  (St (a.add 3) (.bool true)<|
  Q 3)
  (Ld (a.add 2) (Value.int .i64) fun c=>
  Ite (decide ((0:Int) < c))
   (Ld (a.add 2) (Value.int .i64) fun d=>
   Ar (IntKind.wrap .i64 (d - 1)) fun f=>
   St (a.add 2) (.int .i64 f)<|
   qL.s1 Q)
   (qL.s1 Q))
theorem zGS (a Q w) (h:qL a Q w):qL.call a Q w:=by
 have:JH 6 fun D=>D [] (fun C=>C [] (qL.s1 Q)):=⟨fun _ h=>⟨_,_,h⟩⟩
 exact zS 23 h Tryz.func95
def jY.s1 (Q:Bool→K) (a:Bool): K :=
 Q a
def jY (a:ByteArray) (Q:Bool→K): K :=
 Ite (!(a.toList == (⟨#[]⟩:ByteArray).toList))
  (jY.s1 Q (decide ((a.size:Int) ≤ 16)))
  (jY.s1 Q false)
theorem zLl (a Q w) (h:jY a Q w):jY.call a Q w:=by
 have:JH 1000001 fun D=>D [] (fun C=>∀ b,C [(2,.bool b)] (jY.s1 Q b)):=⟨fun _ h=>⟨_,_,h⟩⟩
 exact zS 10 h Tryz.func96
def uh.b1 (Q l:Int→K) (a:Pt) (b:Int): K :=
 Do Tryz.prog (Instr.next (.pointer a) false 0) id fun c=>
 Ext c 0 Value.bool fun d=>
 Ite d
  (Do Tryz.prog (Instr.entry (.pointer a)) id fun f=>
  Ext f 1 Value.pointer fun g=>
  Nn g fun i=>
  Ld i Sl.val fun j=>
  Ar (IntKind.wrap .i64 (b + (j.n:Int))) fun k=>
  l k)
  (Q b)
def uh (d:Pt) (Q:Int→K): K :=
 Nn d fun a=>
 Ld (a.add 1) Value.map fun b=>
 Do Tryz.prog (Instr.range 60 (.map b)) Value.pointer fun c=>
 yM (α:=Int) (fun X x=>uh.b1 Q X c x) 0
theorem zHo (a Q w) (h:uh a Q w):uh.call a Q w:=by
 have:∀ b,LH 2 (fun x:Int=>[(2,.int .i64 x),(9,.pointer b)]) (fun X x=>uh.b1 Q X b x):=fun _=>⟨⟩
 exact zS 22 h Tryz.func97
def zh.s3 (Q:Int→K) (a:Int): K :=
 Q a
def zh.s2 (Q:Int→K) (b:Int) (j:Pt) (c:Int): K :=
 Ite (decide (c = 0))
  (Dr<|
  Nn j fun a=>
  Ld a Sl.val fun f=>
  Slc f 0 b b 1 fun g=>
  Ld (a.add 1) (Value.int .i64) fun d=>
  Ar (if (b:Int) < d then b else d) fun i=>
  St a (Sl.val g)<|
  St (a.add 1) (.int .i64 i)<|
  zh.s3 Q c)
  (zh.s3 Q c)
def zh.s1 (Q:Int→K) (f:Pt) (a:Int) (b:Pt) (c:Int): K :=
 Ite (decide (c = 0))
  (qL.call f fun d=>
  zh.s2 Q a b d)
  (zh.s2 Q a b c)
def zh.s4 (Q:Int→K) (a:Pt) (b:Int) (c:Pt) (d:Int) (f:Bool): K :=
 Ite f
  (zh.s1 Q a b c 1)
  (zh.s1 Q a b c d)
def zh (c:Pt) (i:ByteArray) (a:Int) (Q:Int→K): K :=
 ug.call c i fun d b=>
 Ite (decide (b = 0))
  (Ite (decide (a < 0))
   (zh.s4 Q c a d b true)
   (Nn d fun f=>
   Ld f Sl.val fun g=>
   zh.s4 Q c a (some f) b (decide ((g.n:Int) < a))))
  (zh.s4 Q c a d b false)
theorem zIg (n o p Q w) (h:zh n o p Q w):zh.call n o p Q w:=by
 have:JH 8 fun D=>∃ b,D [(8,.int .i64 b)] (fun C=>C [(8,.int .i64 b)] (zh.s3 Q b)):=⟨fun _ ⟨_,h⟩=>⟨_,_,h⟩⟩
 have:DH 7 1 [17,20] (.s [0,1,2,3,4,6,7,9,10,11,13,5,8,12,14,15,16] (.a [(17,0,.s [18,19] (.a [(20,0,.e)]))])):=⟨⟩
 have:JH 6 fun D=>∃ c d,D [(2,.int .i64 c),(7,.pointer d)] (fun C=>∀ q,C [(2,.int .i64 c),(7,.pointer d),(8,.int .i64 q)] (zh.s2 Q c d q)):=⟨fun _ ⟨_,_,h⟩=>⟨_,_,h⟩⟩
 have:JH 4 fun D=>∃ f g i,D [(0,.pointer f),(2,.int .i64 g),(7,.pointer i)] (fun C=>∀ r,C [(0,.pointer f),(2,.int .i64 g),(7,.pointer i),(8,.int .i64 r)] (zh.s1 Q f g i r)):=⟨fun _ ⟨_,_,_,h⟩=>⟨_,_,h⟩⟩
 have:JH 3 fun D=>∃ j k l m,D [(0,.pointer j),(2,.int .i64 k),(7,.pointer l),(8,.int .i64 m)] (fun C=>∀ t,C [(0,.pointer j),(2,.int .i64 k),(7,.pointer l),(8,.int .i64 m),(29,.bool t)] (zh.s4 Q j k l m t)):=⟨fun _ ⟨_,_,_,_,h⟩=>⟨_,_,h⟩⟩
 exact zS 56 h Tryz.func123
instance:CB Tryz.prog 100:=⟨by kernel_rfl⟩
instance:CB Tryz.prog 108:=⟨by kernel_rfl⟩
instance:CB Tryz.prog 122:=⟨by kernel_rfl⟩
instance:CB Tryz.prog 123:=⟨by kernel_rfl⟩
instance:CB Tryz.prog 69:=⟨by kernel_rfl⟩
instance:CT Tryz.prog 111:=⟨by kernel_rfl⟩
instance:CT Tryz.prog 24:=⟨by kernel_rfl⟩
instance:FT Tryz.prog 195 0 0 1:=⟨by kernel_rfl⟩
instance:FT Tryz.prog 195 1 1 1:=⟨by kernel_rfl⟩
instance:FT Tryz.prog 195 2 2 1:=⟨by kernel_rfl⟩
instance:FT Tryz.prog 195 3 3 1:=⟨by kernel_rfl⟩
instance:FT Tryz.prog 195 4 4 1:=⟨by kernel_rfl⟩
instance:FT Tryz.prog 195 5 5 1:=⟨by kernel_rfl⟩
instance:FT Tryz.prog 195 6 6 1:=⟨by kernel_rfl⟩
instance:INT Tryz.prog 21 .i32:=⟨by kernel_rfl⟩
instance:PLT Tryz.prog 195 [(0,1),(1,1),(2,1),(3,1),(4,1),(5,1),(6,1)]:=⟨_,Tryz.underlying195,by kernel_rfl⟩
instance:SLT Tryz.prog 111 22 1:=⟨by kernel_rfl⟩
instance:SZ Tryz.prog 111 1:=⟨by kernel_rfl⟩
instance:ZT Tryz.prog 195 (.agg #[(.pointer none),(.string ⟨#[]⟩),(.int .i64 0),(.int .i64 0),(.int .i64 0),(.bool false),(Sl.val ⟨none,0,0⟩)]):=⟨Tryz.t195,by kernel_rfl,by kernel_rfl⟩
def zAN.s1 (Q:Pt→Int→K) (c:Pt) (d:ByteArray) (f:Int) (g:Bool): K :=
 Ite g
  (Q none 1)
  (New 195 #[.pointer c,.string d,.int .i64 f,.int .i64 0,.int .i64 0,.bool false,Sl.val ⟨none,0,0⟩] fun a=>
  yD.call (some a) fun b=>
  Ite (decide (b ≠ 0))
   (Q none b)
   (Q (some a) 0))
def zAN (c:Pt) (a:ByteArray) (b:Int) (Q:Pt→Int→K): K :=
 Ite (a.toList == (⟨#[]⟩:ByteArray).toList)
  (zAN.s1 Q c a b true)
  (Ite (decide ((8:Int) < (a.size:Int)))
   (zAN.s1 Q c a b true)
   (Ite (decide (b < 16))
    (zAN.s1 Q c a b true)
    (zAN.s1 Q c a b (decide ((65536:Int) < b)))))
theorem zPG (d f g Q w) (h:zAN d f g Q w):zAN.call d f g Q w:=by
 have:JH 2 fun D=>∃ a b c,D [(0,.pointer a),(1,.string b),(2,.int .i64 c)] (fun C=>∀ i,C [(0,.pointer a),(1,.string b),(2,.int .i64 c),(24,.bool i)] (zAN.s1 Q a b c i)):=⟨fun _ ⟨_,_,_,h⟩=>⟨_,_,h⟩⟩
 exact zS 36 h Tryz.func61
def uE.b1 (Q:Sl→K) (k:Sl→Int→K) (l:Sl) (m:Int) (b:Sl) (a:Int): K :=
 Ite (decide (a < m))
  (Idx l a 1 fun c=>
  Ld c Sl.val fun d=>
  yw.call d fun f=>
  New 22 #[Sl.val f] fun g=>
  Do Tryz.prog (Builtin.append_ #[111,111] 111 #[Sl.val b,(Sl.val (Sl.mk (some g) 1 1))]) Sl.val fun i=>
  Ar (IntKind.wrap .i64 (a + 1)) fun j=>
  k i j)
  (Q b)
def uE (f:Pt) (Q:Sl→K): K :=
 Nn f fun b=>
 Ld (b.add 6) Sl.val fun a=>
 yM (α:=Sl×Int) (fun X x=>uE.b1 Q (fun c d=>X (c,d)) a (a.n:Int) x.1 x.2) ((Sl.mk none 0 0),0)
theorem zG0 (a Q w) (h:uE a Q w):uE.call a Q w:=by
 have:∀ b c,LH 2 (fun x:Sl×Int=>[(2,Sl.val x.1),(8,Sl.val b),(9,.int .i64 c),(10,.int .i64 x.2)]) (fun X x=>uE.b1 Q (fun d f=>X (d,f)) b c x.1 x.2):=fun _ _=>⟨⟩
 exact zS 21 h Tryz.func63
def qJ.s1 (Q:Int→K) (a:Addr) (o c:Sl) (d p:Int): K :=
 Dr <| xW fun S=>
 LdS S a Value.pointer fun f=>
 jg.call (some a) d fun g=>
 Sv S<|
 yK.call f g c fun b=>
 Ite (decide (b ≠ 0))
  (Q b)
  (Ar (IntKind.wrap .i64 (p + (c.n:Int))) fun i=>
  St (a.add 3) (.int .i64 d)<|
  St (a.add 4) (.int .i64 i)<|
  St (a.add 5) (.bool true)<|
  Dr <| xW fun S=>
  LdS S (a.add 6) Sl.val fun j=>
  yw.call o fun k=>
  Sv S<|
  New 22 #[Sl.val k] fun l=>
  Sv S<|
  Do Tryz.prog (Builtin.append_ #[111,111] 111 #[Sl.val j,(Sl.val (Sl.mk (some l) 1 1))]) Sl.val fun m=>
  St (a.add 6) (Sl.val m)<|
  Q 0)
def qJ.s2 (Q:Int→K) (a:Addr) (d f:Sl) (g i:Int) (j:Bool): K :=
 Ite j
  (Ar (IntKind.wrap .i64 (g + 1)) fun b=>
  Ite (decide (b = 10))
   (Q 2)
   (zAy.call (some a) fun c=>
   Ite (decide (c ≠ 0))
    (Q c)
    (qJ.s1 Q a d f b 0)))
  (qJ.s1 Q a d f g i)
def qJ (k:Pt) (d:Sl) (Q:Int→K): K :=
 zAz.call d fun c f=>
 Ite (decide (f ≠ 0))
  (Q f)
  (Dr<|
  Nn k fun a=>
  Ld (a.add 3) (Value.int .i64) fun g=>
  Ld (a.add 4) (Value.int .i64) fun b=>
  Ite (decide ((0:Int) < b))
   (Ar (IntKind.wrap .i64 (b + (c.n:Int))) fun i=>
   Ld (a.add 2) (Value.int .i64) fun j=>
   qJ.s2 Q a d c g b (decide (j < i)))
   (qJ.s2 Q a d c g b false))
theorem zHp (l m Q w) (h:qJ l m Q w):qJ.call l m Q w:=by
 have:DH 16 2 [8,11] (.s [0,1,2,3,5,4] (.a [(6,1,.a [(7,1,.a [(8,0,.s [9,10] (.a [(11,0,.e)]))])])])):=⟨⟩
 have:DH 12 2 [8] (.s [0,1,2,4,5,7,3] (.a [(6,1,.a [(8,0,.s [9] .e)])])):=⟨⟩
 have:JH 12 fun D=>∃ b c d,D [(0,(.pointer (some b))),(1,Sl.val c),(5,Sl.val d)] (fun C=>∀ n o,C [(0,(.pointer (some b))),(1,Sl.val c),(5,Sl.val d),(7,.int .i64 n),(8,.int .i64 o)] (qJ.s1 Q b c d n o)):=⟨fun _ ⟨_,_,_,h⟩=>⟨_,_,h⟩⟩
 have:JH 6 fun D=>∃ f g i j k,D [(0,(.pointer (some f))),(1,Sl.val g),(5,Sl.val i),(7,.int .i64 j),(8,.int .i64 k)] (fun C=>∀ p,C [(0,(.pointer (some f))),(1,Sl.val g),(5,Sl.val i),(7,.int .i64 j),(8,.int .i64 k),(39,.bool p)] (qJ.s2 Q f g i j k p)):=⟨fun _ ⟨_,_,_,_,_,h⟩=>⟨_,_,h⟩⟩
 exact zS 86 h Tryz.func68
def zAy (i:Pt) (Q:Int→K): K :=
 Nn i fun a=>
 Ld (a.add 5) Value.bool fun c=>
 Ite (!c)
  (Q 0)
  (Dr <| xW fun S=>
  LdS S a Value.pointer fun d=>
  LdS S (a.add 3) (Value.int .i64) fun f=>
  jg.call (some a) f fun g=>
  Sv S<|
  y8.call d g fun b=>
  St (a.add 5) (.bool (decide (b ≠ 0)))<|
  Q b)
theorem zJd (b Q w) (h:zAy b Q w):zAy.call b Q w:=by
 have:DH 3 2 [10] (.s [0,1,2,4,5,6,7,3,8] (.a [(9,1,.a [(10,0,.s [11] .e)])])):=⟨⟩
 exact zS 26 h Tryz.func69
def yD.s3 (Q b:Int→K) (g:Addr) (i c d:Int) (f:Bool): K :=
 Ite f
  (Q d)
  (Ar (IntKind.wrap .i64 (c - 1)) fun a=>
  b a)
def yD.b2 (Q f:Int→K) (j:Pt) (d c:Int): K :=
 Ite (decide (d ≤ c))
  (Dr <| xW fun S=>
  Nn j fun a=>
  LdS S a Value.pointer fun g=>
  jg.call (some a) c fun i=>
  Sv S<|
  yY.call g i fun b=>
  Ite (decide (b ≠ 0))
   (yD.s3 Q f a d c b (decide (b ≠ 60)))
   (yD.s3 Q f a d c b false))
  (Q 0)
def yD.s1 (Q:Int→K) (a:Pt) (b:Int): K :=
 yM (α:=Int) (fun X x=>yD.b2 Q X a b x) 9
def yD.s6 (Q:Int→K) (b:Bool→Int→K) (f:Pt) (c:Bool) (d:Int): K :=
 Ar (IntKind.wrap .i64 (d + 1)) fun a=>
 b c a
def yD.s5 (Q:Int→K) (i:Bool→Int→K) (j:Pt) (b:Int) (p:Bool): K :=
 Ite p
  (Dr <| xW fun S=>
  Nn j fun a=>
  LdS S a Value.pointer fun k=>
  jg.call (some a) b fun l=>
  Sv S<|
  jk.call k l fun d f=>
  Ite (decide (f = 60))
   (yD.s1 Q (some a) b)
   (Ite (decide (f ≠ 0))
    (Q f)
    (xY.call (some a) d fun c=>
    St (a.add 3) (.int .i64 b)<|
    St (a.add 4) (.int .i64 c)<|
    Ite (!(decide (c = (d.n:Int))))
     (Dr <| xW fun S=>
     LdS S a Value.pointer fun m=>
     jg.call (some a) b fun o=>
     Sv S<|
     zh.call m o c fun g=>
     Ite (decide (g ≠ 0))
      (Q g)
      (yD.s6 Q i (some a) (decide (c = (d.n:Int))) b))
     (yD.s6 Q i (some a) (decide (c = (d.n:Int))) b))))
  (yD.s1 Q j b)
def yD.b4 (Q:Int→K) (b:Bool→Int→K) (c:Pt) (d:Bool) (a:Int): K :=
 Ite d
  (yD.s5 Q b c a (decide (a < 10)))
  (yD.s5 Q b c a false)
def yD (c:Pt) (Q:Int→K): K :=
 yM (α:=Bool×Int) (fun X x=>yD.b4 Q (fun a b=>X (a,b)) c x.1 x.2) (true,0)
theorem zJe (p Q w) (h:yD p Q w):yD.call p Q w:=by
 have:∀ q,XH 15 q→JH 19 fun D=>∃ f g i j,D [(0,(.pointer (some f))),(4,.int .i64 g),(9,.int .i64 i),(10,.int .i64 j)] (fun C=>∀ r,C [(0,(.pointer (some f))),(4,.int .i64 g),(9,.int .i64 i),(10,.int .i64 j),(81,.bool r)] (yD.s3 Q q f g i j r)):=by intros; exact ⟨fun _ ⟨_,_,_,_,h⟩=>⟨_,_,h⟩⟩
 have:DH 17 2 [7] (.s [0,1,2,4,5,3] (.a [(6,1,.a [(7,0,.s [8] .e)])])):=⟨⟩
 have:∀ t u,LH 15 (fun x:Int=>[(0,.pointer t),(4,.int .i64 u),(9,.int .i64 x)]) (fun X x=>yD.b2 Q X t u x):=fun _ _=>⟨⟩
 have:JH 14 fun D=>∃ k,D [(0,.pointer k)] (fun C=>∀ v,C [(0,.pointer k),(4,.int .i64 v)] (yD.s1 Q k v)):=⟨fun _ ⟨_,h⟩=>⟨_,_,h⟩⟩
 have:∀ d,XH 2 d→JH 3 fun D=>∃ l m,D [(0,.pointer l),(4,.int .i64 m)] (fun C=>∀ y,C [(0,.pointer l),(3,.bool y),(4,.int .i64 m)] (yD.s6 Q (fun b c=>d (b,c)) l y m)):=by intros; exact ⟨fun _ ⟨_,_,h⟩=>⟨_,_,h⟩⟩
 have:DH 11 2 [8] (.s [0,1,2,4,5,7,3] (.a [(6,1,.a [(8,0,.s [9] .e)])])):=⟨⟩
 have:DH 4 2 [7] (.s [0,1,2,4,5,3] (.a [(6,1,.a [(7,0,.s [8,9,10,11,12] .e)])])):=⟨⟩
 have:∀ d,XH 2 d→JH 1000002 fun D=>∃ n o,D [(0,.pointer n),(4,.int .i64 o)] (fun C=>∀ z,C [(0,.pointer n),(4,.int .i64 o),(15,.bool z)] (yD.s5 Q (fun b c=>d (b,c)) n o z)):=by intros; exact ⟨fun _ ⟨_,_,h⟩=>⟨_,_,h⟩⟩
 have:∀ aa,LH 2 (fun x:Bool×Int=>[(0,.pointer aa),(3,.bool x.1),(4,.int .i64 x.2)]) (fun X x=>yD.b4 Q (fun b c=>X (b,c)) aa x.1 x.2):=fun _=>⟨⟩
 exact zS 83 h Tryz.func100
def jg (i:Pt) (j:Int) (Q:ByteArray→K): K :=
 Nn i fun a=>
 Ld (a.add 1) Value.string fun b=>
 Ar (IntKind.wrap .i64 (48 + j)) fun c=>
 Ar (IntKind.wrap .i32 c) fun d=>
 Rd Tryz.prog (convert 21 9 (.int .i32 d)) Value.string fun f=>
 Cat b f fun g=>
 Q g
theorem zJf (a b Q w) (h:jg a b Q w):jg.call a b Q w:=by
 exact zS 14 h Tryz.func108
def xY.s1 (Q:Int→K) (a:Int): K :=
 Q a
def xY.b2 (Q p:Int→K) (q:Pt) (b:Sl) (a:Int): K :=
 Ite (decide (a < (b.n:Int)))
  (Slc b a (b.n:Int) (b.c:Int) 1 fun f=>
  zAc.call f fun g i j=>
  Ite (decide (j ≠ 0))
   (xY.s1 Q a)
   (Nn q fun d=>
   Ld (d.add 6) Sl.val fun k=>
   New 22 #[Sl.val g] fun l=>
   Do Tryz.prog (Builtin.append_ #[111,111] 111 #[Sl.val k,(Sl.val (Sl.mk (some l) 1 1))]) Sl.val fun m=>
   St (d.add 6) (Sl.val m)<|
   Ar (IntKind.wrap .i64 (a + i)) fun o=>
   p o))
  (xY.s1 Q a)
def xY (a:Pt) (b:Sl) (Q:Int→K): K :=
 yM (α:=Int) (fun X x=>xY.b2 Q X a b x) 0
theorem zIh (a b Q w) (h:xY a b Q w):xY.call a b Q w:=by
 have:JH 6 fun D=>D [] (fun C=>∀ c,C [(4,.int .i64 c)] (xY.s1 Q c)):=⟨fun _ h=>⟨_,_,h⟩⟩
 have:∀ d f,LH 1 (fun x:Int=>[(0,.pointer d),(1,Sl.val f),(4,.int .i64 x)]) (fun X x=>xY.b2 Q X d f x):=fun _ _=>⟨⟩
 exact zS 36 h Tryz.func122
instance:CB Tryz.prog 115:=⟨by kernel_rfl⟩
instance:CB Tryz.prog 118:=⟨by kernel_rfl⟩
instance:CB Tryz.prog 129:=⟨by kernel_rfl⟩
instance:CB Tryz.prog 43:=⟨by kernel_rfl⟩
instance:CB Tryz.prog 71:=⟨by kernel_rfl⟩
instance:CB Tryz.prog 72:=⟨by kernel_rfl⟩
instance:CB Tryz.prog 74:=⟨by kernel_rfl⟩
instance:CB Tryz.prog 80:=⟨by kernel_rfl⟩
instance:CB Tryz.prog 81:=⟨by kernel_rfl⟩
instance:CB Tryz.prog 82:=⟨by kernel_rfl⟩
instance:CB Tryz.prog 83:=⟨by kernel_rfl⟩
instance:CT Tryz.prog 48:=⟨by kernel_rfl⟩
instance:CT Tryz.prog 91:=⟨by kernel_rfl⟩
instance:FT Tryz.prog 113 0 0 1:=⟨by kernel_rfl⟩
instance:FT Tryz.prog 113 1 1 1:=⟨by kernel_rfl⟩
instance:FT Tryz.prog 113 2 2 1:=⟨by kernel_rfl⟩
instance:FT Tryz.prog 113 3 3 1:=⟨by kernel_rfl⟩
instance:FT Tryz.prog 113 4 4 1:=⟨by kernel_rfl⟩
instance:FT Tryz.prog 113 5 5 1:=⟨by kernel_rfl⟩
instance:FT Tryz.prog 116 1 1 1:=⟨by kernel_rfl⟩
instance:FT Tryz.prog 93 1 1 1:=⟨by kernel_rfl⟩
instance:FT Tryz.prog 93 3 3 1:=⟨by kernel_rfl⟩
instance:PLT Tryz.prog 113 [(0,1),(1,1),(2,1),(3,1),(4,1),(5,1)]:=⟨_,Tryz.underlying113,by kernel_rfl⟩
instance:SLT Tryz.prog 91 116 3:=⟨by kernel_rfl⟩
instance:ZT Tryz.prog 113 (.agg #[(.pointer none),(.string ⟨#[]⟩),(.int .i64 0),(.int .i64 0),(.bool false),(Sl.val ⟨none,0,0⟩)]):=⟨Tryz.t113,by kernel_rfl,by kernel_rfl⟩
def zw.s4 (Q:Pt→Int→K) (b:Int→K) (g i:Addr) (j c d:Int) (f:Bool): K :=
 Ite f
  (Q none d)
  (Ar (IntKind.wrap .i64 (c - 1)) fun a=>
  b a)
def zw.b3 (Q:Pt→Int→K) (g:Int→K) (d b:Addr) (f c:Int): K :=
 Ite (decide (f ≤ c))
  (vN.call (some b) c fun i=>
  uW.call (some d) i fun a=>
  Ite (decide (a ≠ 0))
   (zw.s4 Q g d b f c a (decide (a ≠ 60)))
   (zw.s4 Q g d b f c a false))
  (Q (some b) 0)
def zw.s2 (Q:Pt→Int→K) (a b:Addr) (c:Int): K :=
 yM (α:=Int) (fun X x=>zw.b3 Q X a b c x) 9
def zw.s7 (Q:Pt→Int→K) (k:Int→K) (d b:Addr) (f:Int) (l:Sl) (g:Int): K :=
 St (b.add 3) (.int .i64 f)<|
 Ar (IntKind.wrap .i64 (f + 1)) fun a=>
 Ite (decide (g < (l.n:Int)))
  (Ar (IntKind.wrap .i64 (a - 1)) fun i=>
  vN.call (some b) i fun j=>
  qY.call (some d) j g fun c=>
  Ite (decide (c ≠ 0))
   (Q none c)
   (zw.s2 Q d b a))
  (k a)
def zw.b8 (Q:Pt→Int→K) (f s:Int→K) (g d:Addr) (i:Int) (a:Sl) (b:Int): K :=
 Ite (decide (b < (a.n:Int)))
  (Slc a b (a.n:Int) (a.c:Int) 1 fun j=>
  zAL.call j fun k l m=>
  Ite (decide (m ≠ 0))
   (zw.s7 Q f g d i a b)
   (Ld (d.add 5) Sl.val fun o=>
   New 22 #[Sl.val k] fun p=>
   Do Tryz.prog (Builtin.append_ #[111,111] 111 #[Sl.val o,(Sl.val (Sl.mk (some p) 1 1))]) Sl.val fun q=>
   St (d.add 5) (Sl.val q)<|
   Ar (IntKind.wrap .i64 (b + l)) fun r=>
   s r))
  (zw.s7 Q f g d i a b)
def zw.s6 (Q:Pt→Int→K) (g:Int→K) (a b:Addr) (c:Int) (i:Bool): K :=
 Ite i
  (vN.call (some b) c fun d=>
  uw.call (some a) d fun f j=>
  yM (α:=Int) (fun X x=>zw.b8 Q g X a b c f x) 0)
  (zw.s2 Q a b c)
def zw.b5 (Q:Pt→Int→K) (d:Int→K) (b c:Addr) (a:Int): K :=
 Ite (decide (a < 10))
  (vN.call (some c) a fun f=>
  xX.call (some b) f fun g=>
  zw.s6 Q d b c a (decide ((0:Int) ≤ g)))
  (zw.s6 Q d b c a false)
def zw.s1 (Q:Pt→Int→K) (d:Pt) (f:ByteArray) (g:Int) (i:Bool): K :=
 Ite i
  (Q none 1)
  (Nn d fun a=>
  Ld (a.add 3) Value.bool fun b=>
  Ite b
   (Q none 3)
   (New 113 #[(.pointer (some a)),.string f,.int .i64 g,.int .i64 0,.bool false,Sl.val ⟨none,0,0⟩] fun c=>
   yM (α:=Int) (fun X x=>zw.b5 Q X a c x) 0))
def zw (c:Pt) (a:ByteArray) (b:Int) (Q:Pt→Int→K): K :=
 Ite (decide ((a.size:Int) < 1))
  (zw.s1 Q c a b true)
  (Ite (decide ((8:Int) < (a.size:Int)))
   (zw.s1 Q c a b true)
   (Ite (decide (b < 16))
    (zw.s1 Q c a b true)
    (zw.s1 Q c a b (decide ((65536:Int) < b)))))
theorem zLm (u v y Q w) (h:zw u v y Q w):zw.call u v y Q w:=by
 have:∀ z,XH 22 z→JH 26 fun D=>∃ b c d f g,D [(0,(.pointer (some b))),(8,(.pointer (some c))),(9,.int .i64 d),(17,.int .i64 f),(18,.int .i64 g)] (fun C=>∀ aa,C [(0,(.pointer (some b))),(8,(.pointer (some c))),(9,.int .i64 d),(17,.int .i64 f),(18,.int .i64 g),(124,.bool aa)] (zw.s4 Q z b c d f g aa)):=by intros; exact ⟨fun _ ⟨_,_,_,_,_,h⟩=>⟨_,_,h⟩⟩
 have:∀ ab ac ad,LH 22 (fun x:Int=>[(0,(.pointer (some ab))),(8,(.pointer (some ac))),(9,.int .i64 ad),(17,.int .i64 x)]) (fun X x=>zw.b3 Q X ab ac ad x):=fun _ _ _=>⟨⟩
 have:JH 21 fun D=>∃ i j,D [(0,(.pointer (some i))),(8,(.pointer (some j)))] (fun C=>∀ ae,C [(0,(.pointer (some i))),(8,(.pointer (some j))),(9,.int .i64 ae)] (zw.s2 Q i j ae)):=⟨fun _ ⟨_,_,h⟩=>⟨_,_,h⟩⟩
 have:∀ a,XH 7 a→JH 15 fun D=>∃ k l m n,D [(0,(.pointer (some k))),(8,(.pointer (some l))),(9,.int .i64 m),(10,Sl.val n)] (fun C=>∀ af,C [(0,(.pointer (some k))),(8,(.pointer (some l))),(9,.int .i64 m),(10,Sl.val n),(12,.int .i64 af)] (zw.s7 Q a k l m n af)):=by intros; exact ⟨fun _ ⟨_,_,_,_,h⟩=>⟨_,_,h⟩⟩
 have:∀ a,XH 7 a→∀ ag ah aj ak,LH 10 (fun x:Int=>[(0,(.pointer (some ag))),(8,(.pointer (some ah))),(9,.int .i64 aj),(10,Sl.val ak),(12,.int .i64 x)]) (fun X x=>zw.b8 Q a X ag ah aj ak x):=by intros; exact ⟨⟩
 have:∀ a,XH 7 a→JH 1000007 fun D=>∃ o p q,D [(0,(.pointer (some o))),(8,(.pointer (some p))),(9,.int .i64 q)] (fun C=>∀ al,C [(0,(.pointer (some o))),(8,(.pointer (some p))),(9,.int .i64 q),(53,.bool al)] (zw.s6 Q a o p q al)):=by intros; exact ⟨fun _ ⟨_,_,_,h⟩=>⟨_,_,h⟩⟩
 have:∀ am an,LH 7 (fun x:Int=>[(0,(.pointer (some am))),(8,(.pointer (some an))),(9,.int .i64 x)]) (fun X x=>zw.b5 Q X am an x):=fun _ _=>⟨⟩
 have:JH 2 fun D=>∃ r s t,D [(0,.pointer r),(1,.string s),(2,.int .i64 t)] (fun C=>∀ ao,C [(0,.pointer r),(1,.string s),(2,.int .i64 t),(34,.bool ao)] (zw.s1 Q r s t ao)):=⟨fun _ ⟨_,_,_,h⟩=>⟨_,_,h⟩⟩
 exact zS 127 h Tryz.func40
def vN (j:Pt) (k:Int) (Q:ByteArray→K): K :=
 Dr <| xW fun S=>
 Nn j fun a=>
 Ar (IntKind.wrap .i64 (48 + k)) fun b=>
 Ar (IntKind.wrap .u8 b) fun c=>
 LdS S (a.add 1) Value.string fun d=>
 New 5 #[.int .u8 c] fun f=>
 Sv S<|
 Rd Tryz.prog (convert 22 9 (Sl.val (Sl.mk (some f) 1 1))) Value.string fun g=>
 Cat d g fun i=>
 Q i
theorem zHq (b c Q w) (h:vN b c Q w):vN.call b c Q w:=by
 have:DH 1 2 [] (.s [0,1,2,4,5,6,3] (.a [(7,1,.a [(8,2,.s [9,10] .e)])])):=⟨⟩
 exact zS 15 h Tryz.func81
def yt.s1 (Q:Int→K) (a:Addr) (o p:Sl) (c:Int): K :=
 Dr <| xW fun S=>
 LdS S a Value.pointer fun d=>
 vN.call (some a) c fun f=>
 Sv S<|
 zq.call d f p fun b=>
 Ite (decide (b ≠ 0))
  (Q b)
  (St (a.add 3) (.int .i64 c)<|
  St (a.add 4) (.bool true)<|
  New 22 #[] fun g=>
  Ld (a.add 5) Sl.val fun i=>
  Do Tryz.prog (Builtin.append_ #[111,111] 111 #[(Sl.val (Sl.mk (some g) 0 0)),Sl.val i]) Sl.val fun j=>
  New 5 #[] fun k=>
  Do Tryz.prog (Builtin.append_ #[22,22] 22 #[(Sl.val (Sl.mk (some k) 0 0)),Sl.val o]) Sl.val fun l=>
  New 22 #[Sl.val l] fun m=>
  Do Tryz.prog (Builtin.append_ #[111,111] 111 #[Sl.val j,(Sl.val (Sl.mk (some m) 1 1))]) Sl.val fun n=>
  St (a.add 5) (Sl.val n)<|
  Q 0)
def yt.s2 (Q:Int→K) (a:Addr) (d f:Sl) (g:Int) (i:Bool): K :=
 Ite i
  (Ar (IntKind.wrap .i64 (g + 1)) fun b=>
  Ite (decide (b = 10))
   (Q 2)
   (zAO.call (some a) fun c=>
   Ite (decide (c ≠ 0))
    (Q c)
    (yt.s1 Q a d f b)))
  (yt.s1 Q a d f g)
def yt (l:Pt) (d:Sl) (Q:Int→K): K :=
 jC.call d fun c f=>
 Ite (decide (f ≠ 0))
  (Q f)
  (Nn l fun a=>
  Ld (a.add 3) (Value.int .i64) fun b=>
  Dr <| xW fun S=>
  zAP.call (some a) b fun g=>
  Sv S<|
  Ite (decide ((0:Int) < g))
   (LdS S (a.add 2) (Value.int .i64) fun i=>
   zAP.call (some a) b fun j=>
   Sv S<|
   Ar (IntKind.wrap .i64 (j + (c.n:Int))) fun k=>
   yt.s2 Q a d c b (decide (i < k)))
   (yt.s2 Q a d c b false))
theorem zGT (l m Q w) (h:yt l m Q w):yt.call l m Q w:=by
 have:DH 12 2 [8] (.s [0,1,2,4,5,7,3] (.a [(6,1,.a [(8,0,.s [9] .e)])])):=⟨⟩
 have:JH 12 fun D=>∃ b c d,D [(0,(.pointer (some b))),(1,Sl.val c),(5,Sl.val d)] (fun C=>∀ n,C [(0,(.pointer (some b))),(1,Sl.val c),(5,Sl.val d),(7,.int .i64 n)] (yt.s1 Q b c d n)):=⟨fun _ ⟨_,_,_,h⟩=>⟨_,_,h⟩⟩
 have:JH 6 fun D=>∃ f g j k,D [(0,(.pointer (some f))),(1,Sl.val g),(5,Sl.val j),(7,.int .i64 k)] (fun C=>∀ o,C [(0,(.pointer (some f))),(1,Sl.val g),(5,Sl.val j),(7,.int .i64 k),(36,.bool o)] (yt.s2 Q f g j k o)):=⟨fun _ ⟨_,_,_,_,h⟩=>⟨_,_,h⟩⟩
 have:DH 5 2 [] (.s [0,1] (.a [(2,1,.s [3,4] (.i (.s [5,6,8,9,11,12,13,14] (.a [(7,1,.s [10,15,16] .e)])) (.s [5,6,7,8,9,10,11,12,13,14,15,16] .e)))])):=⟨⟩
 exact zS 79 h Tryz.func117
def zAO (i:Pt) (Q:Int→K): K :=
 Nn i fun a=>
 Ld (a.add 4) Value.bool fun c=>
 Ite (!c)
  (Q 0)
  (Dr <| xW fun S=>
  LdS S a Value.pointer fun d=>
  LdS S (a.add 3) (Value.int .i64) fun f=>
  vN.call (some a) f fun g=>
  Sv S<|
  jQ.call d g fun b=>
  St (a.add 4) (.bool (decide (b ≠ 0)))<|
  Q b)
theorem zHr (b Q w) (h:zAO b Q w):zAO.call b Q w:=by
 have:DH 3 2 [10] (.s [0,1,2,4,5,6,7,3,8] (.a [(9,1,.a [(10,0,.s [11] .e)])])):=⟨⟩
 exact zS 26 h Tryz.func118
def zAP (l:Pt) (m:Int) (Q:Int→K): K :=
 Dr <| xW fun S=>
 Nn l fun a=>
 LdS S a Value.pointer fun c=>
 vN.call (some a) m fun d=>
 Sv S<|
 xX.call c d fun b=>
 Ite (decide (b < 0))
  (Q 0)
  (Ld a Value.pointer fun f=>
  Nn f fun g=>
  Ld (g.add 1) Sl.val fun i=>
  Idx i b 3 fun j=>
  Ld (j.add 1) Sl.val fun k=>
  Q (k.n:Int))
theorem zHs (b c Q w) (h:zAP b c Q w):zAP.call b c Q w:=by
 have:DH 1 2 [7] (.s [0,1,2,4,5,3] (.a [(6,1,.a [(7,0,.s [8] .e)])])):=⟨⟩
 exact zS 28 h Tryz.func129
instance:AT Tryz.prog 127 3:=⟨by kernel_rfl⟩
instance:CB Tryz.prog 101:=⟨by kernel_rfl⟩
instance:CB Tryz.prog 119:=⟨by kernel_rfl⟩
instance:CB Tryz.prog 70:=⟨by kernel_rfl⟩
instance:CT Tryz.prog 152:=⟨by kernel_rfl⟩
instance:CT Tryz.prog 33:=⟨by kernel_rfl⟩
instance:CT Tryz.prog 41:=⟨by kernel_rfl⟩
instance:FT Tryz.prog 127 0 0 1:=⟨by kernel_rfl⟩
instance:FT Tryz.prog 127 1 1 1:=⟨by kernel_rfl⟩
instance:FT Tryz.prog 154 0 0 1:=⟨by kernel_rfl⟩
instance:FT Tryz.prog 154 1 1 1:=⟨by kernel_rfl⟩
instance:PLT Tryz.prog 154 [(0,1),(1,1)]:=⟨_,Tryz.underlying154,by kernel_rfl⟩
instance:SLT Tryz.prog 41 127 3:=⟨by kernel_rfl⟩
instance:SZ Tryz.prog 127 3:=⟨by kernel_rfl⟩
instance:SZ Tryz.prog 33 1:=⟨by kernel_rfl⟩
instance:SZ Tryz.prog 41 1:=⟨by kernel_rfl⟩
instance:ZT Tryz.prog 127 (.agg #[(.int .i64 0),(.int .u64 0),(.string ⟨#[]⟩)]):=⟨Tryz.t127,by kernel_rfl,by kernel_rfl⟩
instance:ZT Tryz.prog 154 (.agg #[(.int .u64 0),(.pointer none)]):=⟨Tryz.t154,by kernel_rfl,by kernel_rfl⟩
instance:ZT Tryz.prog 41 (Sl.val ⟨none,0,0⟩):=⟨Tryz.t41,by kernel_rfl,by kernel_rfl⟩
def qA (c:Pt) (Q:Int→K): K :=
 Nn c fun a=>
 Ld a (Value.int .u64) fun b=>
 Q b
theorem zCP (a Q w) (h:qA a Q w):qA.call a Q w:=by
 exact zS 7 h Tryz.func32
def qE (u:Pt) (g v:Int) (Q:Sl→Bool→K): K :=
 New 41 #[Sl.val ⟨none,0,0⟩] fun a=>
 Nn u fun b=>
 Ld b (Value.int .u64) fun j=>
 Ite (decide (g < j))
  (St a (Sl.val (Sl.mk none 0 0))<|
  Ld a Sl.val fun c=>
  Q c false)
  (St b (.int .u64 g)<|
  Ld (b.add 1) Value.pointer fun k=>
  qW.call k v fun l=>
  zAD Tryz.prog l .ret (fun x:Value×Av=>[x.1,.agg x.2]) (fun m n y x=>
   New 127 #[.int .i64 0,.int .u64 0,(.string ⟨#[]⟩)] fun d=>
   StN d 3 x.2<|
   m<|
   Ld a Sl.val fun o=>
   LdN d 3 fun p=>
   Bld #[.int .i64 0,.int .u64 0,(.string ⟨#[]⟩)] (fun i=>some (i * 3,3)) [(0,.agg p)] fun q=>
   New 127 q fun r=>
   Do Tryz.prog (Builtin.append_ #[41,41] 41 #[Sl.val o,(Sl.val (Sl.mk (some r) 1 1))]) Sl.val fun s=>
   St a (Sl.val s)<|
   n)
   (fun f=>
    Ld a Sl.val fun t=>
    St a (Sl.val t)<|
    zAl f<|
    Ld a Sl.val fun c=>
    Q c true)
   (fun f=>
    Dead))
theorem zAs (a b c Q w) (h:qE a b c Q w):qE.call a b c Q w:=by
 exact zS 33 h Tryz.func36
def uV  (Q:Pt→K): K :=
 vG.call  fun a=>
 New 154 #[.int .u64 0,.pointer a] fun b=>
 Q (some b)
theorem zCj (Q w) (h:uV  Q w):uV.call  Q w:=by
 exact zS 4 h Tryz.func62
def yO.s1 (Q:Bool→K) (i:Pt) (a:Addr) (j:Bool): K :=
 Ite j
  (Q false)
  (Ld (a.add 1) (Value.int .u64) fun c=>
  Nn i fun b=>
  St b (.int .u64 c)<|
  Dr<|
  Ld (b.add 1) Value.pointer fun d=>
  Ld a (Value.int .i64) fun f=>
  LdN a 3 fun g=>
  zN.call d f g fun k l=>
  Q true)
def yO (i:Pt) (j:Av) (Q:Bool→K): K :=
 New 127 j fun a=>
 Dr<|
 Ld (a.add 1) (Value.int .u64) fun c=>
 Nn i fun b=>
 Ld b (Value.int .u64) fun d=>
 Ite (decide (c < d))
  (yO.s1 Q (some b) a true)
  (Ld a (Value.int .i64) fun f=>
  Ite (decide (f < 0))
   (yO.s1 Q (some b) a true)
   (Ld a (Value.int .i64) fun g=>
   yO.s1 Q (some b) a (decide ((64:Int) ≤ g))))
theorem zCk (d f Q w) (h:yO d f Q w):yO.call d f Q w:=by
 have:DH 4 1 [7] (.s [0,1,2,4,3,5,6] (.a [(7,0,.e)])):=⟨⟩
 have:JH 2 fun D=>∃ b c,D [(0,.pointer b),(3,(.pointer (some c)))] (fun C=>∀ g,C [(0,.pointer b),(3,(.pointer (some c))),(21,.bool g)] (yO.s1 Q b c g)):=⟨fun _ ⟨_,_,h⟩=>⟨_,_,h⟩⟩
 exact zS 35 h Tryz.func93
instance:AT Tryz.prog 227 4:=⟨by kernel_rfl⟩
instance:CB Tryz.prog 110:=⟨by kernel_rfl⟩
instance:CB Tryz.prog 127:=⟨by kernel_rfl⟩
instance:CB Tryz.prog 130:=⟨by kernel_rfl⟩
instance:CB Tryz.prog 143:=⟨by kernel_rfl⟩
instance:CB Tryz.prog 145:=⟨by kernel_rfl⟩
instance:CB Tryz.prog 146:=⟨by kernel_rfl⟩
instance:CB Tryz.prog 147:=⟨by kernel_rfl⟩
instance:CB Tryz.prog 148:=⟨by kernel_rfl⟩
instance:CB Tryz.prog 149:=⟨by kernel_rfl⟩
instance:CT Tryz.prog 202:=⟨by kernel_rfl⟩
instance:CT Tryz.prog 217:=⟨by kernel_rfl⟩
instance:CT Tryz.prog 218:=⟨by kernel_rfl⟩
instance:FT Tryz.prog 204 0 0 1:=⟨by kernel_rfl⟩
instance:FT Tryz.prog 204 1 1 1:=⟨by kernel_rfl⟩
instance:FT Tryz.prog 220 0 0 1:=⟨by kernel_rfl⟩
instance:FT Tryz.prog 220 1 1 1:=⟨by kernel_rfl⟩
instance:FT Tryz.prog 227 0 0 1:=⟨by kernel_rfl⟩
instance:FT Tryz.prog 227 1 1 3:=⟨by kernel_rfl⟩
instance:PLT Tryz.prog 204 [(0,1),(1,1)]:=⟨_,Tryz.underlying204,by kernel_rfl⟩
instance:PLT Tryz.prog 220 [(0,1),(1,1)]:=⟨_,Tryz.underlying220,by kernel_rfl⟩
instance:PLT Tryz.prog 227 [(0,1),(1,3)]:=⟨_,Tryz.underlying227,by kernel_rfl⟩
instance:SLT Tryz.prog 217 227 4:=⟨by kernel_rfl⟩
instance:SLT Tryz.prog 218 202 1:=⟨by kernel_rfl⟩
instance:SZ Tryz.prog 202 1:=⟨by kernel_rfl⟩
instance:SZ Tryz.prog 217 1:=⟨by kernel_rfl⟩
instance:SZ Tryz.prog 218 1:=⟨by kernel_rfl⟩
instance:SZ Tryz.prog 227 4:=⟨by kernel_rfl⟩
instance:UN Tryz.prog 206 (.pointer 3):=⟨Tryz.underlying206⟩
instance:UN Tryz.prog 228 (.pointer 227):=⟨Tryz.underlying228⟩
instance:ZT Tryz.prog 202 (.pointer none):=⟨Tryz.t202,by kernel_rfl,by kernel_rfl⟩
instance:ZT Tryz.prog 204 (.agg #[(.pointer none),(.int .i64 0)]):=⟨Tryz.t204,by kernel_rfl,by kernel_rfl⟩
instance:ZT Tryz.prog 220 (.agg #[(Sl.val ⟨none,0,0⟩),(Sl.val ⟨none,0,0⟩)]):=⟨Tryz.t220,by kernel_rfl,by kernel_rfl⟩
instance:ZT Tryz.prog 227 (.agg #[(.int .i64 0),(.int .i64 0),(.int .u64 0),(.string ⟨#[]⟩)]):=⟨Tryz.t227,by kernel_rfl,by kernel_rfl⟩
def qW (c:Pt) (d:Int) (Q:Value→K): K :=
 New 152 #[.pointer c] fun a=>
 New 3 #[.int .i64 d] fun b=>
 Q (.func (.func 109) #[] #[(.pointer (some a)),(.pointer (some b))])
theorem jo (a b Q w) (h:qW a b Q w):qW.call a b Q w:=by
 exact zS 6 h Tryz.func70
def vG  (Q:Pt→K): K :=
 New 220 #[Sl.val ⟨none,0,0⟩,Sl.val ⟨none,0,0⟩] fun a=>
 New 204 #[(.pointer (some a)),.int .i64 0] fun b=>
 Q (some b)
theorem zAf (Q w) (h:vG  Q w):vG.call  Q w:=by
 exact zS 5 h Tryz.func101
def xZ (d:Value) (f g:Addr) (Q:K): K :=
 Ld f Value.pointer fun a=>
 Nn a fun b=>
 Ld b Value.pointer fun c=>
 zG.call c (some g) d fun i=>
 Q
theorem jW (a b c Q w) (h:xZ a b c Q w):xZ.call a b c Q w:=by
 exact zS 10 h Tryz.func109
def zG.s4 (Q:Bool→K) (b:Pt→Int→K) (f:Addr) (g:Value) (c:Int) (d:Bool): K :=
 Ite d
  (Q false)
  (Ar (IntKind.wrap .i64 (c + 1)) fun a=>
  b none a)
def zG.s3 (Q:Bool→K) (f:Pt→Int→K) (a:Addr) (d:Value) (b:Int) (p:Bool): K :=
 Ite p
  (Q false)
  (Dr<|
  Ld a Sl.val fun g=>
  Ite (decide (b < (g.n:Int)))
   (Ld a Sl.val fun i=>
   Idx i b 4 fun j=>
   Ld j (Value.int .i64) fun k=>
   Ld a Sl.val fun l=>
   Idx l b 4 fun m=>
   LdN (m.add 1) 3 fun o=>
   j6 Tryz.prog d [.int .i64 k,.agg o] <| qD (fun (c:Bool)=>Value.bool c) fun c=>
   zG.s4 Q f a d b (!c))
   (zG.s4 Q f a d b false))
def zG.b2 (Q:Bool→K) (d:Pt→Int→K) (m:Pt) (c:Value) (o:Pt) (b:Int): K :=
 Nn m fun a=>
 Ld a Sl.val fun f=>
 Ite (decide (b ≤ (f.n:Int)))
  (Ld (a.add 1) Sl.val fun g=>
  Ite (decide (b < (g.n:Int)))
   (Ld (a.add 1) Sl.val fun i=>
   Idx i b 1 fun j=>
   Ld j Value.pointer fun k=>
   zG.call k o c fun l=>
   zG.s3 Q d a c b (!l))
   (zG.s3 Q d a c b false))
  (Q true)
def zG.s1 (Q:Bool→K) (c d:Pt) (f:Value) (g:Int): K :=
 yM (α:=Pt×Int) (fun X x=>zG.b2 Q (fun a b=>X (a,b)) c f x.1 x.2) (d,g)
def zG (a b:Pt) (d:Value) (Q:Bool→K): K :=
 Ite (!(b).isNone)
  (Nn b fun c=>
  Ld c (Value.int .i64) fun f=>
  yX.call a f fun g i=>
  zG.s1 Q a (some c) d g)
  (zG.s1 Q a b d 0)
theorem jq (q r t Q w) (h:zG q r t Q w):zG.call q r t Q w:=by
 have:∀ (d:(Pt×Int)→K),XH 4 d→JH 10 fun D=>∃ f g j,D [(0,(.pointer (some f))),(2,g),(7,.int .i64 j)] (fun C=>∀ u,C [(0,(.pointer (some f))),(1,.pointer none),(2,g),(7,.int .i64 j),(74,.bool u)] (zG.s4 Q (fun b c=>d (b,c)) f g j u)):=by intros; exact ⟨fun _ ⟨_,_,_,h⟩=>⟨_,_,h⟩⟩
 have:DH 9 1 [25] (.s [0,1,2,3,4,5,6,7] (.i (.s [8,9,10,11,13,17,18,19,21,12,14,15,16,20,22,23,24] (.a [(25,0,.s [26,27] .e)])) (.s [8,9,10,11,12,13,14,15,16,17,18,19,20,21,22,23,24,25,26,27] .e))):=⟨⟩
 have:∀ (d:(Pt×Int)→K),XH 4 d→JH 7 fun D=>∃ k l m,D [(0,(.pointer (some k))),(2,l),(7,.int .i64 m)] (fun C=>∀ v,C [(0,(.pointer (some k))),(2,l),(7,.int .i64 m),(46,.bool v)] (zG.s3 Q (fun b c=>d (b,c)) k l m v)):=by intros; exact ⟨fun _ ⟨_,_,_,h⟩=>⟨_,_,h⟩⟩
 have:∀ y z,LH 4 (fun x:Pt×Int=>[(0,.pointer y),(1,.pointer x.1),(2,z),(7,.int .i64 x.2)]) (fun X x=>zG.b2 Q (fun b c=>X (b,c)) y z x.1 x.2):=fun _ _=>⟨⟩
 have:JH 4 fun D=>∃ n o p,D [(0,.pointer n),(1,.pointer o),(2,p)] (fun C=>∀ aa,C [(0,.pointer n),(1,.pointer o),(2,p),(7,.int .i64 aa)] (zG.s1 Q n o p aa)):=⟨fun _ ⟨_,_,_,h⟩=>⟨_,_,h⟩⟩
 exact zS 75 h Tryz.func110
def zN.s3 (Q:Av→Bool→K) (a d:Addr) (f:Bool): K :=
 LdN d 3 fun b=>
 StN a 3 b<|
 LdN a 3 fun c=>
 Q c f
def zN.s2 (Q:Av→Bool→K) (i:Pt) (c d:Addr) (a:Bool): K :=
 Ite (!a)
  (Nn i fun b=>
  Ld (b.add 1) (Value.int .i64) fun f=>
  Ar (IntKind.wrap .i64 (f + 1)) fun g=>
  St (b.add 1) (.int .i64 g)<|
  zN.s3 Q c d a)
  (zN.s3 Q c d a)
def zN.s1 (Q:Av→Bool→K) (n:Pt) (g j:Addr) (k:Bool) (o p:Pt): K :=
 Ite (!(o).isNone)
  (Dr <| xW fun S=>
  Nn o fun q=>
  Nn n fun a=>
  zBt S q 4 fun l=>
  LdS S a Value.pointer fun m=>
  All [
   (Bld #[.int .i64 0,.int .i64 0,.int .u64 0,(.string ⟨#[]⟩)] (fun i=>some (i * 4,4)) [(0,.agg l)] fun b=>
   New 227 b fun c=>
   Sv S<|
   New 202 #[.pointer m,.pointer p] fun d=>
   Sv S<|
   New 220 #[(Sl.val (Sl.mk (some c) 1 1)),(Sl.val (Sl.mk (some d) 2 2))] fun f=>
   St a (.pointer (some f))<|
   zN.s2 Q (some a) g j k),
   (New 202 #[.pointer m,.pointer p] fun d=>
   Sv S<|
   Bld #[.int .i64 0,.int .i64 0,.int .u64 0,(.string ⟨#[]⟩)] (fun i=>some (i * 4,4)) [(0,.agg l)] fun b=>
   New 227 b fun c=>
   Sv S<|
   New 220 #[(Sl.val (Sl.mk (some c) 1 1)),(Sl.val (Sl.mk (some d) 2 2))] fun f=>
   St a (.pointer (some f))<|
   zN.s2 Q (some a) g j k)
   ])
  (zN.s2 Q n g j k)
def zN (n:Pt) (o:Int) (p:Av) (Q:Av→Bool→K): K :=
 New 127 p fun l=>
 New 127 #[.int .i64 0,.int .u64 0,(.string ⟨#[]⟩)] fun i=>
 Dr <| xW fun S=>
 Nn n fun b=>
 LdS S b Value.pointer fun j=>
 zBt S l 3 fun m=>
 Bld #[.int .i64 0,.int .i64 0,.int .u64 0,(.string ⟨#[]⟩)] ([(0,1),(1,3)][·]?) [(0,.int .i64 o),(1,.agg m)] fun k=>
 All [
  (zQ.call j k fun c d f g=>
  New 127 #[.int .i64 0,.int .u64 0,(.string ⟨#[]⟩)] fun a=>
  StN a 3 c<|
  zN.s1 Q (some b) i a d f g),
  (New 127 #[.int .i64 0,.int .u64 0,(.string ⟨#[]⟩)] fun a=>
  Sv S<|
  zQ.call j k fun c d f g=>
  StN a 3 c<|
  zN.s1 Q (some b) i a d f g)
  ]
theorem zBX (k l m Q w) (h:zN k l m Q w):zN.call k l m Q w:=by
 have:JH 6 fun D=>∃ b c,D [(6,(.pointer (some b))),(8,(.pointer (some c)))] (fun C=>∀ n,C [(6,(.pointer (some b))),(8,(.pointer (some c))),(9,.bool n)] (zN.s3 Q b c n)):=⟨fun _ ⟨_,_,h⟩=>⟨_,_,h⟩⟩
 have:JH 4 fun D=>∃ d f g,D [(0,.pointer d),(6,(.pointer (some f))),(8,(.pointer (some g)))] (fun C=>∀ o,C [(0,.pointer d),(6,(.pointer (some f))),(8,(.pointer (some g))),(9,.bool o)] (zN.s2 Q d f g o)):=⟨fun _ ⟨_,_,_,h⟩=>⟨_,_,h⟩⟩
 have:DH 3 2 [12,15] (.s [0,1,2,5,6,7,9,3,8] (.a [(4,1,.a [(10,1,.s [11] (.a [(12,0,.s [13,14] (.a [(15,0,.e)]))]))]),(10,1,.a [(4,1,.s [11] (.a [(12,0,.s [13,14] (.a [(15,0,.e)]))]))])])):=⟨⟩
 have:JH 2 fun D=>∃ i j,D [(0,.pointer i),(6,(.pointer (some j)))] (fun C=>∀ p q r t,C [(0,.pointer i),(6,(.pointer (some j))),(8,(.pointer (some p))),(9,.bool q),(10,.pointer r),(11,.pointer t)] (zN.s1 Q i j p q r t)):=⟨fun _ ⟨_,_,h⟩=>⟨_,_,h⟩⟩
 have:DH 1 2 [7,14] (.s [0,1,2,4,3,5,6] (.a [(7,0,.s [8,9,10,11,12] (.a [(13,0,.a [(14,0,.s [15,16,17] .e)])])),(13,1,.a [(7,0,.s [8,9,10,11,12] (.a [(14,0,.s [15,16,17] .e)]))])])):=⟨⟩
 exact zS 53 h Tryz.func119
def yX (f:Pt) (g:Int) (Q:Int→Bool→K): K :=
 Nn f fun a=>
 Ld a Sl.val fun b=>
 zA.call b g (.func (.func 144) #[] #[]) fun c d=>
 Q c d
theorem jX (a b Q w) (h:yX a b Q w):yX.call a b Q w:=by
 exact zS 14 h Tryz.func127
def zQ.s2 (Q:Av→Bool→Pt→Pt→K) (a:Addr) (d:Bool) (f g:Addr): K :=
 LdN a 3 fun b=>
 StN a 3 b<|
 LdN a 3 fun c=>
 Q c d (some g) (some f)
def zQ.s1 (Q:Av→Bool→Pt→Pt→K) (ab:Pt) (b:Addr) (j:Bool): K :=
 Nn ab fun a=>
 Ld a Sl.val fun k=>
 Ite (decide ((k.n:Int) ≤ 5))
  (LdN b 3 fun l=>
  StN b 3 l<|
  LdN b 3 fun m=>
  Q m j none none)
  (Ld a Sl.val fun o=>
  Idx o 2 4 fun p=>
  LdN p 4 fun q=>
  New 227 #[.int .i64 0,.int .i64 0,.int .u64 0,(.string ⟨#[]⟩)] fun d=>
  StN d 4 q<|
  Ld a Sl.val fun f=>
  Slc f 3 (f.n:Int) (f.c:Int) 4 fun r=>
  zn.call r fun s=>
  New 220 #[Sl.val s,Sl.val ⟨none,0,0⟩] fun g=>
  Ld a Sl.val fun t=>
  Slc t 0 2 2 4 fun u=>
  St a (Sl.val u)<|
  Ld (a.add 1) Sl.val fun v=>
  Ite (decide ((0:Int) < (v.n:Int)))
   (Ld (a.add 1) Sl.val fun i=>
   Slc i 3 (i.n:Int) (i.c:Int) 1 fun x=>
   zo.call x fun y=>
   St (g.add 1) (Sl.val y)<|
   Ld (a.add 1) Sl.val fun z=>
   Slc z 0 3 3 1 fun aa=>
   St (a.add 1) (Sl.val aa)<|
   zQ.s2 Q b j g d)
   (zQ.s2 Q b j g d))
def zQ (f:Pt) (aw:Av) (Q:Av→Bool→Pt→Pt→K): K :=
 New 227 aw fun d=>
 New 127 #[.int .i64 0,.int .u64 0,(.string ⟨#[]⟩)] fun b=>
 Ld d (Value.int .i64) fun l=>
 yX.call f l fun c m=>
 Ite m
  (Nn f fun g=>
  Ld g Sl.val fun o=>
  Idx o c 4 fun p=>
  LdN (p.add 1) 3 fun q=>
  StN b 3 q<|
  Dr<|
  Ld g Sl.val fun r=>
  LdN (d.add 1) 3 fun s=>
  Idx r c 4 fun t=>
  StN (t.add 1) 3 s<|
  LdN b 3 fun u=>
  StN b 3 u<|
  LdN b 3 fun v=>
  Q v true none none)
  (Nn f fun a=>
  Ld (a.add 1) Sl.val fun x=>
  Ite (decide ((x.n:Int) = 0))
   (Dr <| xW fun S=>
   LdS S a Sl.val fun y=>
   zBt S d 4 fun z=>
   Bld #[.int .i64 0,.int .i64 0,.int .u64 0,(.string ⟨#[]⟩)] (fun i=>some (i * 4,4)) [(0,.agg z)] fun aa=>
   New 227 aa fun ab=>
   Sv S<|
   zV.call y c (Sl.mk (some ab) 1 1) fun ac=>
   St a (Sl.val ac)<|
   zQ.s1 Q (some a) b false)
   (Dr<|
   Ld (a.add 1) Sl.val fun ad=>
   Idx ad c 1 fun ae=>
   Ld ae Value.pointer fun af=>
   LdN d 4 fun ag=>
   zQ.call af ag fun ah j k aj=>
   StN b 3 ah<|
   Ite (!(k).isNone)
    (Dr <| xW fun S=>
    Nn k fun ak=>
    LdS S a Sl.val fun al=>
    zBt S ak 4 fun am=>
    Bld #[.int .i64 0,.int .i64 0,.int .u64 0,(.string ⟨#[]⟩)] (fun i=>some (i * 4,4)) [(0,.agg am)] fun an=>
    New 227 an fun ao=>
    Sv S<|
    zV.call al c (Sl.mk (some ao) 1 1) fun ap=>
    St a (Sl.val ap)<|
    Ld (a.add 1) Sl.val fun aq=>
    Ar (IntKind.wrap .i64 (c + 1)) fun ar=>
    New 202 #[.pointer aj] fun au=>
    zi.call aq ar (Sl.mk (some au) 1 1) fun av=>
    St (a.add 1) (Sl.val av)<|
    zQ.s1 Q (some a) b j)
    (zQ.s1 Q (some a) b j)))
theorem zBY (i j Q w) (h:zQ i j Q w):zQ.call i j Q w:=by
 have:JH 22 fun D=>∃ b c d,D [(4,(.pointer (some b))),(7,(.pointer (some c))),(12,(.pointer (some d)))] (fun C=>∀ k,C [(4,(.pointer (some b))),(5,.bool k),(7,(.pointer (some c))),(12,(.pointer (some d)))] (zQ.s2 Q b k c d)):=⟨fun _ ⟨_,_,_,h⟩=>⟨_,_,h⟩⟩
 have:JH 14 fun D=>∃ f g,D [(0,.pointer f),(4,(.pointer (some g)))] (fun C=>∀ l,C [(0,.pointer f),(4,(.pointer (some g))),(5,.bool l)] (zQ.s1 Q f g l)):=⟨fun _ ⟨_,_,h⟩=>⟨_,_,h⟩⟩
 have:DH 10 1 [9] (.s [0,1,2,4,5,3,6,7,8] (.a [(9,0,.e)])):=⟨⟩
 have:DH 13 2 [8,11] (.s [0,1,2,3,5,4,6] (.a [(7,1,.a [(8,0,.s [9,10] (.a [(11,0,.e)]))])])):=⟨⟩
 have:DH 6 2 [10,13] (.s [0,1,2,3,5,6,7,4,8] (.a [(9,1,.a [(10,0,.s [11,12] (.a [(13,0,.e)]))])])):=⟨⟩
 have:DH 4 1 [8,14] (.s [0,1,2,4,3,5,6,7] (.a [(8,0,.s [9,10,11,12,13] (.a [(14,0,.s [15,16,17] .e)]))])):=⟨⟩
 exact zS 156 h Tryz.func130
def xP (d:Av) (f:Int) (Q:Int→K): K :=
 New 227 d fun a=>
 Ld a (Value.int .i64) fun b=>
 cmp_Compare_int.call b f fun c=>
 Q c
theorem zA1 (a b Q w) (h:xP a b Q w):xP.call a b Q w:=by
 exact zS 9 h Tryz.func144
instance:CB Tryz.prog 158:=⟨by kernel_rfl⟩
instance:CB Tryz.prog 160:=⟨by kernel_rfl⟩
instance:CB Tryz.prog 162:=⟨by kernel_rfl⟩
instance:CB Tryz.prog 163:=⟨by kernel_rfl⟩
instance:CB Tryz.prog 164:=⟨by kernel_rfl⟩
instance:CB Tryz.prog 165:=⟨by kernel_rfl⟩
instance:EXT Tryz.prog 157 (Extern.SlicesOverlaps.overlaps #[217,217] #[4]):=zTm Tryz.func157 (by kernel_rfl) (by kernel_rfl) (by kernel_rfl) (by kernel_rfl)
instance:EXT Tryz.prog 159 (Extern.SlicesOverlaps.overlaps #[218,218] #[4]):=zTm Tryz.func159 (by kernel_rfl) (by kernel_rfl) (by kernel_rfl) (by kernel_rfl)
instance:UN Tryz.prog 217 (.slice 227):=⟨Tryz.underlying217⟩
instance:UN Tryz.prog 218 (.slice 202):=⟨Tryz.underlying218⟩
def zA.s2 (Q:Int→Bool→K) (c:Int→Int→K) (a:Int) (b:Bool): K :=
 Q a b
def zA.b1 (Q:Int→Bool→K) (b:Int→Int→K) (i:Sl) (j:Int) (k:Value) (t a g:Int): K :=
 Ite (decide (a < g))
  (Ar (IntKind.wrap .i64 (a + g)) fun l=>
  Ar (IntKind.wrap .u64 l) fun m=>
  Cd (0 ≤ (1:Int))<|
  Ar (zBc .u64 m 1) fun n=>
  Ar (IntKind.wrap .i64 n) fun c=>
  Idx i c 4 fun o=>
  LdN o 4 fun p=>
  zAk Tryz.prog k [.agg p,.int .i64 j] <| qD (fun (d:Int)=>(Value.int .i64) d) fun d=>
  Ite (decide (d < 0))
   (Ar (IntKind.wrap .i64 (c + 1)) fun q=>
   b q g)
   (b a c))
  (Ite (decide (a < t))
   (Idx i a 4 fun r=>
   LdN r 4 fun s=>
   zAk Tryz.prog k [.agg s,.int .i64 j] <| qD (fun (f:Int)=>(Value.int .i64) f) fun f=>
   zA.s2 Q b a (decide (f = 0)))
   (zA.s2 Q b a false))
def zA (a:Sl) (d:Int) (f:Value) (Q:Int→Bool→K): K :=
 yM (α:=Int×Int) (fun X x=>zA.b1 Q (fun b c=>X (b,c)) a d f (a.n:Int) x.1 x.2) (0,(a.n:Int))
theorem yx (c d f Q w) (h:zA c d f Q w):zA.call c d f Q w:=by
 have:∀ g,XH 3 g→JH 1000008 fun D=>D [] (fun C=>∀ i j,C [(6,.int .i64 i),(7,.bool j)] (zA.s2 Q (fun a b=>g (a,b)) i j)):=by intros; exact ⟨fun _ h=>⟨_,_,h⟩⟩
 have:∀ k l m n,LH 3 (fun x:Int×Int=>[(0,Sl.val k),(1,.int .i64 l),(2,m),(8,.int .i64 n),(9,.int .i64 x.1),(10,.int .i64 x.2)]) (fun X x=>zA.b1 Q (fun a b=>X (a,b)) k l m n x.1 x.2):=fun _ _ _ _=>⟨⟩
 exact zS 49 h Tryz.func143
def zV (b:Sl) (f:Int) (d:Sl) (Q:Sl→K): K :=
 Slc b f (b.n:Int) (b.c:Int) 4 fun ae=>
 Ite (decide ((d.n:Int) = 0))
  (Q b)
  (Ite (decide (f = (b.n:Int)))
   (Do Tryz.prog (Builtin.append_ #[217,217] 217 #[Sl.val b,Sl.val d]) Sl.val fun i=>
   Q i)
   (Ar (IntKind.wrap .i64 ((b.n:Int) + (d.n:Int))) fun j=>
   Do Tryz.prog (Builtin.cap_ #[217] 3 #[Sl.val b]) (Value.int .i64) fun k=>
   Ite (decide (k < j))
    (Slc b 0 f (b.c:Int) 4 fun l=>
    Ar (IntKind.wrap .i64 ((b.n:Int) + (d.n:Int))) fun m=>
    Ar (IntKind.wrap .i64 (m - f)) fun o=>
    Do Tryz.prog (Builtin.append_ #[217,3] 217 #[Sl.val l,.int .i64 o]) Sl.val fun g=>
    Slc g f (g.n:Int) (g.c:Int) 4 fun p=>
    Do Tryz.prog (Builtin.copy_ #[217,217] 3 #[Sl.val p,Sl.val d]) (Value.int .i64) fun af=>
    Dr<|
    Ar (IntKind.wrap .i64 (f + (d.n:Int))) fun q=>
    Slc g q (g.n:Int) (g.c:Int) 4 fun r=>
    Slc b f (b.n:Int) (b.c:Int) 4 fun s=>
    Do Tryz.prog (Builtin.copy_ #[217,217] 3 #[Sl.val r,Sl.val s]) (Value.int .i64) fun ag=>
    Q g)
    (Ar (IntKind.wrap .i64 ((b.n:Int) + (d.n:Int))) fun t=>
    Slc b 0 t (b.c:Int) 4 fun a=>
    Ar (IntKind.wrap .i64 (f + (d.n:Int))) fun u=>
    Slc a u (a.n:Int) (a.c:Int) 4 fun v=>
    Rd Tryz.prog (Extern.SlicesOverlaps.overlaps #[217,217] #[4] [Sl.val d,Sl.val v].toArray) Value.bool fun x=>
    Ite (!x)
     (Dr<|
     Ar (IntKind.wrap .i64 (f + (d.n:Int))) fun y=>
     Slc a y (a.n:Int) (a.c:Int) 4 fun z=>
     Slc a f (a.n:Int) (a.c:Int) 4 fun aa=>
     Do Tryz.prog (Builtin.copy_ #[217,217] 3 #[Sl.val z,Sl.val aa]) (Value.int .i64) fun ah=>
     Slc a f (a.n:Int) (a.c:Int) 4 fun ab=>
     Do Tryz.prog (Builtin.copy_ #[217,217] 3 #[Sl.val ab,Sl.val d]) (Value.int .i64) fun aj=>
     Q a)
     (Slc a (b.n:Int) (a.n:Int) (a.c:Int) 4 fun ac=>
     Do Tryz.prog (Builtin.copy_ #[217,217] 3 #[Sl.val ac,Sl.val d]) (Value.int .i64) fun ak=>
     Slc a f (a.n:Int) (a.c:Int) 4 fun ad=>
     uH.call ad (d.n:Int)<|
     Q a))))
theorem vO (b c d Q w) (h:zV b c d Q w):zV.call b c d Q w:=by
 have:DH 11 0 [] (.s [0,1,2,3,4,5,6,7] (.a [(8,0,.e)])):=⟨⟩
 have:DH 15 0 [] (.s [0,1,2,3,4,5,6,7] (.a [(8,0,.e)])):=⟨⟩
 exact zS 95 h Tryz.func146
def zi (b:Sl) (f:Int) (d:Sl) (Q:Sl→K): K :=
 Slc b f (b.n:Int) (b.c:Int) 1 fun ae=>
 Ite (decide ((d.n:Int) = 0))
  (Q b)
  (Ite (decide (f = (b.n:Int)))
   (Do Tryz.prog (Builtin.append_ #[218,218] 218 #[Sl.val b,Sl.val d]) Sl.val fun i=>
   Q i)
   (Ar (IntKind.wrap .i64 ((b.n:Int) + (d.n:Int))) fun j=>
   Do Tryz.prog (Builtin.cap_ #[218] 3 #[Sl.val b]) (Value.int .i64) fun k=>
   Ite (decide (k < j))
    (Slc b 0 f (b.c:Int) 1 fun l=>
    Ar (IntKind.wrap .i64 ((b.n:Int) + (d.n:Int))) fun m=>
    Ar (IntKind.wrap .i64 (m - f)) fun o=>
    Do Tryz.prog (Builtin.append_ #[218,3] 218 #[Sl.val l,.int .i64 o]) Sl.val fun g=>
    Slc g f (g.n:Int) (g.c:Int) 1 fun p=>
    Do Tryz.prog (Builtin.copy_ #[218,218] 3 #[Sl.val p,Sl.val d]) (Value.int .i64) fun af=>
    Dr<|
    Ar (IntKind.wrap .i64 (f + (d.n:Int))) fun q=>
    Slc g q (g.n:Int) (g.c:Int) 1 fun r=>
    Slc b f (b.n:Int) (b.c:Int) 1 fun s=>
    Do Tryz.prog (Builtin.copy_ #[218,218] 3 #[Sl.val r,Sl.val s]) (Value.int .i64) fun ag=>
    Q g)
    (Ar (IntKind.wrap .i64 ((b.n:Int) + (d.n:Int))) fun t=>
    Slc b 0 t (b.c:Int) 1 fun a=>
    Ar (IntKind.wrap .i64 (f + (d.n:Int))) fun u=>
    Slc a u (a.n:Int) (a.c:Int) 1 fun v=>
    Rd Tryz.prog (Extern.SlicesOverlaps.overlaps #[218,218] #[4] [Sl.val d,Sl.val v].toArray) Value.bool fun x=>
    Ite (!x)
     (Dr<|
     Ar (IntKind.wrap .i64 (f + (d.n:Int))) fun y=>
     Slc a y (a.n:Int) (a.c:Int) 1 fun z=>
     Slc a f (a.n:Int) (a.c:Int) 1 fun aa=>
     Do Tryz.prog (Builtin.copy_ #[218,218] 3 #[Sl.val z,Sl.val aa]) (Value.int .i64) fun ah=>
     Slc a f (a.n:Int) (a.c:Int) 1 fun ab=>
     Do Tryz.prog (Builtin.copy_ #[218,218] 3 #[Sl.val ab,Sl.val d]) (Value.int .i64) fun aj=>
     Q a)
     (Slc a (b.n:Int) (a.n:Int) (a.c:Int) 1 fun ac=>
     Do Tryz.prog (Builtin.copy_ #[218,218] 3 #[Sl.val ac,Sl.val d]) (Value.int .i64) fun ak=>
     Slc a f (a.n:Int) (a.c:Int) 1 fun ad=>
     uI.call ad (d.n:Int)<|
     Q a))))
theorem vP (b c d Q w) (h:zi b c d Q w):zi.call b c d Q w:=by
 have:DH 11 0 [] (.s [0,1,2,3,4,5,6,7] (.a [(8,0,.e)])):=⟨⟩
 have:DH 15 0 [] (.s [0,1,2,3,4,5,6,7] (.a [(8,0,.e)])):=⟨⟩
 exact zS 95 h Tryz.func147
def zn (b:Sl) (Q:Sl→K): K :=
 Ite ((b).a.isNone)
  (Q (Sl.mk none 0 0))
  (New 227 #[] fun c=>
  Do Tryz.prog (Builtin.append_ #[217,217] 217 #[(Sl.val (Sl.mk (some c) 0 0)),Sl.val b]) Sl.val fun d=>
  Q d)
theorem vS (a Q w) (h:zn a Q w):zn.call a Q w:=by
 exact zS 8 h Tryz.func148
def zo (b:Sl) (Q:Sl→K): K :=
 Ite ((b).a.isNone)
  (Q (Sl.mk none 0 0))
  (New 202 #[] fun c=>
  Do Tryz.prog (Builtin.append_ #[218,218] 218 #[(Sl.val (Sl.mk (some c) 0 0)),Sl.val b]) Sl.val fun d=>
  Q d)
theorem vT (a Q w) (h:zo a Q w):zo.call a Q w:=by
 exact zS 8 h Tryz.func149
def uH (a:Sl) (c:Int) (Q:K): K :=
 Ar (IntKind.wrap .i64 ((a.n:Int) - c)) fun b=>
 uO.call a b<|
 Q
def uI (a:Sl) (c:Int) (Q:K): K :=
 Ar (IntKind.wrap .i64 ((a.n:Int) - c)) fun b=>
 uP.call a b<|
 Q
def uO (a:Sl) (b:Int) (Q:K): K :=
 Slc a 0 b (a.c:Int) 4 fun d=>
 zT.call d<|
 Slc a b (a.n:Int) (a.c:Int) 4 fun f=>
 zT.call f<|
 zT.call a<|
 Q
def uP (a:Sl) (b:Int) (Q:K): K :=
 Slc a 0 b (a.c:Int) 1 fun d=>
 zU.call d<|
 Slc a b (a.n:Int) (a.c:Int) 1 fun f=>
 zU.call f<|
 zU.call a<|
 Q
def zT.b1 (Q:K) (n:Int→Int→K) (a:Sl) (b c:Int): K :=
 Ite (decide (b < c))
  (Dr<|
  Idx a c 4 fun d=>
  Idx a b 4 fun f=>
  LdN d 4 fun g=>
  LdN f 4 fun i=>
  Idx a b 4 fun j=>
  StN j 4 g<|
  Idx a c 4 fun k=>
  StN k 4 i<|
  Ar (IntKind.wrap .i64 (b + 1)) fun l=>
  Ar (IntKind.wrap .i64 (c - 1)) fun m=>
  n l m)
  (Q)
def zT (a:Sl) (Q:K): K :=
 Ar (IntKind.wrap .i64 ((a.n:Int) - 1)) fun b=>
 yM (α:=Int×Int) (fun X x=>zT.b1 Q (fun c d=>X (c,d)) a x.1 x.2) (0,b)
def zU.b1 (Q:K) (n:Int→Int→K) (a:Sl) (b c:Int): K :=
 Ite (decide (b < c))
  (Dr<|
  Idx a c 1 fun d=>
  Idx a b 1 fun f=>
  Ld d Value.pointer fun g=>
  Ld f Value.pointer fun i=>
  Idx a b 1 fun j=>
  St j (.pointer g)<|
  Idx a c 1 fun k=>
  St k (.pointer i)<|
  Ar (IntKind.wrap .i64 (b + 1)) fun l=>
  Ar (IntKind.wrap .i64 (c - 1)) fun m=>
  n l m)
  (Q)
def zU (a:Sl) (Q:K): K :=
 Ar (IntKind.wrap .i64 ((a.n:Int) - 1)) fun b=>
 yM (α:=Int×Int) (fun X x=>zU.b1 Q (fun c d=>X (c,d)) a x.1 x.2) (0,b)
end
section
open Go Go.Sep
section
variable {B w:World} {Γ:List zB}
theorem zEm {s:Sl} {xs:List UInt8} {j:Nat} {x:UInt8} {k:Int→K} (hr:RdB w s xs) (hx:xs[j]? = some x) (hk:k (x.toNat:Int) w):Idx s (j:Int) 1 (fun t=>Ld t (Value.int .u8) k) w:=by
 have e:xs.map qy = (xs.map fun b=>(b.toNat:Int)).map (Value.int .u8):=by rw [List.map_map]; rfl
 have hr2:RdC w s 1 ((xs.map fun b=>(b.toNat:Int)).map (Value.int .u8)):=by rw [← e]; exact hr
 exact zFZ hr2 (by rw [List.getElem?_map,hx]; rfl) hk
theorem zF9 {w:World} {s:Sl} {xs:List UInt8} (h:RdB w s xs) (hx:xs ≠ []):∀ a,s.a = some a→a.spot = none:=by
 intro a ha
 have h1:=h.at' a ha 0 (by have:=List.length_pos_iff.2 hx; simpa using this)
 have e:a.add 0 = a:=by simp [Addr.add]
 rw [e] at h1
 unfold World.cell? at h1
 cases hs:a.spot with
 | none=>rfl
 | some y=>
  exfalso
  have h2:(xs.map qy)[0]? ≠ none:=by
   cases xs with
   | nil=>exact absurd rfl hx
   | cons x xs=>simp
  split at h1
  ·simp only [hs,Option.isSome_some,if_true] at h1
   exact h2 h1.symm
  ·exact h2 h1.symm
theorem zA2 {g x:Sl} {xs ys:List UInt8} {k:Sl→K} (h:Holds B (Bytes zF g xs::Γ) w) (hy:RdB w x ys) (hroom:xs.length + ys.length ≤ 1000000000)
  (hk:∀ s w,Holds B (Bytes zF s (xs++ys)::Γ) w→s.n = xs.length + ys.length→(g.a.isSome = true→s.a.isSome = true)→k s w) :
  Do Tryz.prog (Builtin.append_ #[zL,zL] zL #[g.val,x.val]) Sl.val k w:=by
 have h1:xs.length = g.n:=by have:=h.zAm.1; simpa using this
 have h2:ys.length = x.n:=by have:=hy.len; simpa using this
 refine zA7 h (by kernel_rfl) (by kernel_rfl) (by':=1) (by kernel_rfl) zBh rfl hy (zCX _) (by omega) (by decide) fun s' w h hn ha=>hk s' w ?_ (by omega) ha
 have e:xs.map qy++ys.map qy = (xs++ys).map qy:=by simp
 rw [e] at h
 exact h
theorem vL {b n:Nat} {cs:Array Value} {xs:List UInt8} (hc:cs.toList = xs.map qy) (hn:xs.length = n) (h:Holds B (blk b (.cells cs zF (0,0))::Γ) w):Holds B (Bytes zF ⟨some ⟨b,0,none⟩,n,n⟩ xs::Γ) w :=
 h.imp (zA0 hc (by simp [hn]))
theorem Bytes.len {s:Sl} {xs:List UInt8} (h:Holds B (Bytes zF s xs::Γ) w):xs.length = s.n:=by have:=h.zAm.1; simpa using this
theorem Bytes.rd {s:Sl} {xs:List UInt8} (h:Holds B Γ w) (hm:Bytes zF s xs ∈ Γ):RdB w s xs:=h.rdC (E:=zF) hm
theorem zYS {S:World→Prop} {s:Sl} {xs:List UInt8} {src dst:TypeId} {k:ByteArray→K} (hT:zWE Tryz.prog src dst = true) (hr:∀ w,S w→RdB w s xs) (hk:k (ByteArray.mk xs.toArray) w) :
  RdS Tryz.prog S (convert src dst s.val) Value.string k w:=by
 refine ⟨ByteArray.mk xs.toArray,fun w h=>?_,hk⟩
 obtain ⟨y,h1,h2⟩:=zML (k:=fun y _=>y = ByteArray.mk xs.toArray) hT (hr w h) rfl
 rw [h1,h2]
theorem zKq {w:World} {s:Sl} {d:List UInt8} {n c:Nat} (h:RdB w s d) (hn:n ≤ s.n):RdB w ⟨s.a,n,c⟩ (d.take n):=by
 have h1:=h.take (m:=n) (c:=c) hn
 show RdC w _ 1 ((d.take n).map qy)
 rw [List.map_take]
 simpa using h1
end
end
section
open Go Go.Sep
theorem ofInt32 (x:BitVec 32):BitVec.ofInt (IntKind.bits .u32) (x.toNat:Int) = x:=by
 show BitVec.ofInt 32 (x.toNat:Int) = x
 rw [BitVec.ofInt_natCast,BitVec.ofNat_toNat,BitVec.setWidth_eq]
theorem zRp (x:BitVec 32):IntKind.wrap .u32 (x.toNat:Int) = x.toNat:=zJv (by omega) (by have:=x.isLt; omega)
theorem zUb (x y:BitVec 32):bitsOf .xor .u32 (x.toNat:Int) (y.toNat:Int) = ((x ^^^ y).toNat:Int):=by
 unfold bitsOf
 simp only [ofInt32]
 exact zRp _
theorem zZp (x y:BitVec 32):bitsOf .and .u32 (x.toNat:Int) (y.toNat:Int) = ((x &&& y).toNat:Int):=by
 unfold bitsOf
 simp only [ofInt32]
 exact zRp _
theorem zPH (x:BitVec 32) (n:Nat) (hn:n < 32):zBc .u32 (x.toNat:Int) (n:Int) = ((x >>> n).toNat:Int):=by
 unfold zBc
 have:min ((n:Int).toNat) (IntKind.bits .u32) = n:=by simp [IntKind.bits]; omega
 rw [this,BitVec.toNat_ushiftRight,Nat.shiftRight_eq_div_pow,Int.fdiv_eq_ediv_of_nonneg _ (Int.le_of_lt (Int.pow_pos (by decide))),Int.natCast_ediv,Int.natCast_pow]
 rfl
def zIi (s:BitVec 32):BitVec 32:=if s &&& 1 = 1 then (s >>> 1) ^^^ 2197175160#32 else s >>> 1
def zIj:Nat→BitVec 32→BitVec 32
 | 0,s=>s
 | n + 1,s=>zIj n (zIi s)
theorem zMU:∀ (n:Nat) (s:BitVec 32),zIj (n + 1) s = zIi (zIj n s)
 | 0,s=>rfl
 | n + 1,s=>by rw [zIj,zMU n]; rfl
def zKC (s:BitVec 32) (b:UInt8):BitVec 32:=zIj 8 (s ^^^ b.toBitVec.setWidth 32)
def zEn (xs:List UInt8):BitVec 32:=xs.foldl zKC 4294967295#32
def zKr (xs:List UInt8):BitVec 32:=4294967295#32 ^^^ zEn xs
section
variable {B w:World} {Γ:List zB}
theorem zWP (x:UInt8):IntKind.wrap .u32 (x.toNat:Int) = ((x.toBitVec.setWidth 32).toNat:Int):=by
 have:=x.toNat_lt
 rw [zJv (by omega) (by omega),BitVec.toNat_setWidth]
 have e:x.toBitVec.toNat = x.toNat:=rfl
 rw [e,Nat.mod_eq_of_lt (by omega)]
theorem zLn {s:Sl} {xs:List UInt8} {k:Int→K} (hl:xs.length ≤ 1000000000) (h:Holds B Γ w) (hr:∀ w,Holds B Γ w→RdB w s xs) (hk:∀ w,Holds B Γ w→k ((zKr xs).toNat:Int) w):jD.call s k w:=by
 have hn:xs.length = s.n:=by have:=(hr w h).len; simpa using this
 refine zPE _ _ _ ?_
 unfold jD
 refine yM.of (fun t w=>∃ j:Nat,t = (((zEn (xs.take j)).toNat:Int),(j:Int))∧j ≤ xs.length∧Holds B Γ w) (fun t _=>((s.n:Int) - t.2).toNat) ⟨0,rfl,by omega,h⟩ ?_
 clear h
 rintro t w ⟨j,rfl,hj,h⟩
 dsimp only
 unfold jD.b1
 refine yJ (fun hb=>?_) (fun hb=>?_)
 ·simp only [decide_eq_true_eq] at hb
  have hjl:j < xs.length:=by omega
  have hx:xs[j]? = some xs[j]:=List.getElem?_eq_getElem hjl
  generalize hX:xs[j] = x at hx
  refine zEm (hr w h) hx ?_
  refine qP (zWP x) ?_
  refine qP (zUb _ _) ?_
  refine yM.of (fun t w=>∃ i:Nat,t = (((zIj i (zEn (xs.take j) ^^^ x.toBitVec.setWidth 32)).toNat:Int),(i:Int))∧i ≤ 8∧Holds B Γ w) (fun t _=>((8:Int) - t.2).toNat) ⟨0,rfl,by omega,h⟩ ?_
  clear h
  rintro t w ⟨i,rfl,hi,h⟩
  dsimp only
  unfold jD.b2
  refine yJ (fun hb2=>?_) (fun hb2=>?_)
  ·simp only [decide_eq_true_eq] at hb2
   have hS:=zMU i (zEn (xs.take j) ^^^ x.toBitVec.setWidth 32)
   have key:∀ w,Holds B Γ w→(fun (t:Int×Int) w=>∃ i:Nat,t = (((zIj i (zEn (xs.take j) ^^^ x.toBitVec.setWidth 32)).toNat:Int),(i:Int))∧i ≤ 8∧Holds B Γ w) (((zIi (zIj i (zEn (xs.take j) ^^^ x.toBitVec.setWidth 32))).toNat:Int),((i:Int) + 1)) w:=fun w h=>by
    refine ⟨i + 1,?_,by omega,h⟩
    rw [hS]
    simp
   clear hS
   generalize zIj i (zEn (xs.take j) ^^^ x.toBitVec.setWidth 32) = S at key
   refine qP (zZp S 1#32) ?_
   refine zDz (by decide) ?_
   refine qP (zPH S 1 (by decide)) ?_
   have e1:((S &&& 1#32).toNat:Int) = 1 ↔ S &&& 1 = 1:=by
    constructor
    ·intro h1
     apply BitVec.eq_of_toNat_eq
     have:(S &&& 1#32).toNat = 1:=by omega
     exact this
    ·intro h1
     have:(S &&& 1#32).toNat = 1:=by rw [show S &&& 1#32 = 1 from h1]; rfl
     omega
   refine yJ (fun hb3=>?_) (fun hb3=>?_)
   ·simp only [decide_eq_true_eq] at hb3
    refine qP (zUb (S >>> 1) 2197175160#32) ?_
    unfold jD.s3
    refine xq (by omega) (by omega) ?_
    have e2:zIi S = (S >>> 1) ^^^ 2197175160#32:=by unfold zIi; rw [if_pos (e1.1 hb3)]
    rw [← e2]
    exact ⟨key _ h,by omega⟩
   ·simp only [decide_eq_false_iff_not] at hb3
    unfold jD.s3
    refine xq (by omega) (by omega) ?_
    have e2:zIi S = S >>> 1:=by unfold zIi; rw [if_neg (fun h2=>hb3 (e1.2 h2))]
    rw [← e2]
    exact ⟨key _ h,by omega⟩
  ·simp only [decide_eq_false_iff_not] at hb2
   have hi8:i = 8:=by omega
   subst hi8
   refine xq (by omega) (by omega) ?_
   refine ⟨⟨j + 1,?_,by omega,h⟩,by omega⟩
   have e:zEn (xs.take (j + 1)) = zIj 8 (zEn (xs.take j) ^^^ x.toBitVec.setWidth 32):=by
    rw [List.take_succ_eq_append_getElem hjl,hX]
    unfold zEn
    rw [List.foldl_append]
    rfl
   rw [e]
   simp
 ·simp only [decide_eq_false_iff_not] at hb
  have hj2:j = xs.length:=by omega
  subst hj2
  refine qP (zUb 4294967295#32 _) ?_
  rw [List.take_length]
  exact hk _ h
end
end
section
open Go Go.Sep
def u8 (n:Nat):UInt8:=UInt8.ofNat n
theorem u8N (n:Nat):(u8 n).toNat = n % 256:=by simp [u8,UInt8.toNat_ofNat']
theorem zCB (n:Nat):IntKind.wrap .u8 (n:Int) = ((u8 n).toNat:Int):=by
 rw [u8N]
 unfold IntKind.wrap
 simp [IntKind.bits,IntKind.signed]
theorem zXS (n:Nat) (k:Nat) (hk:k < 64):zBc .i64 (n:Int) (k:Int) = ((n / 2 ^ k:Nat):Int):=by
 unfold zBc
 have:min ((k:Int).toNat) (IntKind.bits .i64) = k:=by simp [IntKind.bits]; omega
 rw [this,Int.fdiv_eq_ediv_of_nonneg _ (Int.le_of_lt (Int.pow_pos (by decide))),Int.natCast_ediv,Int.natCast_pow]
 rfl
end
section
open Go Go.Sep
def hd2 (n:Nat):List UInt8:=[u8 (n / 256),u8 n]
def zE6 (b:List UInt8):BitVec 32:=zKr (hd2 b.length++b)
def hd6 (b:List UInt8):List UInt8:=hd2 b.length++[u8 (zE6 b).toNat,u8 ((zE6 b >>> 8).toNat),u8 ((zE6 b >>> 16).toNat),u8 ((zE6 b >>> 24).toNat)]
def yP (b:List UInt8):List UInt8:=hd6 b++b
theorem zRq (b:List UInt8):(hd6 b).length = 6:=rfl
theorem qV (b:List UInt8):(yP b).length = 6 + b.length:=by simp [yP,zRq]
section
variable {B w:World} {Γ:List zB}
theorem zIk {s:Sl} {b:List UInt8} {k:Int→K} (hl:b.length ≤ 100000000) (h:Holds B Γ w) (hr:∀ w,Holds B Γ w→RdB w s b) (hk:∀ w,Holds B Γ w→k ((zE6 b).toNat:Int) w):zB0.call s k w:=by
 have hn:b.length = s.n:=by have:=(hr w h).len; simpa using this
 refine zKo _ _ _ ?_
 unfold zB0
 refine zDz (by decide) ?_
 rw [← hn]
 refine qP (zXS _ 8 (by decide)) ?_
 refine qP (zCB _) ?_
 refine qP (zCB _) ?_
 refine xE h ?_
 clear h
 intro t10 w h
 try simp only [zR,Nat.zero_add,Nat.reduceAdd]
 replace h:=vL (xs:=hd2 b.length) (n:=2) (by rfl) rfl h
 refine zA2 h (hr _ h.tail) (by simp [hd2]; omega) fun t12 w h _ _=>?_
 refine zLn (by simp [hd2]; omega) h (fun w h=>Bytes.rd h List.mem_cons_self) fun w h=>?_
 exact hk _ h.tail
theorem zBr {s:Sl} {b:List UInt8} {k:Sl→Int→K} (hl:b.length ≤ 4096) (h:Holds B Γ w) (hr:∀ w,Holds B Γ w→RdB w s b) (hk:∀ f w,Holds B (Bytes zF f (yP b)::Γ) w→k f 0 w):zAz.call s k w:=by
 have hn:b.length = s.n:=by have:=(hr w h).len; simpa using this
 refine zLk _ _ _ ?_
 unfold zAz
 refine yH (by simp only [decide_eq_false_iff_not]; omega) ?_
 refine zIk (by omega) h hr fun w h=>?_
 refine zDz (by decide) ?_
 rw [← hn]
 refine qP (zXS _ 8 (by decide)) ?_
 refine qP (zCB _) ?_
 refine qP (zCB _) ?_
 refine qP (zCB _) ?_
 refine zDz (by decide) ?_
 refine qP (zPH _ 8 (by decide)) ?_
 refine qP (zCB _) ?_
 refine zDz (by decide) ?_
 refine qP (zPH _ 16 (by decide)) ?_
 refine qP (zCB _) ?_
 refine zDz (by decide) ?_
 refine qP (zPH _ 24 (by decide)) ?_
 refine qP (zCB _) ?_
 refine xE h ?_
 clear h
 intro t29 w h
 try simp only [zR,Nat.zero_add,Nat.reduceAdd]
 replace h:=vL (xs:=hd6 b) (n:=6) (by rfl) rfl h
 refine zA2 h (hr _ h.tail) (by rw [zRq]; omega) fun t32 w h _ _=>?_
 exact hk _ _ h
theorem zDk {a b:Sl} {xs ys:List UInt8} {k:Bool→K} (hl:xs.length ≤ 1000000000) (h:Holds B Γ w) (hx:∀ w,Holds B Γ w→RdB w a xs) (hy:∀ w,Holds B Γ w→RdB w b ys)
  (hk:∀ w,Holds B Γ w→k (decide (xs = ys)) w):y9.call a b k w:=by
 have hn:xs.length = a.n:=by have:=(hx w h).len; simpa using this
 have hm:ys.length = b.n:=by have:=(hy w h).len; simpa using this
 refine zC4 _ _ _ _ ?_
 unfold y9
 refine yJ (fun hb=>?_) (fun hb=>?_)
 ·simp only [decide_eq_true_eq] at hb
  have:=hk w h
  rw [decide_eq_false (fun e=>hb (by rw [e] at hn; omega))] at this
  exact this
 simp only [decide_eq_false_iff_not] at hb
 refine yM.of (fun t w=>∃ j:Nat,t = (j:Int)∧j ≤ xs.length∧xs.take j = ys.take j∧Holds B Γ w) (fun t _=>((a.n:Int) - t).toNat) ⟨0,rfl,by omega,rfl,h⟩ ?_
 clear h
 rintro t w ⟨j,rfl,hj,he,h⟩
 unfold y9.b1
 refine yJ (fun hb2=>?_) (fun hb2=>?_)
 ·simp only [decide_eq_true_eq] at hb2
  refine zB8 h ?_
  clear h
  intro w h
  have hxj:xs[j]? = some xs[j]:=List.getElem?_eq_getElem (by omega)
  have hyj:ys[j]? = some ys[j]:=List.getElem?_eq_getElem (by omega)
  generalize hX:xs[j] = x at hxj
  generalize hY:ys[j] = y at hyj
  refine zEm (hx w h) hxj ?_
  refine zEm (hy w h) hyj ?_
  refine yJ (fun hne=>?_) (fun hne=>?_)
  ·simp only [decide_eq_true_eq] at hne
   have h1:xs ≠ ys:=fun e=>by
    subst e
    rw [hxj] at hyj
    cases hyj
    exact hne rfl
   have:=hk w h
   rw [decide_eq_false h1] at this
   exact this
  ·simp only [decide_eq_false_iff_not,Decidable.not_not] at hne
   have hxy:x = y:=UInt8.toNat_inj.1 (by omega)
   refine xq (by omega) (by omega) ?_
   refine ⟨⟨j + 1,by omega,by omega,?_,h⟩,by omega⟩
   rw [List.take_succ_eq_append_getElem (by omega:j < xs.length),List.take_succ_eq_append_getElem (by omega:j < ys.length),he,hX,hY,hxy]
 ·simp only [decide_eq_false_iff_not] at hb2
  have h1:xs = ys:=by
   rw [List.take_of_length_le (by omega),List.take_of_length_le (by omega)] at he
   exact he
  have:=hk w h
  rw [decide_eq_true h1] at this
  exact this
end
end
section
open Go Go.Sep
section
variable {B w:World} {Γ:List zB}
def zP (d:List UInt8):List UInt8×Nat×Nat :=
 if d.length < 6 then ([],0,30)
 else
  let n:=256 * (d.getD 0 0).toNat + (d.getD 1 0).toNat
  if 4096 < n then ([],0,31)
  else if d.length - 6 < n then ([],0,30)
  else if yP ((d.drop 6).take n) = d.take (6 + n) then ((d.drop 6).take n,6 + n,0) else ([],0,33)
theorem zbB (x:Nat) (hx:x < 256):zFO .i64 (x:Int) 8 = ((x * 256:Nat):Int):=by
 unfold zFO
 have:min ((8:Int).toNat) (IntKind.bits .i64) = 8:=rfl
 rw [this]
 rw [wrap64 (by omega) (by omega)]
 omega
theorem zbC (x y:Nat) (hx:x < 256) (hy:y < 256):bitsOf .or .i64 ((x * 256:Nat):Int) (y:Int) = ((256 * x + y:Nat):Int):=by
 unfold bitsOf
 simp only
 have h1:(BitVec.ofInt (IntKind.bits .i64) ((x * 256:Nat):Int) ||| BitVec.ofInt (IntKind.bits .i64) (y:Int)).toNat = 256 * x + y:=by
  show (BitVec.ofInt 64 ((x * 256:Nat):Int) ||| BitVec.ofInt 64 (y:Int)).toNat = _
  rw [BitVec.toNat_or,BitVec.ofInt_natCast,BitVec.ofInt_natCast,BitVec.toNat_ofNat,BitVec.toNat_ofNat,Nat.mod_eq_of_lt (by omega),Nat.mod_eq_of_lt (by omega)]
  have h4:=Nat.two_pow_add_eq_or_of_lt (i:=8) (b:=y) (by omega) x
  have h5:2 ^ 8 * x = x * 256:=by omega
  rw [h5] at h4
  omega
 rw [h1,wrap64 (by omega) (by omega)]
theorem zCC {s:Sl} {d:List UInt8} {k:Sl→Int→Int→K} (hl:d.length ≤ 100000000) (h:Holds B Γ w) (hr:∀ w,Holds B Γ w→RdB w s d) (hcap:s.n ≤ s.c)
  (hk:∀ f w,Holds B (Bytes zF f (zP d).1::Γ) w→k f ((zP d).2.1:Int) ((zP d).2.2:Int) w):zAc.call s k w:=by
 have hn:d.length = s.n:=by have:=(hr w h).len; simpa using this
 refine zJc _ _ _ ?_
 unfold zAc
 unfold zP at hk
 refine yJ (fun hb=>?_) (fun hb=>?_)
 ·simp only [decide_eq_true_eq] at hb
  rw [if_pos (by omega)] at hk
  exact hk _ _ (h.zAv _ _)
 simp only [decide_eq_false_iff_not] at hb
 rw [if_neg (by omega)] at hk
 have hsp:=zF9 (hr w h) (fun e=>by rw [e] at hn; simp at hn; omega)
 refine zB8 h ?_
 clear h
 intro w h
 have h0:d[0]? = some (d.getD 0 0):=by
  have:0 < d.length:=by omega
  simp [List.getD,List.getElem?_eq_getElem this]
 have h1:d[1]? = some (d.getD 1 0):=by
  have:1 < d.length:=by omega
  simp [List.getD,List.getElem?_eq_getElem this]
 have hx:=(d.getD 0 0).toNat_lt
 have hy:=(d.getD 1 0).toNat_lt
 generalize d.getD 0 0 = x at h0 hx hk
 generalize d.getD 1 0 = y at h1 hy hk
 refine zEm (j:=0) (hr w h) h0 ?_
 refine qP (wrap64 (by omega) (by omega)) ?_
 refine zDz (by decide) ?_
 refine qP (zbB _ (by omega)) ?_
 refine zEm (j:=1) (hr w h) h1 ?_
 refine qP (wrap64 (by omega) (by omega)) ?_
 refine qP (zbC _ _ (by omega) (by omega)) ?_
 generalize 256 * x.toNat + y.toNat = n at hk
 simp only at hk
 refine yJ (fun hb2=>?_) (fun hb2=>?_)
 ·simp only [decide_eq_true_eq] at hb2
  rw [if_pos (by omega)] at hk
  exact hk _ _ (h.zAv _ _)
 simp only [decide_eq_false_iff_not] at hb2
 rw [if_neg (by omega)] at hk
 refine qP (wrap64 (by omega) (by omega)) ?_
 refine yJ (fun hb3=>?_) (fun hb3=>?_)
 ·simp only [decide_eq_true_eq] at hb3
  rw [if_pos (by omega)] at hk
  exact hk _ _ (h.zAv _ _)
 simp only [decide_eq_false_iff_not] at hb3
 rw [if_neg (by omega)] at hk
 have e6:(6:Int) + (n:Int) = ((6 + n:Nat):Int):=by omega
 refine qP (e':=((6 + n:Nat):Int)) (by rw [wrap64 (by omega) (by omega)]; omega) ?_
 refine ⟨_,by omega,by omega,by omega,by omega,rfl,?_⟩
 simp only [Int.toNat_natCast,show (6:Int).toNat = 6 from rfl]
 have hd6:∀ w,Holds B Γ w→RdB w ⟨zAB s.a 6 s.c 1,6 + n - 6,s.c - 6⟩ ((d.drop 6).take n):=fun w h=>by
  have h1:=(hr w h).drop (l:=6) (c:=s.c) (by omega) hcap hsp
  have h2:=h1.take (m:=n) (c:=s.c - 6) (by simp only; omega)
  have e:6 + n - 6 = n:=by omega
  rw [e]
  show RdC w _ 1 (((d.drop 6).take n).map qy)
  rw [List.map_take,List.map_drop]
  simpa using h2
 have hdl:((d.drop 6).take n).length = n:=by simp; omega
 refine zBr (b:=(d.drop 6).take n) (by omega) h hd6 fun f w h=>?_
 refine qP (e':=((6 + n:Nat):Int)) (by rw [wrap64 (by omega) (by omega)]; omega) ?_
 refine ⟨_,by omega,by omega,by omega,by omega,rfl,?_⟩
 simp only [Int.toNat_natCast,show (0:Int).toNat = 0 from rfl,zKc hsp,Nat.sub_zero]
 have hfl:=qV ((d.drop 6).take n)
 refine zDk (xs:=yP ((d.drop 6).take n)) (ys:=d.take (6 + n)) (by omega) h (fun w h=>Bytes.rd h List.mem_cons_self) (fun w h=>by
  have h1:=(hr w h.tail).take (m:=6 + n) (c:=s.c) (by omega)
  show RdC w _ 1 ((d.take (6 + n)).map qy)
  rw [List.map_take]
  simpa using h1) fun w h=>?_
 by_cases he:yP ((d.drop 6).take n) = d.take (6 + n)
 ·rw [if_pos he] at hk
  rw [decide_eq_true he]
  refine yH rfl ?_
  have hfn:=Bytes.len h
  have hfc:=h.zAm
  refine ⟨_,by omega,by omega,by omega,by omega,rfl,?_⟩
  simp only [Int.toNat_natCast,show (6:Int).toNat = 6 from rfl]
  have h2:=h.imp (SlC.zZd (l:=6) (by omega))
  have e2:((yP ((d.drop 6).take n)).map qy).drop (6 * 1) = ((d.drop 6).take n).map qy:=by
   rw [← List.map_drop]
   congr 1
  rw [e2] at h2
  have e3:f.n = 6 + n:=by omega
  have:=hk _ _ h2
  rw [e3] at this ⊢
  exact this
 ·rw [if_neg he] at hk
  rw [decide_eq_false he]
  refine qO rfl ?_
  exact hk _ _ (h.tail.zAv _ _)
end
theorem zAi {b:List UInt8} (rest:List UInt8) (hb:b.length ≤ 4096):zP (yP b++rest) = (b,6 + b.length,0):=by
 have hl:(yP b++rest).length = 6 + b.length + rest.length:=by rw [List.length_append,qV]
 have h0:(yP b++rest).getD 0 0 = u8 (b.length / 256):=rfl
 have h1:(yP b++rest).getD 1 0 = u8 b.length:=rfl
 have hd:(yP b++rest).drop 6 = b++rest:=rfl
 have ht:(yP b++rest).take (6 + b.length) = yP b:=by rw [List.take_append_of_le_length (by rw [qV]; omega),List.take_of_length_le (by rw [qV]; omega)]
 have hn:256 * (u8 (b.length / 256)).toNat + (u8 b.length).toNat = b.length:=by rw [u8N,u8N]; omega
 unfold zP
 rw [if_neg (by omega),h0,h1]
 simp only [hn]
 rw [if_neg (by omega),if_neg (by omega),hd,ht,List.take_append_of_le_length (Nat.le_refl _),List.take_length,if_pos rfl]
structure zYT (d:List UInt8):Prop where
 le:(zP d).2.1 ≤ d.length
 ok:(zP d).2.2 = 0→6 ≤ (zP d).2.1∧(zP d).1.length + 6 = (zP d).2.1∧d = yP (zP d).1++d.drop (zP d).2.1
 no:(zP d).2.2 ≠ 0→(zP d).1 = []∧(zP d).2.1 = 0
 small:(zP d).1.length ≤ 4096
 err:(zP d).2.2 ≤ 33
theorem zJg (d:List UInt8):zYT d:=by
 by_cases h1:d.length < 6
 ·have e:zP d = ([],0,30):=by unfold zP; rw [if_pos h1]
  constructor <;> simp [e]
 by_cases h2:4096 < 256 * (d.getD 0 0).toNat + (d.getD 1 0).toNat
 ·have e:zP d = ([],0,31):=by unfold zP; rw [if_neg h1]; simp only; rw [if_pos h2]
  constructor <;> simp [e]
 by_cases h3:d.length - 6 < 256 * (d.getD 0 0).toNat + (d.getD 1 0).toNat
 ·have e:zP d = ([],0,30):=by unfold zP; rw [if_neg h1]; simp only; rw [if_neg h2,if_pos h3]
  constructor <;> simp [e]
 obtain ⟨n,hn⟩:∃ n,n = 256 * (d.getD 0 0).toNat + (d.getD 1 0).toNat:=⟨_,rfl⟩
 by_cases h4:yP ((d.drop 6).take n) = d.take (6 + n)
 ·have e:zP d = ((d.drop 6).take n,6 + n,0):=by unfold zP; rw [if_neg h1]; simp only; rw [← hn,if_neg (by omega),if_neg (by omega),if_pos h4]
  constructor
  ·rw [e]; simp only; omega
  ·intro _
   rw [e]
   refine ⟨by simp only; omega,by simp; omega,?_⟩
   simp only
   rw [h4,List.take_append_drop]
  ·intro h; rw [e] at h; exact absurd rfl h
  ·rw [e]; simp; omega
  ·rw [e]; simp
 ·have e:zP d = ([],0,33):=by unfold zP; rw [if_neg h1]; simp only; rw [← hn,if_neg (by omega),if_neg (by omega),if_neg h4]
  constructor <;> simp [e]
theorem zYT.all {d:List UInt8}:zYT d:=zJg d
theorem zMV {x y r s:List UInt8} (hx:x.length ≤ 4096) (hy:y.length ≤ 4096) (h:yP x++r = yP y++s):x = y∧r = s:=by
 have h1:=zAi r hx
 rw [h,zAi s hy] at h1
 have h2:x = y:=(congrArg Prod.fst h1).symm
 subst h2
 exact ⟨rfl,List.append_cancel_left h⟩
section
variable {B w:World} {Γ:List zB}
theorem zFg {w:World} {s:Sl} {d:List UInt8} {i:Nat} (h:RdB w s d) (hi:i ≤ s.n) (hcap:s.n ≤ s.c) (hsp:∀ a,s.a = some a→a.spot = none):RdB w ⟨zAB s.a i s.c 1,s.n - i,s.c - i⟩ (d.drop i):=by
 have h2:=h.drop (l:=i) (c:=s.c) hi hcap hsp
 simp only [Nat.mul_one] at h2
 show RdC w _ 1 ((d.drop i).map qy)
 rw [List.map_drop]
 exact h2
end
end
section
open Go Go.Sep
def vM (n:Nat):List UInt8:=if h:n < 128 then [u8 n] else u8 (n % 128 + 128)::vM (n / 128)
termination_by n
decreasing_by omega
theorem u7 {n:Nat} (h:n < 128):vM n = [u8 n]:=by rw [vM,dif_pos h]
theorem zAt {n:Nat} (h:¬ n < 128):vM n = u8 (n % 128 + 128)::vM (n / 128):=by rw [vM,dif_neg h]
theorem xO:∀ (k n:Nat),n < 128 ^ (k + 1)→(vM n).length ≤ k + 1
 | 0,n,h=>by rw [u7 (by omega)]; simp
 | k + 1,n,h=>by
  by_cases hn:n < 128
  ·rw [u7 hn]; simp
  ·rw [zAt hn]
   have:n / 128 < 128 ^ (k + 1):=Nat.div_lt_of_lt_mul (by rw [Nat.pow_succ] at h; omega)
   have:=xO k _ this
   simp only [List.length_cons]; omega
theorem zXT (n:Nat):bitsOf .or .u8 (IntKind.wrap .u8 (n:Int)) 128 = ((u8 (n % 128 + 128)).toNat:Int):=by
 rw [zCB]
 unfold bitsOf
 simp only
 have key:∀ x:BitVec 8,(x ||| 128#8).toNat = x.toNat % 128 + 128:=by decide
 have h2:(BitVec.ofInt (IntKind.bits .u8) ((u8 n).toNat:Int) ||| BitVec.ofInt (IntKind.bits .u8) 128).toNat = (BitVec.ofInt (IntKind.bits .u8) ((u8 n).toNat:Int)).toNat % 128 + 128:=key (BitVec.ofInt 8 ((u8 n).toNat:Int))
 have h3:(BitVec.ofInt (IntKind.bits .u8) ((u8 n).toNat:Int)).toNat = (u8 n).toNat:=by
  show (BitVec.ofInt 8 ((u8 n).toNat:Int)).toNat = _
  rw [BitVec.ofInt_natCast,BitVec.toNat_ofNat,Nat.mod_eq_of_lt (by have:=(u8 n).toNat_lt; omega)]
 rw [h2,h3,zCB]
 simp only [u8N]
 omega
theorem zUc (n:Nat) (k:Nat) (hk:k < 64):zBc .u64 (n:Int) (k:Int) = ((n / 2 ^ k:Nat):Int):=by
 unfold zBc
 have:min ((k:Int).toNat) (IntKind.bits .u64) = k:=by simp [IntKind.bits]; omega
 rw [this,Int.fdiv_eq_ediv_of_nonneg _ (Int.le_of_lt (Int.pow_pos (by decide))),Int.natCast_ediv,Int.natCast_pow]
 rfl
end
section
open Go Go.Sep
section
variable {B w:World} {Γ:List zB}
theorem uX {b:Sl} {xs:List UInt8} {k:Sl→K} (h:Holds B Γ w) (hr:∀ w,Holds B Γ w→RdB w b xs) (hl:xs.length ≤ 1000000000)
  (hk:∀ s w,Holds B (Bytes zF s xs::Γ) w→s.a.isNone = b.a.isNone→k s w):yw.call b k w:=by
 refine zC2 _ _ _ ?_
 unfold yw
 refine yJ (fun hb=>?_) (fun hb=>?_)
 ·have hx:xs = []:=by
   have h1:=(hr w h).nil (by simpa using hb)
   have h2:=(hr w h).len
   rw [h1] at h2; simpa using h2
  subst hx
  exact hk _ _ (h.zAv _ _) (by rw [hb]; rfl)
 ·refine xE h ?_
  clear h
  intro t w h
  try simp only [zR,Nat.zero_add,Nat.reduceAdd]
  replace h:=vL (xs:=[]) (n:=0) (by rfl) rfl h
  refine zA2 h (hr w h.tail) (by simp; omega) fun s w h hs ha=>?_
  refine hk s w h ?_
  rw [hb]
  have:=ha rfl
  cases hh:s.a <;> simp [hh] at this ⊢
end
end
section
open Go Go.Sep
section
variable {B w:World} {Γ:List zB}
theorem zHt {p:Nat} {g:Sl} {xs:List UInt8} {n:Nat} {k:K} (hl:xs.length + n ≤ 1000000) (h:Holds B (blk p (.cells #[g.val] zAa (0,0))::Bytes zF g xs::Γ) w)
  (hk:∀ g' w,Holds B (blk p (.cells #[g'.val] zAa (0,0))::Bytes zF g' (xs++vM n)::Γ) w→k w):xJ.call (some ⟨p,0,none⟩) (n:Int) k w:=by
 refine zE4 _ _ _ _ ?_
 unfold xJ
 refine yM.of (fun t w=>∃ (m:Nat) (ys:List UInt8) (g':Sl),t = (m:Int)∧xs++vM n = ys++vM m∧ys.length + m ≤ 1000000∧Holds B (blk p (.cells #[g'.val] zAa (0,0))::Bytes zF g' ys::Γ) w) (fun t _=>t.toNat) ⟨n,xs,g,rfl,rfl,hl,h⟩ ?_
 clear h
 rintro t w ⟨m,ys,g',rfl,he,hm,h⟩
 unfold xJ.b1
 refine yJ (fun hb=>?_) (fun hb=>?_)
 ·simp only [decide_eq_true_eq] at hb
  refine zAZ rfl ?_
  refine xQ (x:=g') h rfl (by first | with_reducible exact M0 | with_reducible exact M1 | with_reducible exact M2 | with_reducible exact M3 | with_reducible exact M4 | with_reducible exact M5 | with_reducible exact M6 | with_reducible exact M7 | with_reducible exact M8 | with_reducible exact M9 | with_reducible exact M10 | with_reducible exact M11 | with_reducible exact M12) ?_ ?_
  ·exact rfl
  refine qP rfl ?_
  refine qP (zXT m) ?_
  refine xE h ?_
  clear h
  intro t16 w h
  try simp only [zR,Nat.zero_add,Nat.reduceAdd]
  replace h:=vL (xs:=[u8 (m % 128 + 128)]) (n:=1) (by rfl) rfl h
  replace h:=P1 h
  replace h:=P1 h
  replace h:=P2 h
  try simp only [N1,N2,N3,N4,N5,N6,N7] at h
  refine zA2 h (Bytes.rd h.tail List.mem_cons_self) (by simp; omega) fun t17 w h _ _=>?_
  replace h:=P2 h
  replace h:=D2 h
  try simp only [N1,N2,N3,N4,N5,N6,N7] at h
  first | refine S0 h rfl ?_ rfl ?_ | refine S1 h rfl ?_ rfl ?_ | refine S2 h rfl ?_ rfl ?_ | refine S3 h rfl ?_ rfl ?_ | refine S4 h rfl ?_ rfl ?_ | refine S5 h rfl ?_ rfl ?_ | refine S6 h rfl ?_ rfl ?_ | refine S7 h rfl ?_ rfl ?_ | refine S8 h rfl ?_ rfl ?_
  ·first | exact Nat.lt_of_ble_eq_true rfl | (simp; done) | (simp; omega)
  clear h
  intro w h
  try simp only [N1,N2,N3,N4,N5,N6,N7] at h
  refine zDz (by decide) ?_
  refine qP (zUc m 7 (by decide)) ?_
  refine ⟨⟨m / 128,ys++[u8 (m % 128 + 128)],t17,rfl,?_,by simp; omega,h⟩,by omega⟩
  rw [he,zAt (by omega)]
  simp
 ·simp only [decide_eq_false_iff_not] at hb
  refine zAZ rfl ?_
  refine xQ (x:=g') h rfl (by first | with_reducible exact M0 | with_reducible exact M1 | with_reducible exact M2 | with_reducible exact M3 | with_reducible exact M4 | with_reducible exact M5 | with_reducible exact M6 | with_reducible exact M7 | with_reducible exact M8 | with_reducible exact M9 | with_reducible exact M10 | with_reducible exact M11 | with_reducible exact M12) ?_ ?_
  ·exact rfl
  refine qP (zCB m) ?_
  refine xE h ?_
  clear h
  intro t27 w h
  try simp only [zR,Nat.zero_add,Nat.reduceAdd]
  replace h:=vL (xs:=[u8 m]) (n:=1) (by rfl) rfl h
  replace h:=P1 h
  replace h:=P1 h
  replace h:=P2 h
  try simp only [N1,N2,N3,N4,N5,N6,N7] at h
  refine zA2 h (Bytes.rd h.tail List.mem_cons_self) (by simp; omega) fun t17 w h _ _=>?_
  replace h:=P2 h
  replace h:=D2 h
  try simp only [N1,N2,N3,N4,N5,N6,N7] at h
  first | refine S0 h rfl ?_ rfl ?_ | refine S1 h rfl ?_ rfl ?_ | refine S2 h rfl ?_ rfl ?_ | refine S3 h rfl ?_ rfl ?_ | refine S4 h rfl ?_ rfl ?_ | refine S5 h rfl ?_ rfl ?_ | refine S6 h rfl ?_ rfl ?_ | refine S7 h rfl ?_ rfl ?_ | refine S8 h rfl ?_ rfl ?_
  ·first | exact Nat.lt_of_ble_eq_true rfl | (simp; done) | (simp; omega)
  clear h
  intro w h
  try simp only [N1,N2,N3,N4,N5,N6,N7] at h
  refine hk t17 _ ?_
  rw [he,u7 (by omega)]
  exact h
theorem zG1 {p:Nat} {g:Sl} {xs:List UInt8} {k:Sl→K} (hl:xs.length ≤ 1000000) (h:Holds B (blk p (.cells #[g.val] zAa (0,0))::Bytes zF g xs::Γ) w)
  (hk:∀ s w,Holds B (Bytes zF s xs::Γ) w→k s w):jI.call (some ⟨p,0,none⟩) k w:=by
 refine zEL _ _ _ ?_
 unfold jI
 refine zAZ rfl ?_
 refine xQ (x:=g) h rfl (by first | with_reducible exact M0 | with_reducible exact M1 | with_reducible exact M2 | with_reducible exact M3 | with_reducible exact M4 | with_reducible exact M5 | with_reducible exact M6 | with_reducible exact M7 | with_reducible exact M8 | with_reducible exact M9 | with_reducible exact M10 | with_reducible exact M11 | with_reducible exact M12) ?_ ?_
 ·exact rfl
 refine uX h (fun w h=>Bytes.rd h (List.mem_cons_of_mem _ List.mem_cons_self)) (by omega) fun s w h _=>?_
 replace h:=D1 h
 replace h:=D1 h
 try simp only [N1,N2,N3,N4,N5,N6,N7] at h
 exact hk _ _ h
end
end
section
open Go Go.Sep
structure zGf (s0:Sl) (x0:List UInt8) (s:Sl) (xs:List UInt8):Prop where
 rd:∀ w,RdB w s0 x0→RdB w s xs
 n:s.n = xs.length
 cap:s.n ≤ s.c
 spot:∀ a,s.a = some a→a.spot = none
theorem zGf.drop {s0 s:Sl} {x0 xs:List UInt8} {l:Nat} (h:zGf s0 x0 s xs) (hl:l ≤ s.n):zGf s0 x0 ⟨zAB s.a l s.c 1,s.n - l,s.c - l⟩ (xs.drop l):=by
 refine ⟨fun w hw=>?_,by simp [h.n],by have:=h.cap; simp only; omega,fun a ha=>?_⟩
 ·have h1:=(h.rd w hw).drop (l:=l) (c:=s.c) hl h.cap h.spot
  rw [Nat.mul_one,← List.map_drop] at h1
  exact h1
 ·simp only [zAB] at ha
  split at ha
  ·exact h.spot a ha
  ·cases hx:s.a with
   | none=>rw [hx] at ha; cases ha
   | some a0=>
    rw [hx] at ha
    simp only [Option.map_some,Option.some.injEq] at ha
    subst ha
    unfold Addr.add
    split
    ·exact h.spot a0 hx
    ·rfl
theorem zUd {w:World} {s:Sl} {xs:List UInt8} (h:RdB w s xs):RdC w s 1 ((xs.map fun b=>(b.toNat:Int)).map (Value.int .u8)):=by
 rw [List.map_map]; exact h
def zEO (e:Nat) (xs:List UInt8):zB:=ex fun s0:Sl=>ex fun x0:List UInt8=>ex fun s:Sl=>Sep.stars [pur (zGf s0 x0 s xs),blk e (.cells [s.val].toArray vU (0,0)),Bytes zF s0 x0]
theorem zYU (i:Nat):2 ^ (7 * i) = 128 ^ i:=by rw [Nat.pow_mul]
theorem zUe {a c i:Nat} (ha:a < 128 ^ i) (hc:a + c * 128 ^ i < 18446744073709551616) (hi:7 * i < 64):bitsOf .or .u64 (a:Int) (zFO .u64 (c:Int) ((7 * i:Nat):Int)) = ((a + c * 128 ^ i:Nat):Int):=by
 have h1:zFO .u64 (c:Int) ((7 * i:Nat):Int) = ((c * 128 ^ i:Nat):Int):=by
  unfold zFO
  have:min (((7 * i:Nat):Int).toNat) (IntKind.bits .u64) = 7 * i:=by simp [IntKind.bits]; omega
  rw [this]
  have e:(c:Int) * 2 ^ (7 * i) = ((c * 128 ^ i:Nat):Int):=by
   rw [← zYU]; push_cast; rfl
  rw [e,xI (by omega) (by omega)]
 rw [h1]
 unfold bitsOf
 simp only
 have h2:(BitVec.ofInt (IntKind.bits .u64) (a:Int) ||| BitVec.ofInt (IntKind.bits .u64) ((c * 128 ^ i:Nat):Int)).toNat = a + c * 128 ^ i:=by
  show (BitVec.ofInt 64 (a:Int) ||| BitVec.ofInt 64 ((c * 128 ^ i:Nat):Int)).toNat = _
  rw [BitVec.toNat_or,BitVec.ofInt_natCast,BitVec.ofInt_natCast,BitVec.toNat_ofNat,BitVec.toNat_ofNat,Nat.mod_eq_of_lt (by omega),Nat.mod_eq_of_lt (by omega)]
  have h4:=Nat.two_pow_add_eq_or_of_lt (i:=7 * i) (b:=a) (by rw [zYU]; exact ha) c
  rw [zYU,Nat.mul_comm,Nat.or_comm] at h4
  rw [← h4,Nat.add_comm]
 rw [h2,xI (by omega) (by omega)]
section
variable {B:World} {Γ Δ:List zB} {k Q:K} {e:Nat} {xs:List UInt8}
theorem zMW (h:∀ s0 x0 s,zGf s0 x0 s xs→HG B (blk e (.cells [s.val].toArray vU (0,0))::Bytes zF s0 x0::Γ) k):HG B (zEO e xs::Γ) k:=zD3 fun s0=>zD3 fun x0=>zD3 fun s=>zCY <| zHd fun h1=>h s0 x0 s h1
theorem zDl {s0 s:Sl} {x0:List UInt8} (h1:zGf s0 x0 s xs) (h:HG B (zEO e xs::Γ) k):HG B (blk e (.cells [s.val].toArray vU (0,0))::Bytes zF s0 x0::Γ) k:=fun w hw=>by
 refine h w ?_
 have h3:Holds B (Sep.stars [pur (zGf s0 x0 s xs),blk e (.cells [s.val].toArray vU (0,0)),Bytes zF s0 x0]::Γ) w:=Holds.flat.2 (Holds.pur.2 ⟨h1,hw⟩)
 exact h3.imp fun g hg=>⟨s0,x0,s,hg⟩
instance (priority:=high) zaM:Sep.Own e (zEO e xs::Γ) (zEO e xs) Γ:=⟨.refl _⟩
theorem zGA {s:Sl} {q:Option Addr→K} (hl:xs.length ≤ 1000000) (hr:∀ w,Holds B Γ w→RdB w s xs) (h:∀ e,HG B (zEO e xs::Γ) (q (some ⟨e,0,none⟩))):HG B Γ (zBM.call s q):=fun w hw=>by
 refine zKn _ _ _ ?_
 unfold zBM
 refine uX hw hr (by omega) fun s1 w hw _=>?_
 refine hg hw ?_
 clear hw w
 refine ql fun e=>?_
 refine fun w hw=>?_
 have hc:=hw.tail.zAm
 rw [List.length_map,Nat.mul_one] at hc
 exact zDl (e:=e) (xs:=xs) (s0:=s1) (x0:=xs) (s:=s1) ⟨fun w h=>h,hc.1.symm,hc.2.1,hc.2.2.1⟩ (h e) w hw
theorem zEP {q:Int→K} (h:HG B (zEO e xs::Γ) (q (if xs = [] then 0 else 32))):HG B (zEO e xs::Γ) (zAb.call (some ⟨e,0,none⟩) q):=by
 refine fun w hw=>zJb _ _ _ ?_
 refine hg hw ?_
 clear hw w
 unfold zAb
 refine zMW fun s0 x0 s ho=>?_
 refine xM ?_
 refine yE (b:=e) (l:=[s.val]) (x:=s) ?_
 have hn:=ho.n
 have back:=zDl (B:=B) (Γ:=Γ) (e:=e) ho h
 refine yA (fun hb=>?_) fun hb=>?_
 ·rw [if_neg (by rintro rfl; simp only [decide_eq_true_eq] at hb; simp at hn; omega)] at back
  exact back
 ·rw [if_pos (by simp only [decide_eq_false_iff_not] at hb; exact List.eq_nil_of_length_eq_zero (by omega))] at back
  exact back
theorem zNv {s0 s:Sl} {x0:List UInt8} {l:Nat} {ll:Int} {ks:Sl→K} (ho:zGf s0 x0 s xs) (hl:l ≤ s.n) (hll:ll = (l:Int)) (h:HG B Γ (ks ⟨zAB s.a l s.c 1,s.n - l,s.c - l⟩)):HG B Γ (Slc s ll (s.n:Int) (s.c:Int) 1 ks):=fun w hw=>by
 subst hll
 exact ⟨_,by omega,by omega,by have:=ho.cap; omega,by omega,by simp,h w hw⟩
theorem zG2 {b:UInt8} {rest:List UInt8} {q:Int→Int→K} (hx:xs = b::rest) (h:HG B (zEO e rest::Γ) (q (b.toNat:Int) 0)):HG B (zEO e xs::Γ) (jf.call (some ⟨e,0,none⟩) q):=by
 refine fun w hw=>zEM _ _ _ ?_
 refine hg hw ?_
 clear hw w
 unfold jf
 refine zMW fun s0 x0 s ho=>?_
 have hn:=ho.n
 have hl:1 ≤ s.n:=by rw [hn,hx]; simp
 refine xM ?_
 refine yE (b:=e) (l:=[s.val]) (x:=s) ?_
 refine s_f ?_ (by simp; omega)
 refine yE (b:=e) (l:=[s.val]) (x:=s) ?_
 refine jZ (L:=xs.map fun b=>(b.toNat:Int)) (c:=Value.int .u8) (j:=0) (x:=(b.toNat:Int)) (fun w hw=>zUd (ho.rd w (Bytes.rd hw (List.mem_cons_of_mem _ List.mem_cons_self)))) (by rw [hx]; rfl) ?_
 refine yE (b:=e) (l:=[s.val]) (x:=s) ?_
 refine zNv ho hl rfl ?_
 refine zAd (b:=e) (l:=[s.val]) (l':=[Sl.val ⟨zAB s.a 1 s.c 1,s.n - 1,s.c - 1⟩]) ?_ rfl rfl
 have h1:=ho.drop hl
 rw [hx] at h1
 exact zDl h1 h
theorem zMX {n:Nat} {rest:List UInt8} {q:Int→Int→K} (hn:n < 18446744073709551616) (hx:xs = vM n++rest) (hl:xs.length ≤ 1000000) (h:HG B (zEO e rest::Γ) (q (n:Int) 0)):HG B (zEO e xs::Γ) (yC.call (some ⟨e,0,none⟩) q):=by
 refine fun w hw=>zE5 _ _ _ ?_
 refine hg hw ?_
 clear hw w
 unfold yC
 refine zMW fun s0 x0 s ho=>?_
 have hsn:=ho.n
 refine xM ?_
 refine yE (b:=e) (l:=[s.val]) (x:=s) ?_
 refine jm (α:=Int×Int) (ι:=Nat×Nat×Nat) (fun y i=>y.1 = (i.2.1:Int)∧y.2 = (i.1:Int)∧n = i.2.1 + i.2.2 * 128 ^ i.1∧i.2.1 < 128 ^ i.1∧(0 < i.1→1 ≤ i.2.2)∧xs.drop i.1 = vM i.2.2++rest) (fun y i=>blk e (.cells [s.val].toArray vU (0,0))::Bytes zF s0 x0::Γ) (fun y i=>xs.length - i.1) (0,0,n) ⟨rfl,rfl,by simp,by simp,by simp,by simpa using hx⟩ ?_
 rintro k' ⟨_,_⟩ ⟨i,a,m⟩ ⟨rfl,rfl,hnm,ha,hm1,hd⟩ hk'
 simp only at hnm ha hm1 hd hk' ⊢
 have hi9:i ≤ 9:=by
  refine Nat.le_of_not_lt fun h10=>?_
  have h1:=hm1 (by omega)
  have h2:128 ^ 10 ≤ 128 ^ i:=Nat.pow_le_pow_right (by omega) h10
  have h3:128 ^ i ≤ m * 128 ^ i:=Nat.le_mul_of_pos_left _ h1
  omega
 have hne:vM m ≠ []:=by
  by_cases h1:m < 128
  ·rw [u7 h1]; simp
  ·rw [zAt h1]; simp
 have hil:i < xs.length:=by
  refine Nat.lt_of_not_le fun h1=>?_
  rw [List.drop_of_length_le h1] at hd
  exact hne (List.append_eq_nil_iff.1 hd.symm).1
 unfold yC.b1
 refine s_t ?_ (by simp; omega)
 have step:∀ {b:UInt8},xs[i]? = some b→HG B (blk e (.cells [s.val].toArray vU (0,0))::Bytes zF s0 x0::Γ) (yC.s2 q (fun n2 t11=>k' (n2,t11)) ⟨e,0,none⟩ (a:Int) (i:Int) (b.toNat:Int) s (s.n:Int) (i:Int) false)→(i = 9→b.toNat ≤ 1) →
   HG B (blk e (.cells [s.val].toArray vU (0,0))::Bytes zF s0 x0::Γ) (Idx s (i:Int) 1 fun t14=>Ld t14 (Value.int .u8) fun t15=>Ite (decide ((i:Int) = 9)) (yC.s2 q (fun n2 t11=>k' (n2,t11)) ⟨e,0,none⟩ (a:Int) (i:Int) t15 s (s.n:Int) (i:Int) (decide ((1:Int) < t15))) (yC.s2 q (fun n2 t11=>k' (n2,t11)) ⟨e,0,none⟩ (a:Int) (i:Int) t15 s (s.n:Int) (i:Int) false)):=fun {b} hb hs hb9=>by
  refine jZ (L:=xs.map fun b=>(b.toNat:Int)) (c:=Value.int .u8) (j:=i) (x:=(b.toNat:Int)) (fun w hw=>zUd (ho.rd w (Bytes.rd hw (List.mem_cons_of_mem _ List.mem_cons_self)))) (by rw [List.getElem?_map,hb]; rfl) ?_
  refine yA (fun h9=>?_) fun h9=>hs
  have:=hb9 (by simp only [decide_eq_true_eq] at h9; omega)
  rw [show decide ((1:Int) < (b.toNat:Int)) = false by simp; omega]
  exact hs
 have hget:xs[i]? = (xs.drop i)[0]?:=by simp
 by_cases hm:m < 128
 ·rw [u7 hm] at hd
  have hub:(u8 m).toNat = m:=by rw [u8N,Nat.mod_eq_of_lt (by omega)]
  refine step (b:=u8 m) (by rw [hget,hd]; rfl) ?_ fun h9=>?_
  ·unfold yC.s2
   refine s_f ?_ (by rfl)
   refine zNc (by decide) ?_
   rw [hub]
   have e1:Int.tmod (m:Int) 128 = (m:Int):=Int.tmod_eq_of_lt (by omega) (by omega)
   refine vI e1 ?_
   refine vI (xI (by omega) (by omega)) ?_
   refine vI (show IntKind.wrap .i64 (7 * (i:Int)) = ((7 * i:Nat):Int) by rw [wrap64 (by omega) (by omega)]; push_cast; rfl) ?_
   refine zNc (by omega) ?_
   refine vI rfl ?_
   refine vI (zUe ha (by omega) (by omega)) ?_
   refine s_t ?_ (by simp; omega)
   have s3:HG B (blk e (.cells [s.val].toArray vU (0,0))::Bytes zF s0 x0::Γ) (yC.s3 q (fun n2 t11=>k' (n2,t11)) ⟨e,0,none⟩ ((a + m * 128 ^ i:Nat):Int) (i:Int) false):=by
    unfold yC.s3
    refine s_f ?_ (by rfl)
    refine yE (b:=e) (l:=[s.val]) (x:=s) ?_
    refine zAn ?_
    refine zNv ho (l:=i + 1) (by omega) (by push_cast; rfl) ?_
    refine zAd (b:=e) (l:=[s.val]) (l':=[Sl.val ⟨zAB s.a (i + 1) s.c 1,s.n - (i + 1),s.c - (i + 1)⟩]) ?_ rfl rfl
    have h1:=ho.drop (l:=i + 1) (by omega)
    have h2:xs.drop (i + 1) = rest:=by
     rw [← List.drop_drop,hd]; rfl
    rw [h2] at h1
    rw [← hnm]
    exact zDl h1 h
   refine yA (fun h0=>?_) fun h0=>s3
   by_cases hi0:0 < i
   ·have:=hm1 hi0
    simp only [decide_eq_true_eq] at h0
    omega
   ·rw [show decide ((0:Int) < (i:Int)) = false by simp; omega]
    exact s3
  ·rw [hub]
   subst h9
   have h3:m * 128 ^ 9 ≤ n:=by omega
   have h4:(128:Nat) ^ 9 = 9223372036854775808:=by decide
   rw [h4] at h3
   omega
 ·rw [zAt hm] at hd
  have hub:(u8 (m % 128 + 128)).toNat = m % 128 + 128:=by rw [u8N,Nat.mod_eq_of_lt (by omega)]
  have hi8:i ≤ 8:=by
   refine Nat.le_of_not_lt fun h9=>?_
   have h2:128 ^ 9 ≤ 128 ^ i:=Nat.pow_le_pow_right (by omega) h9
   have h3:128 * 128 ^ 9 ≤ m * 128 ^ i:=Nat.mul_le_mul (by omega) h2
   omega
  refine step (b:=u8 (m % 128 + 128)) (by rw [hget,hd]; rfl) ?_ fun h9=>by omega
  unfold yC.s2
  refine s_f ?_ (by rfl)
  refine zNc (by decide) ?_
  rw [hub]
  have e1:Int.tmod ((m % 128 + 128:Nat):Int) 128 = ((m % 128:Nat):Int):=by rw [Int.tmod_eq_emod_of_nonneg (by omega)]; omega
  refine vI e1 ?_
  refine vI (xI (by omega) (by omega)) ?_
  refine vI (show IntKind.wrap .i64 (7 * (i:Int)) = ((7 * i:Nat):Int) by rw [wrap64 (by omega) (by omega)]; push_cast; rfl) ?_
  refine zNc (by omega) ?_
  refine vI rfl ?_
  have hmm:m = m % 128 + 128 * (m / 128):=by omega
  have hmul:m * 128 ^ i = m % 128 * 128 ^ i + m / 128 * 128 ^ (i + 1):=by
   rw [Nat.pow_succ]
   conv=>lhs; rw [hmm]
   rw [Nat.add_mul,Nat.mul_comm 128 (m / 128),Nat.mul_assoc,Nat.mul_comm 128 (128 ^ i)]
  refine vI (zUe ha (by omega) (by omega)) ?_
  refine s_f ?_ (by simp; omega)
  refine zAn ?_
  refine hk' (((a + m % 128 * 128 ^ i:Nat):Int),(i:Int) + 1) (i + 1,a + m % 128 * 128 ^ i,m / 128) ⟨rfl,by simp,by simp only; omega,?_,fun _=>by simp only; omega,?_⟩ (by simp only; omega)
  ·simp only
   rw [Nat.pow_succ]
   have h5:m % 128 * 128 ^ i ≤ 127 * 128 ^ i:=Nat.mul_le_mul_right _ (by omega)
   omega
  ·simp only
   rw [← List.drop_drop,hd]; rfl
end
end
section
open Go Go.Sep
def zFF (p:Nat) (xs:List UInt8):zB:=ex fun s:Sl=>Sep.stars [blk p (.cells [s.val].toArray zAa (0,0)),SlC zF 1 s (xs.map qy)]
section
variable {B:World} {Γ Δ:List zB} {p:Nat} {xs:List UInt8} {k Q:K}
theorem zPI (h:∀ s,HG B (blk p (.cells [s.val].toArray zAa (0,0))::SlC zF 1 s (xs.map qy)::Γ) k):HG B (zFF p xs::Γ) k:=zD3 fun s=>zCY (h s)
theorem zGB {s:Sl} (h:HG B (zFF p xs::Γ) k):HG B (blk p (.cells [s.val].toArray zAa (0,0))::SlC zF 1 s (xs.map qy)::Γ) k:=fun w hw=>by
 refine h w ?_
 have h3:Holds B (Sep.stars [blk p (.cells [s.val].toArray zAa (0,0)),SlC zF 1 s (xs.map qy)]::Γ) w:=Holds.flat.2 hw
 exact h3.imp fun g hg=>⟨s,hg⟩
instance (priority:=high) zaN:Sep.Own p (zFF p xs::Γ) (zFF p xs) Γ:=⟨.refl _⟩
theorem zIl {q0:Addr→K} (h:∀ p,HG B (zFF p []::Γ) (q0 ⟨p,0,none⟩)):HG B Γ (New zAa #[Sl.val ⟨none,0,0⟩] q0):=by
 refine ql fun p=>?_
 refine fun w hw=>?_
 refine hg (show Holds B (SlC zF 1 ⟨none,0,0⟩ (([]:List UInt8).map qy)::_) w from hw.zAv _ _) ?_
 refine vD ?_
 exact zGB (h p)
theorem zKs {n:Nat} (hn:n < 1180591620717411303424) (hx:xs.length ≤ 50000000) (h:HG B (zFF p (xs++vM n)::Γ) Q):HG B (zFF p xs::Γ) (xJ.call (some ⟨p,0,none⟩) (n:Int) Q):=by
 refine fun w hw=>zE4 _ _ _ _ ?_
 refine hg hw ?_
 clear hw w
 have hnl:=xO 9 n (by simpa using hn)
 unfold xJ
 refine jm (α:=Int) (ι:=Nat×List UInt8) (fun x i=>x = (i.1:Int)∧i.2++vM i.1 = xs++vM n) (fun x i=>zFF p i.2::Γ) (fun x i=>i.1) (n,xs) ⟨rfl,rfl⟩ ?_
 rintro k' _ ⟨m,ys⟩ ⟨rfl,he⟩ hk'
 simp only at he hk' ⊢
 have hyl:ys.length ≤ 50000010:=by have:=congrArg List.length he; simp only [List.length_append] at this; omega
 unfold xJ.b1
 refine yA (fun hb=>?_) fun hb=>?_
 ·have hm:¬ m < 128:=by simp only [decide_eq_true_eq] at hb; omega
  refine xM ?_
  refine zPI fun s=>?_
  refine vw s fun a1 a2 a3 a4=>?_
  simp only [List.length_map] at a1
  repeat refine zNq ?_
  refine vI rfl ?_
  refine vI (zXT m) ?_
  refine ql fun t16=>?_
  refine zBO (s:=s) (esz:=1) (us:=[qy (u8 (m % 128 + 128))]) (zFb rfl) (by simp [qy,qC]) (by simp only; omega) fun s2 _=>?_
  rw [show ys.map qy++[qy (u8 (m % 128 + 128))] = (ys++[u8 (m % 128 + 128)]).map qy by simp]
  repeat refine zNq ?_
  refine zNc (by decide) ?_
  refine vI (zUc m 7 (by decide)) ?_
  refine zGt s2 ?_
  refine vH p ?_
  refine zGB ?_
  refine zI (hk' ((m / 2 ^ 7:Nat):Int) (m / 2 ^ 7,ys++[u8 (m % 128 + 128)]) ⟨rfl,?_⟩ (by simp only; omega))
  simp only
  rw [← he,zAt hm]; simp
 ·have hm:m < 128:=by simp only [decide_eq_false_iff_not] at hb; omega
  refine xM ?_
  refine zPI fun s=>?_
  refine vw s fun a1 a2 a3 a4=>?_
  simp only [List.length_map] at a1
  repeat refine zNq ?_
  refine vI (zCB m) ?_
  refine ql fun t16=>?_
  refine zBO (s:=s) (esz:=1) (us:=[qy (u8 m)]) (zFb rfl) (by simp [qy,qC]) (by simp only; omega) fun s2 _=>?_
  rw [show ys.map qy++[qy (u8 m)] = (ys++[u8 m]).map qy by simp]
  repeat refine zNq ?_
  refine zGt s2 ?_
  refine vH p ?_
  refine zGB ?_
  rw [← u7 hm,he]
  exact zI h
theorem zWQ {b:Sl} {ys:List UInt8} (hr:∀ w,Holds B Γ w→RdB w b ys) (hy:ys.length ≤ 10000000) (hx:xs.length ≤ 10000000) (h:HG B (zFF p (xs++vM ys.length++ys)::Γ) Q):HG B (zFF p xs::Γ) (zBB.call (some ⟨p,0,none⟩) b Q):=by
 refine fun w hw=>zIe _ _ _ _ ?_
 have hbn:b.n = ys.length:=by have:=(hr w hw.drops).len; simpa using this.symm
 refine hg hw ?_
 clear hw w
 have hnl:=xO 9 ys.length (by simp; omega)
 unfold zBB
 refine vI (xI (by omega) (by omega)) ?_
 rw [hbn]
 refine zKs (by omega) (by omega) ?_
 refine xM ?_
 refine zPI fun s=>?_
 refine vw s fun a1 a2 a3 a4=>?_
 simp only [List.length_map,List.length_append] at a1
 repeat refine zNq ?_
 refine zBO (s:=s) (esz:=1) (us:=ys.map qy) (fun w hw=>hr w hw.drops) (zCX _) (by omega) fun s2 _=>?_
 rw [← List.map_append]
 repeat refine zNq ?_
 refine zGt s2 ?_
 refine vH p ?_
 refine zGB ?_
 exact zI h
theorem zRr {q:Sl→K} (hx:xs.length ≤ 50000000) (h:∀ s,HG B (Bytes zF s xs::zFF p xs::Γ) (q s)):HG B (zFF p xs::Γ) (jI.call (some ⟨p,0,none⟩) q):=by
 refine fun w hw=>zEL _ _ _ ?_
 refine hg hw ?_
 clear hw w
 unfold jI
 refine xM ?_
 refine zPI fun s=>?_
 repeat refine zNq ?_
 refine fun w hw=>uX hw (fun w h=>(uL (s:=s) h).1) (by omega) fun s1 w hw _=>?_
 refine hg hw ?_
 clear hw w
 refine zGt s ?_
 refine vH p ?_
 refine zGB ?_
 exact zI (h s1)
theorem zKD {b:UInt8} (hx:xs.length ≤ 50000000) (h:HG B (zFF p (xs++[b])::Γ) Q):HG B (zFF p xs::Γ) (je.call (some ⟨p,0,none⟩) (b.toNat:Int) Q):=by
 refine fun w hw=>zId _ _ _ _ ?_
 refine hg hw ?_
 clear hw w
 unfold je
 refine xM ?_
 refine zPI fun s=>?_
 refine vw s fun a1 a2 a3 a4=>?_
 simp only [List.length_map] at a1
 repeat refine zNq ?_
 refine ql fun t16=>?_
 refine zBO (s:=s) (esz:=1) (us:=[qy b]) (zFb rfl) (by simp [qy,qC]) (by simp only; omega) fun s2 _=>?_
 rw [show xs.map qy++[qy b] = (xs++[b]).map qy by simp]
 repeat refine zNq ?_
 refine zGt s2 ?_
 refine vH p ?_
 refine zGB ?_
 exact zI h
end
end
end Go.Proofs.YtgmbfnboiobeaaaGreat
