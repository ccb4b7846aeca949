/- Texts of the claim SchedTwice, one behind the other. -/
import Derived.Test.YtdemfamgieonbaaGreatSchedTwiceM2
import Derived.Laws.StructEq
import Derived.Shelf.SortM.Plain
import Derived.Shelf.SortM.SortNone
import Derived.Ground.SlgmProg
import Derived.Test.YtdemfamgieonbaaGreatProg
import Derived.Deep.OwnRows
set_option linter.all false
set_option maxRecDepth 100000
namespace Go.Sep
section
open Go Go.RowKit
inductive Ck where
 | int (k:IntKind)
 | str
 | bool
def Ck.fit:Ck→Value→Bool
 | .int k,.int k' _=>k' == k
 | .str,.string _=>true
 | .bool,.bool _=>true
 | _,_=>false
def fits:List Ck→List Value→Bool
 | [],[]=>true
 | c::cs,v::vs=>c.fit v && fits cs vs
 | _,_=>false
def zRK (P:Program) (f:TypeId→Option (List Ck)):List Field→Nat→Option (List Ck)
 | [],_=>some []
 | x::fs,off=>match f x.type with
  | none=>none
  | some ks => if x.name != "_" && Nat.beq x.offset off && sizeT P x.type ks.length then (zRK P f fs (off + ks.length)).map (ks ++ ·) else none
def zF7 (P:Program):Nat→TypeId→Option (List Ck)
 | 0,_=>none
 | d + 1,t=>match P.underlying t with
  | some (.int k)=>some [.int k]
  | some .string=>some [.str]
  | some .bool=>some [.bool]
  | some (.struct fs)=>if P.stoodInHeld t then none else zRK P (zF7 P d) fs.toList 0
  | _=>none
def zBE (P:Program) (t:TypeId):Bool:=match P.underlying t with
 | some (.struct _)=>true
 | _=>false
def zBa (P:Program) (t:TypeId) (vs:List Value):Value:=if zBE P t then .agg vs.toArray else vs.headD .nilIface
theorem zS7 {k:IntKind} {v:Value} (h:(Ck.int k).fit v = true):∃ n,v = .int k n:=by
 cases v <;> simp [Ck.fit] at h
 subst h; exact ⟨_,rfl⟩
theorem zS8 {v:Value} (h:Ck.str.fit v = true):∃ n,v = .string n:=by
 cases v <;> simp [Ck.fit] at h
 exact ⟨_,rfl⟩
theorem zQE {v:Value} (h:Ck.bool.fit v = true):∃ n,v = .bool n:=by
 cases v <;> simp [Ck.fit] at h
 exact ⟨_,rfl⟩
theorem zC9:∀ {ks:List Ck} {vs:List Value},fits ks vs = true→vs.length = ks.length
 | [],[],_=>rfl
 | c::ks,v::vs,h=>by
  simp only [fits,Bool.and_eq_true] at h
  simp [zC9 h.2]
 | [],_::_,h=>by simp [fits] at h
 | _::_,[],h=>by simp [fits] at h
theorem zIs:∀ {ks ks':List Ck} {vs:List Value},fits (ks++ks') vs = true→fits ks (vs.take ks.length) = true∧fits ks' (vs.drop ks.length) = true
 | [],ks',vs,h=>by simpa [fits] using h
 | c::ks,ks',[],h=>by simp [fits] at h
 | c::ks,ks',v::vs,h=>by
  simp only [List.cons_append,fits,Bool.and_eq_true] at h
  obtain ⟨h1,h2⟩:=zIs h.2
  simp only [List.length_cons,List.take_succ_cons,List.drop_succ_cons,fits,Bool.and_eq_true]
  exact ⟨⟨h.1,h1⟩,h2⟩
section
variable {P:Program}
theorem zT3 {t:TypeId} {d:Nat} {ks:List Ck} (h:zF7 P d t = some ks) (w:World):(isAgg t).run P w = .ok (zBE P t) w:=by
 cases d with
 | zero=>cases h
 | succ d =>
  unfold zF7 at h
  unfold isAgg zBE
  split at h <;> rename_i hu
  ·simp [run_underlying hu,hu]
  ·simp [run_underlying hu,hu]
  ·simp [run_underlying hu,hu]
  ·simp [run_underlying hu,hu]
  ·cases h
theorem zZS {t:TypeId} {d:Nat} {ks:List Ck} (h:zF7 P d t = some ks) (hs:zBE P t = false):∃ c,ks = [c]:=by
 cases d with
 | zero=>cases h
 | succ d =>
  unfold zF7 at h
  unfold zBE at hs
  split at h <;> rename_i hu
  ·exact ⟨_,(Option.some.inj h).symm⟩
  ·exact ⟨_,(Option.some.inj h).symm⟩
  ·exact ⟨_,(Option.some.inj h).symm⟩
  ·rw [hu] at hs; cases hs
  ·cases h
theorem zEv {t:TypeId} {d:Nat} {ks:List Ck} (h:zF7 P d t = some ks) (hz:sizeT P t ks.length = true) {cs:List Value} {off:Nat} (hl:off + ks.length ≤ cs.length) (w:World) :
  (part t cs.toArray off).run P w = .ok (zBa P t ((cs.drop off).take ks.length)) w:=by
 unfold part zBa
 simp only [Sem.run_bind,zT3 h,Result.andThen]
 cases hs:zBE P t with
 | true =>
  simp only [if_true,Sem.run_bind,jD hz,Result.andThen,Sem.run_pure]
  congr 2
  apply Array.ext'
  simp [List.extract]
 | false =>
  obtain ⟨c,rfl⟩:=zZS h hs
  simp only [List.length_cons,List.length_nil,Nat.zero_add] at hl ⊢
  have hlt:off < cs.length:=by omega
  have e:cs.toArray[off]? = some cs[off]:=by simp [hlt]
  simp only [Bool.false_eq_true,if_false,e,Sem.run_pure]
  rw [List.drop_eq_getElem_cons hlt]
  rfl
theorem zS9 {D d:Nat} (ih:∀ t ks xs ys,zF7 P d t = some ks→fits ks xs = true→fits ks ys = true→∀ w,∃ r:Bool,(Op.equalIn D t (zBa P t xs) (zBa P t ys)).run P w = .ok r w∧(r = true ↔ xs = ys)) (xs ys:List Value) :
  ∀ (fs:List Field) (off:Nat) (ks:List Ck),zRK P (zF7 P d) fs off = some ks→off ≤ xs.length→off ≤ ys.length→fits ks (xs.drop off) = true→fits ks (ys.drop off) = true→∀ w,∃ r:Bool,(Op.eqFields D xs.toArray ys.toArray fs).run P w = .ok r w∧(r = true ↔ xs.drop off = ys.drop off)
 | [],off,ks,h,_,_,hx,hy,w=>by
  simp only [zRK,Option.some.injEq] at h
  subst h
  have h1:=List.length_eq_zero_iff.1 (zC9 hx)
  have h2:=List.length_eq_zero_iff.1 (zC9 hy)
  exact ⟨true,by simp [Op.eqFields],by simp [h1,h2]⟩
 | f::fs,off,ks,h,lx,ly,hx,hy,w=>by
  unfold zRK at h
  split at h
  ·cases h
  rename_i k1 hk1
  split at h
  ·rename_i hc
   simp only [Bool.and_eq_true,bne_iff_ne,ne_eq,Nat.beq_eq] at hc
   obtain ⟨⟨hn,rfl⟩,hz⟩:=hc
   simp only [Option.map_eq_some_iff] at h
   obtain ⟨k2,hk2,rfl⟩:=h
   have ax:=zIs hx
   have ay:=zIs hy
   have cx:=zC9 hx
   have cy:=zC9 hy
   simp only [List.length_append,List.length_drop] at cx cy
   obtain ⟨r,hr,hiff⟩:=ih f.type k1 _ _ hk1 ax.1 ay.1 w
   obtain ⟨r2,hr2,hiff2⟩:=zS9 ih xs ys fs _ k2 hk2 (by omega) (by omega) (by rw [← List.drop_drop]; exact ax.2) (by rw [← List.drop_drop]; exact ay.2) w
   unfold Op.eqFields
   rw [if_pos hn]
   simp only [Sem.run_bind,zEv hk1 hz (show f.offset + k1.length ≤ xs.length by omega),zEv hk1 hz (show f.offset + k1.length ≤ ys.length by omega),Result.andThen,hr]
   have hsp:xs.drop f.offset = ys.drop f.offset ↔ ((xs.drop f.offset).take k1.length = (ys.drop f.offset).take k1.length∧xs.drop (f.offset + k1.length) = ys.drop (f.offset + k1.length)):=by
    constructor
    ·intro e; rw [e,← List.drop_drop,← List.drop_drop,e]; exact ⟨rfl,rfl⟩
    ·rintro ⟨e1,e2⟩
     rw [← List.take_append_drop k1.length (xs.drop f.offset),← List.take_append_drop k1.length (ys.drop f.offset),e1,List.drop_drop,List.drop_drop,e2]
   cases r with
   | false =>
    refine ⟨false,by simp,?_⟩
    rw [hsp,← hiff]; simp
   | true =>
    refine ⟨r2,by simpa using hr2,?_⟩
    rw [hsp,← hiff,hiff2]; simp
  ·cases h
theorem str_inj {a b:ByteArray}:(a.toList == b.toList) = true ↔ a = b:=by
 obtain ⟨x,rfl⟩:=zLQ a
 obtain ⟨y,rfl⟩:=zLQ b
 rw [uU,uU,beq_iff_eq]
 exact ⟨fun h=>by rw [h],fun h=>by have:=congrArg ByteArray.toList h; rwa [uU,uU] at this⟩
theorem zJ2 (D:Nat):∀ (d:Nat) (t:TypeId) (ks:List Ck) (xs ys:List Value),zF7 P d t = some ks→fits ks xs = true→fits ks ys = true→∀ w,∃ r:Bool,(Op.equalIn (D + d) t (zBa P t xs) (zBa P t ys)).run P w = .ok r w∧(r = true ↔ xs = ys)
 | 0,t,ks,xs,ys,h,_,_,w=>by cases h
 | d + 1,t,ks,xs,ys,h,hx,hy,w=>by
  unfold zF7 at h
  have lx:=zC9 hx
  have ly:=zC9 hy
  split at h <;> rename_i hu
  ·injection h with h; subst h
   obtain ⟨x,rfl⟩:=List.length_eq_one_iff.1 lx
   obtain ⟨y,rfl⟩:=List.length_eq_one_iff.1 ly
   simp only [fits,Bool.and_true] at hx hy
   have hs:zBE P t = false:=by unfold zBE; rw [hu]
   obtain ⟨a,rfl⟩:=zS7 hx
   obtain ⟨b,rfl⟩:=zS7 hy
   refine ⟨a == b,?_,by simp⟩
   simp only [zBa,hs,Bool.false_eq_true,if_false,List.headD_cons]
   exact run_equalIn_int w (D + d) t _ _ _ _ hu
  ·injection h with h; subst h
   obtain ⟨x,rfl⟩:=List.length_eq_one_iff.1 lx
   obtain ⟨y,rfl⟩:=List.length_eq_one_iff.1 ly
   simp only [fits,Bool.and_true] at hx hy
   have hs:zBE P t = false:=by unfold zBE; rw [hu]
   obtain ⟨a,rfl⟩:=zS8 hx
   obtain ⟨b,rfl⟩:=zS8 hy
   refine ⟨a.toList == b.toList,?_,by rw [str_inj]; simp⟩
   simp only [zBa,hs,Bool.false_eq_true,if_false,List.headD_cons]
   exact run_equalIn_string w (D + d) t _ _ hu
  ·injection h with h; subst h
   obtain ⟨x,rfl⟩:=List.length_eq_one_iff.1 lx
   obtain ⟨y,rfl⟩:=List.length_eq_one_iff.1 ly
   simp only [fits,Bool.and_true] at hx hy
   have hs:zBE P t = false:=by unfold zBE; rw [hu]
   obtain ⟨a,rfl⟩:=zQE hx
   obtain ⟨b,rfl⟩:=zQE hy
   refine ⟨a == b,?_,by simp⟩
   simp only [zBa,hs,Bool.false_eq_true,if_false,List.headD_cons]
   exact run_equalIn_bool' w (D + d) t _ _ hu
  ·rename_i fs
   split at h
   ·cases h
   rename_i hst
   have hs:zBE P t = true:=by unfold zBE; rw [hu]
   have hf:P.fieldsOf t = fs:=by unfold Program.fieldsOf; rw [hu]
   simp only [zBa,hs,if_true]
   rw [show D + (d + 1) = (D + d) + 1 by omega,run_equalIn_agg w (D + d) t _ _ (by rw [hf,hu]) (by simpa using hst),hf]
   have:=zS9 (D:=D + d) (fun t ks xs ys h1 h2 h3 w=>zJ2 D d t ks xs ys h1 h2 h3 w) xs ys fs.toList 0 ks h (Nat.zero_le _) (Nat.zero_le _) (by simpa using hx) (by simpa using hy) w
   simpa using this
  ·cases h
theorem zEY {d:Nat} (hd:d ≤ 10000) {t:TypeId} {ks:List Ck} {xs ys:List Value} (h:zF7 P d t = some ks) (hs:zBE P t = true) (hx:fits ks xs = true) (hy:fits ks ys = true) (w:World):∃ r:Bool,(Op.equal t (.agg xs.toArray) (.agg ys.toArray)).run P w = .ok r w∧(r = true ↔ xs = ys):=by
 have:=zJ2 (10000 - d) d t ks xs ys h hx hy w
 rw [show 10000 - d + d = 10000 by omega] at this
 unfold Op.equal Op.maxDepth
 simpa only [zBa,hs,if_true] using this
theorem zYo {B:World} {Γ:List zB} {T:TypeId} {ks:List Ck} {xs ys:List Value} {p:Prop} [Decidable p] {x y:Operand} {k:Bool→K} (hp:xs = ys ↔ p) (h:HG B Γ (k (decide p))) (hc:zF7 P 9 T = some ks:=by kernel_rfl) (hs:zBE P T = true:=by kernel_rfl) (hg:P.eqGuardType P.depth T = false:=by kernel_rfl) (hx:fits ks xs = true:=by rfl) (hy:fits ks ys = true:=by rfl) :
  HG B Γ (Pu P (do eqGuard .eql T x y (.agg xs.toArray) (.agg ys.toArray); binOp .eql T (.agg xs.toArray) (.agg ys.toArray):Sem Value) Value.bool k):=fun w hw=>by
 refine ⟨decide p,fun w=>?_,h w hw⟩
 obtain ⟨r,hr,hiff⟩:=zEY (by omega) hc hs hx hy w
 have e:r = decide p:=by rw [Bool.eq_iff_iff,hiff,hp]; simp
 subst e
 simp only [Op.equal,Op.maxDepth] at hr
 simp only [Sem.run_bind,run_eqGuard_agg w _ _ _ _ _ _ hg,Result.andThen,run_eql_struct,hr]
theorem zYp {B:World} {Γ:List zB} {T:TypeId} {ks:List Ck} {xs ys:List Value} {p:Prop} [Decidable p] {x y:Operand} {k:Bool→K} (hp:xs = ys ↔ p) (h:HG B Γ (k (!decide p))) (hc:zF7 P 9 T = some ks:=by kernel_rfl) (hs:zBE P T = true:=by kernel_rfl) (hg:P.eqGuardType P.depth T = false:=by kernel_rfl) (hx:fits ks xs = true:=by rfl) (hy:fits ks ys = true:=by rfl) :
  HG B Γ (Pu P (do eqGuard .neq T x y (.agg xs.toArray) (.agg ys.toArray); binOp .neq T (.agg xs.toArray) (.agg ys.toArray):Sem Value) Value.bool k):=fun w hw=>by
 refine ⟨!decide p,fun w=>?_,h w hw⟩
 obtain ⟨r,hr,hiff⟩:=zEY (by omega) hc hs hx hy w
 have e:r = decide p:=by rw [Bool.eq_iff_iff,hiff,hp]; simp
 subst e
 simp only [Op.equal,Op.maxDepth] at hr
 simp only [Sem.run_bind,run_eqGuard_agg w _ _ _ _ _ _ hg,Result.andThen,run_neq_struct,hr]
theorem zQF {D d:Nat} {e:Bool} (ih:∀ t ks xs,zF7 P d t = some ks→fits ks xs = true→∀ w,(Instr.checkKey e D t (zBa P t xs)).run P w = .ok () w) (xs:List Value) {body:Field→PUnit→Sem (ForInStep PUnit)}
  (hb : ∀ f v w, f.name ≠ "_" → (part f.type xs.toArray f.offset).run P w = .ok v w → (Instr.checkKey e D f.type v).run P w = .ok () w → (body f PUnit.unit).run P w = .ok (.yield PUnit.unit) w) :
  ∀ (fs:List Field) (off:Nat) (ks:List Ck),zRK P (zF7 P d) fs off = some ks→off ≤ xs.length→fits ks (xs.drop off) = true→∀ w,(forIn fs PUnit.unit body).run P w = .ok PUnit.unit w
 | [],off,ks,h,_,hx,w=>by simp
 | f::fs,off,ks,h,lx,hx,w=>by
  unfold zRK at h
  split at h
  ·cases h
  rename_i k1 hk1
  split at h
  ·rename_i hc
   simp only [Bool.and_eq_true,bne_iff_ne,ne_eq,Nat.beq_eq] at hc
   obtain ⟨⟨hn,rfl⟩,hz⟩:=hc
   simp only [Option.map_eq_some_iff] at h
   obtain ⟨k2,hk2,rfl⟩:=h
   have ax:=zIs hx
   have cx:=zC9 hx
   simp only [List.length_append,List.length_drop] at cx
   have h2:=zQF ih xs hb fs _ k2 hk2 (by omega) (by rw [← List.drop_drop]; exact ax.2) w
   have h3:=hb f _ w hn (zEv hk1 hz (show f.offset + k1.length ≤ xs.length by omega) w) (ih f.type k1 _ hk1 ax.1 w)
   simp only [List.forIn_cons,Sem.run_bind,h3,Result.andThen]
   exact h2
  ·cases h
theorem zIt (D:Nat) {e:Bool}:∀ (d:Nat) (t:TypeId) (ks:List Ck) (xs:List Value),zF7 P d t = some ks→fits ks xs = true→∀ w,(Instr.checkKey e (D + d) t (zBa P t xs)).run P w = .ok () w
 | 0,t,ks,xs,h,_,w=>by cases h
 | d + 1,t,ks,xs,h,hx,w=>by
  unfold zF7 at h
  have lx:=zC9 hx
  rw [show D + (d + 1) = (D + d) + 1 by omega]
  split at h <;> rename_i hu
  ·injection h with h; subst h
   obtain ⟨x,rfl⟩:=List.length_eq_one_iff.1 lx
   have hs:zBE P t = false:=by unfold zBE; rw [hu]
   simp only [zBa,hs,Bool.false_eq_true,if_false,List.headD_cons]
   unfold Instr.checkKey
   simp [run_underlying hu,Result.andThen]
  ·injection h with h; subst h
   obtain ⟨x,rfl⟩:=List.length_eq_one_iff.1 lx
   have hs:zBE P t = false:=by unfold zBE; rw [hu]
   simp only [zBa,hs,Bool.false_eq_true,if_false,List.headD_cons]
   unfold Instr.checkKey
   simp [run_underlying hu,Result.andThen]
  ·injection h with h; subst h
   obtain ⟨x,rfl⟩:=List.length_eq_one_iff.1 lx
   have hs:zBE P t = false:=by unfold zBE; rw [hu]
   simp only [zBa,hs,Bool.false_eq_true,if_false,List.headD_cons]
   unfold Instr.checkKey
   simp [run_underlying hu,Result.andThen]
  ·rename_i fs
   split at h
   ·cases h
   have hs:zBE P t = true:=by unfold zBE; rw [hu]
   simp only [zBa,hs,if_true]
   unfold Instr.checkKey
   simp only [Sem.run_bind,run_underlying hu,Result.andThen]
   rw [← Array.forIn_toList]
   rw [zQF (D:=D + d) (e:=e) (fun t ks xs h1 h2 w=>zIt D d t ks xs h1 h2 w) xs (fun f v w h1 h2 h3=>by rw [if_pos h1]; simp only [Sem.run_bind,h2,h3,Result.andThen,Sem.run_pure]) fs.toList 0 ks h (Nat.zero_le _) (by simpa using hx) w]
   simp
  ·cases h
structure zKF {α:Type} (P:Program) (kt:TypeId) (cel:α→List Value):Prop where
 st:zBE P kt = true
 ks:∃ ks,zF7 P 9 kt = some ks∧∀ a,fits ks (cel a) = true
 inj:∀ a b,cel a = cel b→a = b
 bits:∀ a,Instr.sameBits 10000 (.agg (cel a).toArray) (.agg (cel a).toArray) = true
abbrev kyS {α:Type} (cel:α→List Value) (a:α):Value:=.agg (cel a).toArray
section
variable {α β:Type} [DecidableEq α] {B w:World} {Γ Δ:List zB} {kt:TypeId} {cel:α→List Value} {cV:β→Value} {k:K}
theorem zKF.chk (hE:zKF P kt cel) (a:α) (e:Bool) (w:World):(Instr.checkKey e 10000 kt (kyS cel a)).run P w = .ok () w:=by
 obtain ⟨ks,h1,h2⟩:=hE.ks
 have:=zIt 9991 (e:=e) 9 kt ks (cel a) h1 (h2 a) w
 simpa only [zBa,hE.st,if_true] using this
theorem zKF.eq (hE:zKF P kt cel) (a b:α) (w:World):(Op.equal kt (kyS cel a) (kyS cel b)).run P w = .ok (decide (a = b)) w:=by
 obtain ⟨ks,h1,h2⟩:=hE.ks
 obtain ⟨r,hr,hiff⟩:=zEY (d:=9) (by omega) h1 hE.st (h2 a) (h2 b) w
 have e:r = decide (a = b):=by rw [Bool.eq_iff_iff,hiff]; simp; exact ⟨hE.inj a b,fun h=>by rw [h]⟩
 rw [← e]; exact hr
theorem zOr (hE:zKF P kt cel) (a:α) (w:World):∀ (l:List MapEntry) (m:List (α×β)) (i:Nat),l.map (fun e=>(e.key,e.val)) = m.map (fun p=>(kyS cel p.1,cV p.2)) →
  (y9 a m = none∧(Instr.findAsking kt (kyS cel a) l i).run P w = .ok none w)∨∃ j x,m[j]? = some (a,x)∧(∀ i,i < j→∀ p,m[i]? = some p→p.1 ≠ a)∧(Instr.findAsking kt (kyS cel a) l i).run P w = .ok (some (i + j,cV x)) w
 | [],[],i,_=>.inl ⟨rfl,by simp [Instr.findAsking]⟩
 | [],_::_,i,h=>by simp at h
 | _::_,[],i,h=>by simp at h
 | e::l,p::m,i,h=>by
  simp only [List.map_cons,List.cons.injEq,Prod.mk.injEq] at h
  obtain ⟨⟨e1,e2⟩,h⟩:=h
  unfold Instr.findAsking
  simp only [Sem.run_bind,e1,hE.eq,Result.andThen]
  by_cases hp:a = p.1
  ·right
   refine ⟨0,p.2,by rw [hp]; rfl,fun i hi=>absurd hi (by omega),?_⟩
   simp [hp,e2]
  ·rcases zOr hE a w l m (i + 1) h with ⟨h1,h2⟩ | ⟨j,x,h1,h2,h3⟩
   ·left
    refine ⟨?_,?_⟩
    ·unfold y9; rw [if_neg hp]; exact h1
    ·simpa [hp] using h2
   ·right
    refine ⟨j + 1,x,by simpa using h1,fun i' hi q hq=>?_,?_⟩
    ·cases i' with
     | zero=>simp at hq; subst hq; exact fun e=>hp e.symm
     | succ i'=>exact h2 i' (by omega) q (by simpa using hq)
    ·simp only [hp,decide_false,Bool.false_eq_true,if_false,h3]
     congr 3; omega
theorem zHF (hE:zKF P kt cel) {es:Array MapEntry} {m:List (α×β)} (hr:zEX (kyS cel) cV es m) (a:α) (w:World) :
  ((Instr.findKey kt (kyS cel a) es.toList).run P w = .ok none w∧y9 a m = none∧(∀ v,vL a v m = m++[(a,v)])∧zH8 a m = m) ∨
  ∃ j x,(Instr.findKey kt (kyS cel a) es.toList).run P w = .ok (some (j,cV x)) w∧j < m.length∧m[j]? = some (a,x)∧y9 a m = some x∧(∀ v,vL a v m = m.set j (a,v))∧zH8 a m = m.eraseIdx j:=by
 obtain ⟨fs,hu⟩:∃ fs,P.underlying kt = some (.struct fs):=by
  have h1:=hE.st
  unfold zBE at h1
  split at h1
  ·rename_i fs hu; exact ⟨fs,hu⟩
  ·cases h1
 have hfk:(Instr.findKey kt (kyS cel a) es.toList).run P w = (Instr.findAsking kt (kyS cel a) es.toList 0).run P w:=by
  unfold Instr.findKey
  simp only [Sem.run_bind,run_underlying hu,Result.andThen]
  cases es.toList with
  | nil=>simp [Instr.findNow,Instr.findAsking]
  | cons e l=>simp [Instr.findNow,Instr.sameNow]
 rw [hfk]
 rcases zE7 a m with ⟨h1,h2,h3,h4⟩ | ⟨j,x,hj,h0,hb,h1,h2,h3⟩
 ·rcases zOr hE a w es.toList m 0 hr with ⟨_,g2⟩ | ⟨j,x,g1,_,_⟩
  ·exact .inl ⟨g2,h1,h2,h3⟩
  ·exact absurd rfl (h4 _ (List.mem_of_getElem? g1))
 ·rcases zOr hE a w es.toList m 0 hr with ⟨g1,_⟩ | ⟨j',x',g1,g2,g3⟩
  ·rw [g1] at h1; cases h1
  ·have hjj:j = j':=by
    rcases Nat.lt_trichotomy j j' with h | h | h
    ·exact absurd rfl (g2 j h _ h0)
    ·exact h
    ·exact absurd rfl (hb j' h _ g1)
   subst hjj
   rw [h0] at g1
   simp only [Option.some.injEq,Prod.mk.injEq,true_and] at g1
   subst g1
   exact .inr ⟨j,x,by simpa using g3,hj,h0,h1,h2,h3⟩
theorem zLc {T E:TypeId} {b:Nat} {m:List (α×β)} {z:β} {a:α} {k:β→K} (hE:zKF P kt cel) (hz:zBN P E (cV z)) (h:HG B Γ (k ((y9 a m).getD z))) (hT:P.underlying T = some (.map kt E):=by kernel_rfl) [p:Own b Γ (xM (kyS cel) cV b m) Δ] :
  HG B Γ (Rd P (Instr.lookup T (.map (some b)) (kyS cel a) false) cV k):=fun w hw=>by
 obtain ⟨es,c,⟨hr,hst⟩,h1⟩:=xM.opens (hw.perm p.perm)
 have hb:=h1.block
 refine ⟨_,?_,h w hw⟩
 unfold Instr.lookup
 simp only [Sem.run_bind,run_underlying hT,Result.andThen,MapKept.run_getObj_map hb,hE.chk,Sem.run_pure]
 rcases zHF hE hr a w with ⟨g1,g2,_⟩ | ⟨j,x,g1,_,_,g2,_⟩
 ·simp only [g1,Result.andThen,Sem.run_bind,zAU hz,Sem.run_pure,g2]; rfl
 ·simp only [g1,Result.andThen,Sem.run_bind,Sem.run_pure,g2]; rfl
theorem zRL {T E:TypeId} {b:Nat} {m:List (α×β)} {a:α} {v:β} {x:Value} (hE:zKF P kt cel) (hx:x = cV v) (h:HG B (xM (kyS cel) cV b (vL a v m)::Δ) k) (hT:P.underlying T = some (.map kt E):=by kernel_rfl) [p:Own b Γ (xM (kyS cel) cV b m) Δ] :
  HG B Γ (DoU P (Instr.mapUpdate T (.map (some b)) (kyS cel a) x) k):=fun w hw=>by
 subst hx
 obtain ⟨es,c,⟨hr,hst⟩,h1⟩:=xM.opens (hw.perm p.perm)
 have hb:=h1.block
 have hlen:es.size = m.length:=by have:=congrArg List.length hr; simpa using this
 unfold Instr.mapUpdate DoU
 simp only [Sem.run_bind,run_underlying hT,Result.andThen,MapKept.run_getObj_map hb,hE.chk]
 rcases zHF hE hr a w with ⟨g1,_,h2,_⟩ | ⟨j,x,g1,hj,h0,_,h2,_⟩
 ·simp only [g1,Result.andThen]
  obtain ⟨e1,h3⟩:=h1.zFa (P:=P) (es':=es.push { key:=kyS cel a,val:=cV v,born:=c }) (c':=c + 1)
  refine ⟨_,_,e1,h _ (xM.shuts ⟨?_,zGd hst _ _⟩ h3)⟩
  rw [h2]
  simp only [zEX,Array.toList_push,List.map_append,List.map_cons,List.map_nil]
  rw [show es.toList.map (fun e=>(e.key,e.val)) = _ from hr]
 ·have hes:∃ e,es.toList[j]? = some e∧e.key = kyS cel a:=by
   have:=zEm hr j
   rw [h0] at this
   cases he:es.toList[j]? with
   | none=>rw [he] at this; simp at this
   | some e =>
    rw [he] at this
    simp only [Option.map_some,Option.some.injEq,Prod.mk.injEq] at this
    exact ⟨e,rfl,this.1⟩
  obtain ⟨e,he,hek⟩:=hes
  have he2:es[j]? = some e:=by rw [← he,Array.getElem?_toList]
  simp only [g1,Result.andThen,Sem.run_bind,he2,Option.map_some,Option.getD_some,hek,Instr.keyThatStays,kyS,hE.bits,if_true,Sem.run_pure]
  obtain ⟨e1,h3⟩:=h1.zFa (P:=P) (es':=es.modify j fun e=>{ e with key:=kyS cel a,val:=cV v }) (c':=c)
  refine ⟨_,_,e1,h _ (xM.shuts ⟨?_,zEu hst _ _ _⟩ h3)⟩
  rw [h2]
  simp only [zEX]
  apply List.ext_getElem?
  intro i
  have hi:=zEm hr i
  simp only [List.getElem?_map,Array.getElem?_toList,Array.getElem?_modify] at hi ⊢
  by_cases hij:j = i
  ·subst hij
   rw [List.getElem?_set_self hj,he2]
   simp
  ·rw [List.getElem?_set_ne hij,if_neg hij]
   exact hi
theorem zRM {T E t:TypeId} {b:Nat} {m:List (α×β)} {a:α} {k:Value→K} (hE:zKF P kt cel) (h:HG B (xM (kyS cel) cV b (zH8 a m)::Δ) (k (.tuple #[]))) (hT:P.underlying T = some (.map kt E):=by kernel_rfl) [p:Own b Γ (xM (kyS cel) cV b m) Δ] :
  HG B Γ (Do P (Builtin.delete_ #[T,kt] t #[.map (some b),kyS cel a]) id k):=fun w hw=>by
 obtain ⟨es,c,⟨hr,hst⟩,h1⟩:=xM.opens (hw.perm p.perm)
 have hb:=h1.block
 have hlen:es.size = m.length:=by have:=congrArg List.length hr; simpa using this
 have e0:#[T,kt][0]? = some T:=rfl
 have e1:#[Value.map (some b),kyS cel a][0]? = some (.map (some b)):=rfl
 have e2:#[Value.map (some b),kyS cel a][1]? = some (kyS cel a):=rfl
 unfold Builtin.delete_ Do
 simp only [e0,e1,e2,Sem.run_bind,run_underlying hT,Result.andThen,MapKept.run_getObj_map hb,hE.chk]
 rcases zHF hE hr a w with ⟨g1,_,_,h2⟩ | ⟨j,x,g1,hj,h0,_,_,h2⟩
 ·simp only [g1,Result.andThen,Sem.run_bind]
  obtain ⟨e3,h3⟩:=h1.zFa (P:=P) (es':=es) (c':=c)
  refine ⟨.tuple #[],_,?_,h _ (xM.shuts ⟨?_,hst⟩ h3)⟩
  ·simp only [Sem.run_bind,e3,Result.andThen,Sem.run_pure]; rfl
  rw [h2]; exact hr
 ·simp only [g1,Result.andThen,Sem.run_bind]
  obtain ⟨e3,h3⟩:=h1.zFa (P:=P) (es':=es.eraseIdxIfInBounds j) (c':=c)
  refine ⟨.tuple #[],_,?_,h _ (xM.shuts ⟨?_,zOn hst _⟩ h3)⟩
  ·simp only [Sem.run_bind,e3,Result.andThen,Sem.run_pure]; rfl
  rw [h2]
  have hjs:j < es.size:=by omega
  simp only [zEX,Array.eraseIdxIfInBounds,dif_pos hjs,Array.toList_eraseIdx]
  have mape:∀ {α β:Type} (f:α→β) (l:List α) (i:Nat),(l.eraseIdx i).map f = (l.map f).eraseIdx i:=by
   intro α β f l
   induction l with
   | nil=>intro i; simp
   | cons x l ih=>intro i; cases i <;> simp [ih]
  rw [mape,mape,show es.toList.map (fun e=>(e.key,e.val)) = _ from hr]
theorem zTA {enc:α→Value} {T E:TypeId} {d:TypeDesc} {b:Nat} {m:List (α×β)} {k:Option Addr→K} (hT:zE8 P T d E) (h:∀ r,HG B (zAN enc cV b r m m none::Δ) (k (some ⟨r,0,none⟩))) [p:Own b Γ (xM enc cV b m) Δ] :
  HG B Γ (Do P (Instr.range T (.map (some b))) Value.pointer k):=fun w hw=>zS5 hT (hw.perm p.perm) fun r w hw=>h r w hw
class zT4 (r:Nat) (Γ:List zB) (A:outParam zB) (Δ:outParam (List zB)):Prop where perm:Γ.Perm (A::Δ)
instance (priority:=low) zZv {r:Nat} {X A:zB} {Γ Δ:List zB} [h:zT4 r Γ A Δ]:zT4 r (X::Γ) A (X::Δ):=⟨zG7 h.perm⟩
instance (priority:=high) zbE {α β:Type} [DecidableEq α] {enc:α→Value} {cV:β→Value} {b r:Nat} {m left:List (α×β)} {cur:Option (α×β)} {Γ:List zB}:zT4 r (zAN enc cV b r m left cur::Γ) (zAN enc cV b r m left cur) Γ:=⟨.refl _⟩
theorem zZT {α:Type} {vs:List Value} {i:Nat} {c:α→Value} {v:Value} {x:α} {k:α→K} (h:HG B Γ (k x)) [n:zQA vs i v] [e:Cv c v x]:HG B Γ (Ext (.tuple vs.toArray) i c k):=fun w hw=>⟨_,x,rfl,by have:=n.h; rw [zAq] at this; rw [e.h] at this; simpa using this,h w hw⟩
instance zbm {α:Type} {vs:List Value} {i:Nat} {c:α→Value} {v:Value} {x:α} {k:α→K} [n:zQA vs i v] [e:Cv c v x]:Nx B Γ (Ext (.tuple vs.toArray) i c k) Γ (k x):=⟨fun h=>zZT h⟩
theorem zVg {enc:α→Value} {b r:Nat} {m left:List (α×β)} {cur:Option (α×β)} {k:Value→K} (h0:left = []→HG B (xM enc cV b m::Δ) (k (.tuple #[.bool false])))
  (h1:∀ l1 p l2,left = l1++p::l2→p ∈ m→HG B (zAN enc cV b r m (l1++l2) (some p)::Δ) (k (.tuple #[.bool true,enc p.1,cV p.2]))) [p:zT4 r Γ (zAN enc cV b r m left cur) Δ] :
  HG B Γ (Do P (Instr.next (.pointer (some ⟨r,0,none⟩)) false 0) id k):=fun w hw=>zVf (hw.perm p.perm) (fun h w hw=>h0 h w hw) fun l1 q l2 w e hq hw=>h1 l1 q l2 e hq w hw
theorem zTB {enc:α→Value} {b r:Nat} {m left:List (α×β)} {q:α×β} {k:Value→K} (h:HG B Γ (k (.tuple #[enc q.1,cV q.2]))) [p:zT4 r Γ (zAN enc cV b r m left (some q)) Δ] :
  HG B Γ (Do P (Instr.entry (.pointer (some ⟨r,0,none⟩))) id k):=fun w hw=>zS6 (hw.perm p.perm) (h w hw)
theorem zXd {enc:α→Value} {b r:Nat} {m left:List (α×β)} {cur:Option (α×β)} (h:HG B (xM enc cV b m::Δ) k) [p:zT4 r Γ (zAN enc cV b r m left cur) Δ]:HG B Γ k:=fun w hw=>h w (zAN.ends (hw.perm p.perm))
end
end
end
end Go.Sep
namespace Go.Proofs.YtdemfamgieonbaaGreat
section
open Go Go.Sep
structure ql where
 node:Int
 epoch:Int
 seq:Int
 tr:Int
deriving DecidableEq
abbrev qQ (t:ql):List Value:=[.int .i64 t.node,.int .u64 t.epoch,.int .u64 t.seq,.int .i64 t.tr]
theorem zFD (c:ql):(qQ c).length = 4:=rfl
theorem zGf {a b:ql}:qQ a = qQ b ↔ a = b:=by
 cases a; cases b; simp [qQ]
abbrev zVh:List Ck:=[.int .i64,.int .u64,.int .u64,.int .i64]
end
end Go.Proofs.YtdemfamgieonbaaGreat
namespace Go.Sep
section
open Go Go.RowKit
abbrev zVi (esz:Nat) (s:Sl) (i:Int) (k:Value→K):K:=Idx s i esz fun t=>LdN t esz fun a=>k (.agg a)
abbrev zVj {α:Type} (c:α→Value) (s:Sl) (i:Int) (k:Value→K):K:=Idx s i 1 fun t=>Ld t c fun a=>k (c a)
def zHv (P:Program) (acc:Sl→Int→(Value→K)→K) (s:Sl) (fv:Value) (Q:Int→K):K :=
 yN (α:=Int) (fun X x=>
  Ite (decide (x < (s.n:Int)))
   (acc s x fun v=>
   vW P fv [v] <| yH (fun (t:Bool)=>Value.bool t) fun b=>
   Ite b
    (Q x)
    (Ar (IntKind.wrap .i64 (x + 1)) fun t=>
    X t))
   (Q (-1))) 0
def zCk {γ α:Type} (p:γ→α→Bool) (st:γ→α→γ):γ→List α→γ×Option Nat
 | g,[]=>(g,none)
 | g,x::L=>if p g x then (st g x,some 0) else ((zCk p st (st g x) L).1,(zCk p st (st g x) L).2.map (· + 1))
def zFb:Option Nat→Int
 | none=>-1
 | some i=>i
def zBh {γ α:Type} (p:γ→α→Bool) (st:γ→α→γ):γ→List α→γ×List α
 | g,[]=>(g,[])
 | g,x::L=>((zBh p st (st g x) L).1,if p g x then (zBh p st (st g x) L).2 else x::(zBh p st (st g x) L).2)
section
variable {P:Program} {B:World} {Γ Δ:List zB} {α γ:Type}
theorem zEP {p:γ→α→Bool} {st:γ→α→γ} {g:γ} {x:α} {L:List α}:zBh p st g (x::L) = ((zBh p st (st g x) L).1,if p g x then (zBh p st (st g x) L).2 else x::(zBh p st (st g x) L).2):=rfl
theorem zH9 {p:γ→α→Bool} {st:γ→α→γ} {g:γ} {x:α} {L:List α}:zCk p st g (x::L) = if p g x then (st g x,some 0) else ((zCk p st (st g x) L).1,(zCk p st (st g x) L).2.map (· + 1)):=rfl
theorem zYq {b n:Nat} {l:List Value} {T:TypeId} {fz:Nat×Nat} {k:Array Value→K} (h:HG B Γ (k l.toArray)) (hl:l.length = n) [p:Own b Γ (blk b (.cells l.toArray T fz)) Δ]:HG B Γ (LdN ⟨b,0,none⟩ n k) :=
 qW (b:=b) (off:=0) (l':=l) h (by rw [List.drop_zero,List.take_of_length_le (Nat.le_of_eq hl)]) hl
theorem zRN {R:γ→List zB} {acc:Sl→Int→(Value→K)→K} {s:Sl} {fv:Value} {vV:α→Value} {Q:Int→K} {L:List α} (p:γ→α→Bool) (st:γ→α→γ) (g0:γ) (I:γ→List α→Prop) (hI:I g0 L) (hIs:∀ g x C,I g (x::C)→I (st g x) C) (hn:s.n = L.length) (hL:L.length < 1000000000)
  (hacc:∀ g (i:Nat) x k,L[i]? = some x→HG B (R g) (k (vV x))→HG B (R g) (acc s (i:Int) k))
  (hf:∀ g x C (q:Bool→K),x ∈ L→I g (x::C)→HG B (R (st g x)) (q (p g x))→HG B (R g) (vW P fv [vV x] (yH (fun (t:Bool)=>Value.bool t) q)))
  (h:HG B (R (zCk p st g0 L).1) (Q (zFb (zCk p st g0 L).2))):HG B (R g0) (zHv P acc s fv Q):=by
 unfold zHv
 refine vQ (α:=Int) (ι:=Nat×γ) (fun x i=>x = (i.1:Int)∧i.1 ≤ L.length∧I i.2 (L.drop i.1)∧zCk p st g0 L = ((zCk p st i.2 (L.drop i.1)).1,(zCk p st i.2 (L.drop i.1)).2.map (· + i.1)))
  (fun x i=>R i.2) (fun x i=>L.length - i.1) (0,g0) ⟨rfl,Nat.zero_le _,hI,by simp⟩ ?_
 rintro k' _ ⟨i,g⟩ ⟨rfl,hi,hIg,he⟩ hk'
 simp only at hi hIg he hk' ⊢
 refine zH (fun hb=>?_) fun hb=>?_
 ·have hil:i < L.length:=by simp only [decide_eq_true_eq] at hb; omega
  have hge:L[i]? = some L[i]:=List.getElem?_eq_getElem hil
  rw [List.drop_eq_getElem_cons hil] at he hIg
  have hm:L[i] ∈ L:=List.getElem_mem hil
  generalize L[i] = x at hge he hm hIg
  refine hacc g i x _ hge ?_
  refine hf g x _ _ hm hIg ?_
  rw [zH9] at he
  refine zH (fun hp=>?_) fun hp=>?_
  ·rw [if_pos hp] at he
   rw [he] at h
   simpa [zFb] using h
  ·rw [if_neg (by simp [hp])] at he
   refine qU ?_
   refine hk' _ (i + 1,st g x) ⟨by simp,hil,hIs _ _ _ hIg,?_⟩ (by simp only; omega)
   simp only
   rw [he,Option.map_map]
   congr 2
   funext y
   simp only [Function.comp]; omega
 ·have hil:i = L.length:=by simp only [decide_eq_false_iff_not] at hb; omega
  rw [hil,List.drop_length] at he
  rw [he] at h
  simpa [zCk,zFb] using h
theorem zLd (p:α→Bool):∀ L:List α,(zCk (fun (_:Unit) x=>p x) (fun _ _=>()) () L).2 = L.findIdx? p
 | []=>rfl
 | x::L=>by
  rw [zH9,List.findIdx?_cons]
  split
  ·rfl
  ·rw [zLd p L]
theorem zJR (p:α→Bool):∀ L:List α,(zBh (fun (_:Unit) x=>p x) (fun _ _=>()) () L).2 = L.filter fun x=>!p x
 | []=>rfl
 | x::L=>by
  rw [zEP,zJR p L,List.filter_cons]
  cases p x <;> simp
theorem zIu {acc:Sl→Int→(Value→K)→K} {s:Sl} {fv:Value} {vV:α→Value} {Q:Int→K} {L:List α} (p:α→Bool) (hn:s.n = L.length) (hL:L.length < 1000000000)
  (hacc:∀ (i:Nat) x k,L[i]? = some x→HG B Γ (k (vV x))→HG B Γ (acc s (i:Int) k))
  (hf:∀ x (q:Bool→K),x ∈ L→HG B Γ (q (p x))→HG B Γ (vW P fv [vV x] (yH (fun (t:Bool)=>Value.bool t) q)))
  (h:HG B Γ (Q (zFb (L.findIdx? p)))):HG B Γ (zHv P acc s fv Q) :=
 zRN (R:=fun _=>Γ) (fun (_:Unit) x=>p x) (fun _ _=>()) () (fun _ _=>True) trivial (fun _ _ _ _=>trivial) hn hL (fun _=>hacc) (fun _ x _ q hx _=>hf x q hx) (by rw [zLd]; exact h)
theorem zGg (o:Option Nat):decide ((0:Int) ≤ zFb o) = o.isSome:=by
 cases o <;> simp [zFb]
theorem zOs (p:α→Bool) (L:List α):(L.findIdx? p).isSome = L.any p:=by simp [List.findIdx?_isSome]
theorem zTC {f:α→List Value} {esz E:Nat} {s:Sl} {L:List α} {i:Nat} {x:α} {k:Value→K} (hf:∀ x,(f x).length = esz) (he:0 < esz) (hx:L[i]? = some x) (h:HG B Γ (k (.agg (f x).toArray))) [o:zBg s Γ (SlC E esz s (L.flatMap f)) Δ]:HG B Γ (zVi esz s (i:Int) k) :=
 zAw f hf (fun w hw=>(yh hw (p:=o)).1) hx h rfl he
theorem zZU {f:α→List Value} {esz:Nat} {s:Sl} {L:List α} {i:Nat} {x:α} {k:Value→K} (hf:∀ x,(f x).length = esz) (he:0 < esz) (hr:∀ w,Holds B Γ w→RdC w s esz (L.flatMap f)) (hx:L[i]? = some x) (h:HG B Γ (k (.agg (f x).toArray))):HG B Γ (zVi esz s (i:Int) k) :=
 zAw f hf hr hx h rfl he
theorem zVk {β:Type} {c:β→Value} {E:Nat} {s:Sl} {L:List β} {i:Nat} {x:β} {k:Value→K} (hx:L[i]? = some x) (h:HG B Γ (k (c x))) [o:zBg s Γ (SlC E 1 s (L.map c)) Δ]:HG B Γ (zVj c s (i:Int) k) :=
 zAA (fun w hw=>(yh hw (p:=o)).1) hx h
def zTD (P:Program) (idx:Sl→Value→(Int→K)→K) (E T t esz:Nat) (zs:List Value) (s:Sl) (fv:Value) (Q:Sl→K):K :=
 idx s fv fun t10=>
 Ite (decide (t10 = (-1)))
  (Q s)
  (Ar (IntKind.wrap .i64 (t10 + 1)) fun t15=>
  yN (α:=Int×Int) (fun X x=>
   Ite (decide (x.2 < (s.n:Int)))
    (Idx s x.2 esz fun t24=>
    LdN t24 esz fun t25=>
    New E zs.toArray fun v7=>
    StN v7 esz t25<|
    LdN v7 esz fun t27=>
    vW P fv [(.agg t27)] <| yH (fun (t28:Bool)=>Value.bool t28) fun t28=>
    Ite (!t28)
     (LdN v7 esz fun t32=>
     Idx s x.1 esz fun t33=>
     StN t33 esz t32<|
     Ar (IntKind.wrap .i64 (x.1 + 1)) fun t35=>
     Ar (IntKind.wrap .i64 (x.2 + 1)) fun t21=>
     X (t35,t21))
     (Ar (IntKind.wrap .i64 (x.2 + 1)) fun t21=>
     X (x.1,t21)))
    (Slc s x.1 (s.n:Int) (s.c:Int) esz fun t38=>
    Do P (Builtin.clear_ #[T] t #[(Sl.val t38)]) id fun _=>
    Slc s 0 x.1 (s.c:Int) esz fun t41=>
    Q t41)) (t10,t15))
def zVl {β:Type} (P:Program) (idx:Sl→Value→(Int→K)→K) (T t:Nat) (c:β→Value) (s:Sl) (fv:Value) (Q:Sl→K):K :=
 idx s fv fun t10=>
 Ite (decide (t10 = (-1)))
  (Q s)
  (Ar (IntKind.wrap .i64 (t10 + 1)) fun t15=>
  yN (α:=Int×Int) (fun X x=>
   Ite (decide (x.2 < (s.n:Int)))
    (Idx s x.2 1 fun t24=>
    Ld t24 c fun t25=>
    vW P fv [c t25] <| yH (fun (t28:Bool)=>Value.bool t28) fun t28=>
    Ite (!t28)
     (Idx s x.1 1 fun t33=>
     St t33 (c t25)<|
     Ar (IntKind.wrap .i64 (x.1 + 1)) fun t35=>
     Ar (IntKind.wrap .i64 (x.2 + 1)) fun t21=>
     X (t35,t21))
     (Ar (IntKind.wrap .i64 (x.2 + 1)) fun t21=>
     X (x.1,t21)))
    (Slc s x.1 (s.n:Int) (s.c:Int) 1 fun t38=>
    Do P (Builtin.clear_ #[T] t #[(Sl.val t38)]) id fun _=>
    Slc s 0 x.1 (s.c:Int) 1 fun t41=>
    Q t41)) (t10,t15))
theorem zJS (p:γ→α→Bool) (st:γ→α→γ) {I:γ→List α→Prop} (hIs:∀ g x C,I g (x::C)→I (st g x) C):∀ (g:γ) (L:List α),I g L→((zCk p st g L).2 = none∧zBh p st g L = ((zCk p st g L).1,L)) ∨
  ∃ A x C,L = A++x::C∧(zCk p st g L).2 = some A.length∧I (zCk p st g L).1 C∧zBh p st g L = ((zBh p st (zCk p st g L).1 C).1,A++(zBh p st (zCk p st g L).1 C).2)
 | g,[],_=>.inl ⟨rfl,rfl⟩
 | g,x::L,hI=>by
  rw [zH9,zEP]
  by_cases hp:p g x = true
  ·right
   exact ⟨[],x,L,rfl,by simp [hp],by simpa [hp] using hIs _ _ _ hI,by simp [hp]⟩
  ·rcases zJS p st hIs (st g x) L (hIs _ _ _ hI) with ⟨h1,h2⟩ | ⟨A,y,C,rfl,h2,h4,h3⟩
   ·left
    simp only [hp,Bool.false_eq_true,if_false,h1,h2,Option.map_none,and_self]
   ·right
    refine ⟨x::A,y,C,rfl,?_,?_,?_⟩
    ·simp only [hp,Bool.false_eq_true,if_false,h2,Option.map_some,List.length_cons]
    ·simpa only [hp,Bool.false_eq_true,if_false] using h4
    ·simp only [hp,Bool.false_eq_true,if_false,h3,List.cons_append]
theorem zIv {M:List α} {i:Nat} {x:α} (hi:i < M.length):(M.set i x).take (i + 1) = M.take i++[x]:=by
 rw [List.take_succ_eq_append_getElem (by simpa using hi),List.take_set_of_le (Nat.le_refl _),List.getElem_set_self]
theorem set_drop {M:List α} {i j:Nat} {x:α} (hij:i < j):(M.set i x).drop j = M.drop j:=by rw [List.drop_set_of_lt hij]
theorem zQG {f:α→List Value} {esz E:Nat} {s:Sl} {M:List α} {i:Nat} {x:α} {k:K} (hf:∀ x,(f x).length = esz) (hfl:(f x).all yX = true) (hi:i < M.length) (h:HG B (SlC E esz s ((M.set i x).flatMap f)::Δ) k) [o:zBg s Γ (SlC E esz s (M.flatMap f)) Δ]:HG B Γ (StN (elA s i esz) esz (f x).toArray k):=by
 have e1:M = M.take i++M[i]::M.drop (i + 1):=by rw [← List.drop_eq_getElem_cons hi,List.take_append_drop]
 have e2:M.set i x = M.take i++x::M.drop (i + 1):=by rw [List.set_eq_take_append_cons_drop,if_pos hi]
 have hl:(M.take i).length = i:=by rw [List.length_take]; omega
 rw [e2] at h
 refine fun w hw=>?_
 have hw2:=hw.perm o.perm
 rw [e1] at hw2
 rw [show elA s i esz = elA s (M.take i).length esz by rw [hl]]
 refine hg hw2 ?_
 rw [← add0 (elA s (M.take i).length esz)]
 refine zOb (s:=s) (us:=f x) ?_ (hf x) ?_ hfl
 ·have e:zC3 ((M.take i++M[i]::M.drop (i + 1)).flatMap f) ((M.take i).length * esz + 0) (f x) = (M.take i++x::M.drop (i + 1)).flatMap f:=by
   have e1:(M.take i++M[i]::M.drop (i + 1)).flatMap f = (M.take i).flatMap f++(f M[i]++(M.drop (i + 1)).flatMap f):=by simp only [List.flatMap_append,List.flatMap_cons]
   have e2:(M.take i++x::M.drop (i + 1)).flatMap f = (M.take i).flatMap f++(f x++(M.drop (i + 1)).flatMap f):=by simp only [List.flatMap_append,List.flatMap_cons]
   rw [e1,e2,zDY (by simp [zn f esz hf]) (by rw [hf,hf])]
  rw [e]; exact h
 ·have e3:((M.take i++M[i]::M.drop (i + 1)).flatMap f).length = ((M.take i).length + ((M.drop (i + 1)).length + 1)) * esz:=by rw [zn f esz hf]; simp only [List.length_append,List.length_cons]
  rw [e3,Nat.add_mul,Nat.add_mul]; omega
theorem zLe {f:α→List Value} {esz:Nat} (hf:∀ x,(f x).length = esz):∀ (L:List α) (i:Nat),(L.flatMap f).take (i * esz) = (L.take i).flatMap f
 | L,0=>by simp
 | [],i + 1=>by simp
 | x::L,i + 1=>by
  rw [List.flatMap_cons,List.take_succ_cons,List.flatMap_cons,← zLe hf L i,Nat.add_mul,Nat.one_mul,Nat.add_comm,← hf x,List.take_length_add_append]
theorem zTE {R:γ→List zB} {idx:Sl→Value→(Int→K)→K} {E T t esz:Nat} {zs:List Value} {s:Sl} {fv:Value} {Q:Sl→K} {f:α→List Value} {L:List α} (p:γ→α→Bool) (st:γ→α→γ) (g0:γ) (I:γ→List α→Prop) (hI:I g0 L) (hIs:∀ g x C,I g (x::C)→I (st g x) C)
  (hidx:∀ s fv Q w,zHv P (zVi esz) s fv Q w→idx s fv Q w) (hf:∀ x,(f x).length = esz) (he:0 < esz) (hfl:∀ x,(f x).all yX = true) (hz:zs.length = esz) (hL:L.length < 1000000000)
  (hc:∀ Ξ g x C (q:Bool→K),x ∈ L→I g (x::C)→HG B (Ξ::R (st g x)) (q (p g x))→HG B (Ξ::R g) (vW P fv [(.agg (f x).toArray)] (yH (fun (t:Bool)=>Value.bool t) q)))
  (h:∀ s',s'.n = (zBh p st g0 L).2.length→HG B (SlC E esz s' ((zBh p st g0 L).2.flatMap f)::R (zBh p st g0 L).1) (Q s')) (hT:zF2 P T T E esz = true:=by kernel_rfl) :
  HG B (SlC E esz s (L.flatMap f)::R g0) (zTD P idx E T t esz zs s fv Q):=by
 unfold zTD
 refine yS s fun a1 a2 a3 a4=>?_
 rw [zn f esz hf] at a1
 have hn:s.n = L.length:=(Nat.eq_of_mul_eq_mul_right he a1).symm
 refine fun w hw=>hidx _ _ _ _ ?_
 refine hg hw ?_
 clear hw w
 refine zRN (R:=fun g=>SlC E esz s (L.flatMap f)::R g) (vV:=fun x=>.agg (f x).toArray) p st g0 I hI hIs hn hL (fun g i x k hx hk=>zTC hf he hx hk) (fun g x C q hx hI hq=>hc _ g x C q hx hI hq) ?_
 rcases zJS p st hIs g0 L hI with ⟨h1,h2⟩ | ⟨A,x,C,rfl,h1,hI1,h2⟩
 ·rw [h1]
  rw [h2] at h
  refine s_t ?_ (by simp [zFb])
  exact h s hn
 rw [h1]
 have hlen:(A++x::C).length = A.length + (C.length + 1):=List.length_append
 generalize (zCk p st g0 (A++x::C)).1 = g1 at *
 refine s_f ?_ (by simp [zFb])
 simp only [zFb]
 refine qU ?_
 refine vQ (α:=Int×Int) (ι:=Nat×Nat×List α×γ) (fun y i=>y.1 = (i.1:Int)∧y.2 = (i.2.1:Int)∧i.1 < i.2.1∧i.2.1 ≤ (A++x::C).length∧i.2.2.1.length = (A++x::C).length∧i.2.2.1.drop i.2.1 = (A++x::C).drop i.2.1∧I i.2.2.2 ((A++x::C).drop i.2.1)∧zBh p st g0 (A++x::C) = ((zBh p st i.2.2.2 ((A++x::C).drop i.2.1)).1,i.2.2.1.take i.1++(zBh p st i.2.2.2 ((A++x::C).drop i.2.1)).2))
  (fun y i=>SlC E esz s (i.2.2.1.flatMap f)::R i.2.2.2) (fun y i=>(A++x::C).length - i.2.1) (A.length,A.length + 1,A++x::C,g1) ⟨rfl,by simp,by simp,by simp,rfl,rfl,?_,?_⟩ ?_
 ·simp only
  have e:(A++x::C).drop (A.length + 1) = C:=by rw [show A++x::C = (A++[x])++C by simp]; exact List.drop_left' (by simp)
  rw [e]; exact hI1
 ·simp only
  have e:(A++x::C).drop (A.length + 1) = C:=by rw [show A++x::C = (A++[x])++C by simp]; exact List.drop_left' (by simp)
  rw [e,List.take_left,h2]
 rintro k' ⟨_,_⟩ ⟨i,j,M,g⟩ ⟨rfl,rfl,hij,hj,hM,hd,hIg,hdel⟩ hk'
 simp only at hij hj hM hd hIg hdel hk' ⊢
 refine zH (fun hb=>?_) fun hb=>?_
 ·have hjl:j < (A++x::C).length:=by simp only [decide_eq_true_eq] at hb; omega
  have hMj:M[j]? = some (A++x::C)[j]:=by
   have:=congrArg (·[0]?) hd
   simp only [List.getElem?_drop,Nat.add_zero] at this
   rw [this,List.getElem?_eq_getElem hjl]
  have hmem:(A++x::C)[j] ∈ A++x::C:=List.getElem_mem hjl
  have hdrop:=List.drop_eq_getElem_cons hjl
  rw [hdrop] at hdel hIg
  generalize (A++x::C)[j] = y at hMj hmem hdel hdrop hIg
  rw [zEP] at hdel
  refine zAw f hf (fun w hw=>(yh (s:=s) hw).1) hMj ?_
  refine zR fun v7=>?_
  refine qX (b:=v7) ?_ hz (hf y) (hfl y)
  refine zYq (b:=v7) ?_ (hf y)
  refine zDp (Δ:=[blk v7 (.cells (f y).toArray E (0,0)),SlC E esz s (M.flatMap f)]) ?_
  refine hc _ g y _ _ hmem hIg ?_
  refine zBX ?_
  show HG B (blk v7 (.cells (f y).toArray E (0,0))::SlC E esz s (M.flatMap f)::R (st g y)) _
  refine zH (fun hp=>?_) fun hp=>?_
  ·have hp':p g y = false:=by simpa using hp
   rw [hp'] at hdel
   simp only [Bool.false_eq_true,if_false] at hdel
   refine zYq (b:=v7) ?_ (hf y)
   refine vZ (s:=s) (i:=i) ?_
   refine zQG (s:=s) hf (hfl y) (by omega) ?_
   refine qU ?_
   refine qU ?_
   refine zC (hk' _ (i + 1,j + 1,M.set i y,st g y) ⟨by simp,by simp,by simp only; omega,hjl,by simpa using hM,?_,hIs _ _ _ hIg,?_⟩ (by simp only; omega))
   ·simp only
    rw [set_drop (by omega),← List.drop_drop,← List.drop_drop,hd]
   ·simp only
    rw [zIv (by omega),hdel]
    simp
  ·have hp':p g y = true:=by simpa using hp
   rw [hp'] at hdel
   simp only [if_true] at hdel
   refine qU ?_
   refine zC (hk' _ (i,j + 1,M,st g y) ⟨rfl,by simp,by simp only; omega,hjl,hM,?_,hIs _ _ _ hIg,hdel⟩ (by simp only; omega))
   simp only
   rw [← List.drop_drop,← List.drop_drop,hd]
 ·have hjl:j = (A++x::C).length:=by simp only [decide_eq_false_iff_not] at hb; omega
  rw [hjl,List.drop_length] at hdel
  simp only [zBh,List.append_nil] at hdel
  rw [hdel] at h
  refine zAC (lo:=i) (hi:=s.n) (mx:=s.c) ?_
  refine zCL (s:=s) (m:=i) (c':=s.c) (by omega) (by omega) (Nat.le_refl _) ?_
  rw [zLe hf]
  refine zIl (s:=⟨s.a,i,s.c⟩) (l:=i) (q:=s.n - i) (m:=s.c) rfl (Nat.le_refl _) (by simp only; omega) (by omega) ?_ (hT:=hT)
  refine zAC (lo:=0) (hi:=i) (mx:=s.c) ?_
  rw [zJJ a3]
  exact h ⟨s.a,i,s.c⟩ (by simp; omega)
theorem zXe {β:Type} {R:γ→List zB} {idx:Sl→Value→(Int→K)→K} {E T t:Nat} {c:β→Value} {s:Sl} {fv:Value} {Q:Sl→K} {L:List β} (p:γ→β→Bool) (st:γ→β→γ) (g0:γ) (I:γ→List β→Prop) (hI:I g0 L) (hIs:∀ g x C,I g (x::C)→I (st g x) C)
  (hidx:∀ s fv Q w,zHv P (zVj c) s fv Q w→idx s fv Q w) (hfl:∀ x,yX (c x) = true) (hL:L.length < 1000000000)
  (hc:∀ Ξ g x C (q:Bool→K),x ∈ L→I g (x::C)→HG B (Ξ::R (st g x)) (q (p g x))→HG B (Ξ::R g) (vW P fv [c x] (yH (fun (t:Bool)=>Value.bool t) q)))
  (h:∀ s',s'.n = (zBh p st g0 L).2.length→HG B (SlC E 1 s' ((zBh p st g0 L).2.map c)::R (zBh p st g0 L).1) (Q s')) (hT:zF2 P T T E 1 = true:=by kernel_rfl) :
  HG B (SlC E 1 s (L.map c)::R g0) (zVl P idx T t c s fv Q):=by
 unfold zVl
 refine yS s fun a1 a2 a3 a4=>?_
 rw [List.length_map,Nat.mul_one] at a1
 have hn:s.n = L.length:=a1.symm
 refine fun w hw=>hidx _ _ _ _ ?_
 refine hg hw ?_
 clear hw w
 refine zRN (R:=fun g=>SlC E 1 s (L.map c)::R g) (vV:=c) p st g0 I hI hIs hn hL (fun g i x k hx hk=>zVk hx hk) (fun g x C q hx hI hq=>hc _ g x C q hx hI hq) ?_
 rcases zJS p st hIs g0 L hI with ⟨h1,h2⟩ | ⟨A,x,C,rfl,h1,hI1,h2⟩
 ·rw [h1]
  rw [h2] at h
  refine s_t ?_ (by simp [zFb])
  exact h s hn
 rw [h1]
 have hlen:(A++x::C).length = A.length + (C.length + 1):=List.length_append
 generalize (zCk p st g0 (A++x::C)).1 = g1 at *
 refine s_f ?_ (by simp [zFb])
 simp only [zFb]
 refine qU ?_
 refine vQ (α:=Int×Int) (ι:=Nat×Nat×List β×γ) (fun y i=>y.1 = (i.1:Int)∧y.2 = (i.2.1:Int)∧i.1 < i.2.1∧i.2.1 ≤ (A++x::C).length∧i.2.2.1.length = (A++x::C).length∧i.2.2.1.drop i.2.1 = (A++x::C).drop i.2.1∧I i.2.2.2 ((A++x::C).drop i.2.1)∧zBh p st g0 (A++x::C) = ((zBh p st i.2.2.2 ((A++x::C).drop i.2.1)).1,i.2.2.1.take i.1++(zBh p st i.2.2.2 ((A++x::C).drop i.2.1)).2))
  (fun y i=>SlC E 1 s (i.2.2.1.map c)::R i.2.2.2) (fun y i=>(A++x::C).length - i.2.1) (A.length,A.length + 1,A++x::C,g1) ⟨rfl,by simp,by simp,by simp,rfl,rfl,?_,?_⟩ ?_
 ·simp only
  have e:(A++x::C).drop (A.length + 1) = C:=by rw [show A++x::C = (A++[x])++C by simp]; exact List.drop_left' (by simp)
  rw [e]; exact hI1
 ·simp only
  have e:(A++x::C).drop (A.length + 1) = C:=by rw [show A++x::C = (A++[x])++C by simp]; exact List.drop_left' (by simp)
  rw [e,List.take_left,h2]
 rintro k' ⟨_,_⟩ ⟨i,j,M,g⟩ ⟨rfl,rfl,hij,hj,hM,hd,hIg,hdel⟩ hk'
 simp only at hij hj hM hd hIg hdel hk' ⊢
 refine zH (fun hb=>?_) fun hb=>?_
 ·have hjl:j < (A++x::C).length:=by simp only [decide_eq_true_eq] at hb; omega
  have hMj:M[j]? = some (A++x::C)[j]:=by
   have:=congrArg (·[0]?) hd
   simp only [List.getElem?_drop,Nat.add_zero] at this
   rw [this,List.getElem?_eq_getElem hjl]
  have hmem:(A++x::C)[j] ∈ A++x::C:=List.getElem_mem hjl
  have hdrop:=List.drop_eq_getElem_cons hjl
  rw [hdrop] at hdel hIg
  generalize (A++x::C)[j] = y at hMj hmem hdel hdrop hIg
  rw [zEP] at hdel
  refine zAA (fun w hw=>(yh (s:=s) hw).1) hMj ?_
  refine hc _ g y _ _ hmem hIg ?_
  refine zH (fun hp=>?_) fun hp=>?_
  ·have hp':p g y = false:=by simpa using hp
   rw [hp'] at hdel
   simp only [Bool.false_eq_true,if_false] at hdel
   refine vZ (s:=s) (i:=i) ?_
   rw [← add0 (elA s i 1)]
   refine zPx (s:=s) ?_ (by simp; omega) (hfl y)
   rw [show i * 1 + 0 = i by omega,← List.map_set]
   refine qU ?_
   refine qU ?_
   refine zC (hk' _ (i + 1,j + 1,M.set i y,st g y) ⟨by simp,by simp,by simp only; omega,hjl,by simpa using hM,?_,hIs _ _ _ hIg,?_⟩ (by simp only; omega))
   ·simp only
    rw [set_drop (by omega),← List.drop_drop,← List.drop_drop,hd]
   ·simp only
    rw [zIv (by omega),hdel]
    simp
  ·have hp':p g y = true:=by simpa using hp
   rw [hp'] at hdel
   simp only [if_true] at hdel
   refine qU ?_
   refine zC (hk' _ (i,j + 1,M,st g y) ⟨rfl,by simp,by simp only; omega,hjl,hM,?_,hIs _ _ _ hIg,hdel⟩ (by simp only; omega))
   simp only
   rw [← List.drop_drop,← List.drop_drop,hd]
 ·have hjl:j = (A++x::C).length:=by simp only [decide_eq_false_iff_not] at hb; omega
  rw [hjl,List.drop_length] at hdel
  simp only [zBh,List.append_nil] at hdel
  rw [hdel] at h
  refine zAC (lo:=i) (hi:=s.n) (mx:=s.c) ?_
  refine zCL (s:=s) (m:=i) (c':=s.c) (by omega) (by omega) (Nat.le_refl _) ?_
  rw [show (M.map c).take (i * 1) = (M.take i).map c by simp]
  refine zIl (s:=⟨s.a,i,s.c⟩) (l:=i) (q:=s.n - i) (m:=s.c) rfl (Nat.le_refl _) (by simp only; omega) (by omega) ?_ (hT:=hT)
  refine zAC (lo:=0) (hi:=i) (mx:=s.c) ?_
  rw [zJJ a3]
  exact h ⟨s.a,i,s.c⟩ (by simp; omega)
end
end
end Go.Sep
namespace Go.Proofs.YtdemfamgieonbaaGreat
section
open Go.Proofs Go.Shelf
def zXf:Go.Shelf.Ren:=⟨fun | 6=>152 | 8=>88 | 9=>191 | 19=>144 | 20=>145 | 21=>214 | 22=>215 | 23=>216 | 24=>217 | 25=>218 | 26=>219 | 27=>220 | 28=>221 | 29=>222 | 36=>235 | 31=>185 | 32=>186 | 37=>236 | 38=>237 | 39=>238 | 41=>244 | n=>n,fun | 27=>22 | 29=>9 | 3=>3 | 32=>204 | 26=>22 | 0=>0 | 44=>273 | 46=>33 | 4=>4 | 36=>265 | 35=>264 | 41=>270 | 5=>5 | 9=>9 | 53=>308 | 57=>312 | 63=>339 | 64=>340 | n=>n,fun | n=>n⟩
theorem zTF:Go.Proofs.SlLaysM.n6 Tryz.prog zXf:={
 mixed:=by kernel_rfl
 f6:=⟨Tryz.f152.name,by decide,Tryz.func152.trans (congrArg some (by kernel_rfl))⟩
 f8:=Tryz.func88.trans (congrArg some (by kernel_rfl))
 f9:=⟨Tryz.f191.name,by decide,Tryz.func191.trans (congrArg some (by kernel_rfl))⟩
 f19:=Tryz.func144.trans (congrArg some (by kernel_rfl))
 f20:=Tryz.func145.trans (congrArg some (by kernel_rfl))
 f21:=⟨Tryz.f214.name,by decide,Tryz.func214.trans (congrArg some (by kernel_rfl))⟩
 f22:=⟨Tryz.f215.name,by decide,Tryz.func215.trans (congrArg some (by kernel_rfl))⟩
 f23:=⟨Tryz.f216.name,by decide,Tryz.func216.trans (congrArg some (by kernel_rfl))⟩
 f24:=⟨Tryz.f217.name,by decide,Tryz.func217.trans (congrArg some (by kernel_rfl))⟩
 f25:=⟨Tryz.f218.name,by decide,Tryz.func218.trans (congrArg some (by kernel_rfl))⟩
 f26:=⟨Tryz.f219.name,by decide,Tryz.func219.trans (congrArg some (by kernel_rfl))⟩
 f27:=⟨Tryz.f220.name,by decide,Tryz.func220.trans (congrArg some (by kernel_rfl))⟩
 f28:=⟨Tryz.f221.name,by decide,Tryz.func221.trans (congrArg some (by kernel_rfl))⟩
 f29:=⟨Tryz.f222.name,by decide,Tryz.func222.trans (congrArg some (by kernel_rfl))⟩
 f31:=Tryz.func185.trans (congrArg some (by kernel_rfl))
 f32:=Tryz.func186.trans (congrArg some (by kernel_rfl))
 f36:=⟨Tryz.f235.name,by decide,Tryz.func235.trans (congrArg some (by kernel_rfl))⟩
 f37:=⟨Tryz.f236.name,by decide,Tryz.func236.trans (congrArg some (by kernel_rfl))⟩
 f38:=⟨Tryz.f237.name,by decide,Tryz.func237.trans (congrArg some (by kernel_rfl))⟩
 f39:=⟨Tryz.f238.name,by decide,Tryz.func238.trans (congrArg some (by kernel_rfl))⟩
 f41:=⟨Tryz.f244.name,by decide,Tryz.func244.trans (congrArg some (by kernel_rfl))⟩
 t0:=Tryz.underlying0
 a0:=Tryz.isAgg0
 z0:=Tryz.sizeOf0
 v0:=Tryz.zeroValue0
 t3:=Tryz.underlying3
 a3:=Tryz.isAgg3
 z3:=Tryz.sizeOf3
 v3:=Tryz.zeroValue3
 t4:=Tryz.underlying4
 a4:=Tryz.isAgg4
 z4:=Tryz.sizeOf4
 v4:=Tryz.zeroValue4
 t5:=Tryz.underlying5
 a5:=Tryz.isAgg5
 z5:=Tryz.sizeOf5
 v5:=Tryz.zeroValue5
 t9:=Tryz.underlying9
 a9:=Tryz.isAgg9
 z9:=Tryz.sizeOf9
 v9:=Tryz.zeroValue9
 t26:=Tryz.underlying22
 a26:=Tryz.isAgg22
 z26:=Tryz.sizeOf22
 v26:=Tryz.zeroValue22
 t27:=Tryz.underlying22
 a27:=Tryz.isAgg22
 z27:=Tryz.sizeOf22
 v27:=Tryz.zeroValue22
 t29:=Tryz.underlying9
 a29:=Tryz.isAgg9
 z29:=Tryz.sizeOf9
 v29:=Tryz.zeroValue9
 t32:=Tryz.underlying204
 a32:=Tryz.isAgg204
 z32:=Tryz.sizeOf204
 v32:=Tryz.zeroValue204
 t35:=Tryz.underlying264
 a35:=Tryz.isAgg264
 z35:=Tryz.sizeOf264
 v35:=Tryz.zeroValue264
 t36:=Tryz.underlying265
 a36:=Tryz.isAgg265
 z36:=Tryz.sizeOf265
 v36:=Tryz.zeroValue265
 t41:=Tryz.underlying270
 a41:=Tryz.isAgg270
 z41:=Tryz.sizeOf270
 v41:=Tryz.zeroValue270
 t44:=Tryz.underlying273
 a44:=Tryz.isAgg273
 z44:=Tryz.sizeOf273
 v44:=Tryz.zeroValue273
 t46:=Tryz.underlying33
 a46:=Tryz.isAgg33
 z46:=Tryz.sizeOf33
 v46:=Tryz.zeroValue33
 t53:=Tryz.underlying308
 a53:=Tryz.isAgg308
 z53:=Tryz.sizeOf308
 v53:=Tryz.zeroValue308
 t57:=Tryz.underlying312
 a57:=Tryz.isAgg312
 z57:=Tryz.sizeOf312
 v57:=Tryz.zeroValue312
 t63:=Tryz.underlying339
 a63:=Tryz.isAgg339
 z63:=Tryz.sizeOf339
 v63:=Tryz.zeroValue339
 t64:=Tryz.underlying340
 a64:=Tryz.isAgg340
 z64:=Tryz.sizeOf340
 v64:=Tryz.zeroValue340 }
end
section
open Go Go.Sep
abbrev zCl (ss:List (List UInt8)):List (List UInt8):=ss.mergeSort fun x y=>decide (x ≤ y)
section
variable {B w:World} {Γ:List zB}
theorem holds_grow (h:Holds B Γ w) (os:Array Obj):Holds B Γ (Sort.grow w os):=by
 obtain ⟨l⟩:=os
 induction l generalizing w with
 | nil=>simpa [Sort.grow] using h
 | cons o l ih=>
  have h1:=ih (h.alloc o).tail
  have e:Sort.grow { w with heap:=w.heap.push o } ⟨l⟩ = Sort.grow w ⟨o::l⟩:=by
   have e2:w.heap.push o++(⟨l⟩:Array Obj) = w.heap++(⟨o::l⟩:Array Obj):=by
    apply Array.ext'
    rw [Array.toList_append,Array.toList_append,Array.toList_push,List.append_assoc]
    rfl
   unfold Sort.grow
   rw [← e2]
  rw [e] at h1
  exact h1
theorem zFE {s:Sl} {ss:List (List UInt8)} {k:K} (hl:ss.length ≤ 1000000) (h:Holds B (SlC uh 1 s (ss.map xU)::Γ) w) (hk:∀ w,Holds B (SlC uh 1 s ((zCl ss).map xU)::Γ) w→k w):vO.call s k w:=by
 have hsc:=h.zLN
 have hn:ss.length = s.n:=by have:=hsc.1; simpa using this
 unfold vO.call zK
 cases ha:s.a with
 | none=>
  have hs0:s.n = 0:=by have:=hsc.2.2.2 ha; omega
  have hss:ss = []:=List.length_eq_zero_iff.1 (by omega)
  subst hss
  have h1:=AnyM.slices_Sort_string_none zTF none s.c w
  have e:[Sl.val s].toArray = #[.slice none 0 s.c]:=by
   show #[Value.slice s.a s.n s.c] = _
   rw [ha,hs0]
  rw [e]
  refine Calls.mono h1 fun e w' he=>?_
  obtain ⟨rfl,rfl⟩:=he
  exact ⟨rfl,hk _ (by simpa [zCl] using h)⟩
 | some a=>
  obtain ⟨cs,fz,h,hsp,hf,hsz,hr,hlen,hc⟩:=zLO h ha
  obtain ⟨b,off,sp⟩:=a
  simp only at hsp
  subst hsp
  simp only at h hf hsz hr
  have hb:=h.block
  have hH:Sort.Holds Proofs.encStr w b off ss.toArray:=fun j hj=>by
   simp only [List.size_toArray] at hj
   have h1:=hr j (by simpa using hj)
   constructor
   ·refine vI hb ?_
    rw [h1,List.getElem?_map,List.getElem?_eq_getElem hj]
    simp [getElem!_pos,hj]
   ·exact zAf hb (hf _ (by omega) (by omega))
  have h1:=AnyM.slices_Sort_string zTF b off s.c ss w hH (Array.getElem?_eq_some_iff.1 hb).1 (by omega)
  have e:[Sl.val s].toArray = #[.slice (some ⟨b,off,none⟩) ss.length s.c]:=by
   show #[Value.slice s.a s.n s.c] = _
   rw [ha,hn]
  rw [e]
  refine Calls.mono h1 fun e w' he=>?_
  obtain ⟨rfl,n,os,rfl⟩:=he
  refine ⟨rfl,hk _ ?_⟩
  have h2:Holds B (blk b (.cells cs uh fz)::Γ) (Sort.ahead w n):=h.drew _
  have h3:=h2.setBlock (o':=.cells (Sort.putCells Proofs.encStr off (zCl ss).toArray cs) uh fz) rfl
  have e2:({ (Sort.ahead w n) with heap:=(Sort.ahead w n).heap.setIfInBounds b (.cells (Sort.putCells Proofs.encStr off (zCl ss).toArray cs) uh fz) }:World) = Sort.putRow Proofs.encStr (Sort.ahead w n) b off (zCl ss).toArray:=by
   have harr:(Sort.ahead w n).heap.setIfInBounds b (.cells (Sort.putCells Proofs.encStr off (zCl ss).toArray cs) uh fz) = (Sort.ahead w n).heap.modify b (Sort.onCells (Sort.putCells Proofs.encStr off (zCl ss).toArray)):=by
    apply Array.ext_getElem?
    intro i
    rw [Array.getElem?_modify]
    by_cases hi:b = i
    ·subst hi
     rw [if_pos rfl,h2.block,Array.getElem?_setIfInBounds_self_of_lt (Array.getElem?_eq_some_iff.1 h2.block).1]
     rfl
    ·rw [if_neg hi,Array.getElem?_setIfInBounds_ne hi]
   unfold Sort.putRow Sort.mapBlock
   rw [← harr]
  rw [e2] at h3
  have h4:=holds_grow h3 os
  have hsl:(zCl ss).length = ss.length:=by simp [zCl]
  refine zLP (a:=⟨b,off,none⟩) ha h4 ⟨rfl,hf,?_,fun i hi=>?_,by rw [List.length_map,hsl]; simpa using hlen,hc⟩
  ·have:(Sort.putCells Proofs.encStr off (zCl ss).toArray cs).size = cs.size:=by simp [Sort.putCells]
   rw [this]; exact hsz
  ·simp only [List.length_map] at hi
   unfold Sort.putCells
   rw [Array.getElem?_mapIdx]
   have hlt:off + i < cs.size:=by omega
   rw [Array.getElem?_eq_getElem hlt,Option.map_some,if_pos (by simp; omega),List.getElem?_map,List.getElem?_eq_getElem hi,Option.map_some,Nat.add_sub_cancel_left,getElem!_pos (zCl ss).toArray i (by simpa using hi)]
   simp
end
end
section
open Go Go.Sep
theorem zFF:zKE .string xU:=⟨fun _=>trivial,fun a b h=>by
 have h1:bs a = bs b:=by injection h
 have h2:=congrArg (fun x:ByteArray=>x.data.toList) h1
 simpa using h2,fun a=>zP7.bits (bs a)⟩
theorem zRO {l l':List (List UInt8)} (h:l.Perm l'):zCl l = zCl l':=by
 have tr:∀ a b c:List UInt8,decide (a ≤ b) = true→decide (b ≤ c) = true→decide (a ≤ c) = true:=fun a b c h1 h2=>by
  simp only [decide_eq_true_eq] at *
  exact List.le_trans h1 h2
 have tot:∀ a b:List UInt8,(decide (a ≤ b) || decide (b ≤ a)) = true:=fun a b=>by
  simp only [Bool.or_eq_true,decide_eq_true_eq]
  exact List.le_total a b
 refine List.Perm.eq_of_pairwise (le:=fun a b=>decide (a ≤ b) = true) (fun a b _ _ h1 h2=>?_) (List.pairwise_mergeSort tr tot l) (List.pairwise_mergeSort tr tot l') ?_
 ·simp only [decide_eq_true_eq] at h1 h2
  exact List.le_antisymm h1 h2
 ·exact ((List.mergeSort_perm l _).trans h).trans (List.mergeSort_perm l' _).symm
theorem zNA (l:List (List UInt8)):(zCl l).length = l.length:=(List.mergeSort_perm l _).length_eq
theorem zT5 {l:List (List UInt8)} {x:List UInt8}:x ∈ zCl l ↔ x ∈ l:=(List.mergeSort_perm l _).mem_iff
abbrev SlS (s:Sl) (ss:List (List UInt8)):zB:=SlC uh 1 s (ss.map xU)
end
section
open Go Go.Sep
theorem zTG:zE8 Tryz.prog zBm .string jK:=⟨uh,by kernel_rfl,by kernel_rfl⟩
section
variable {B w:World} {Γ:List zB} {β:Type} {cV:β→Value}
end
end
section
open Go Go.Sep Go.Sep.Bt
structure zEn where
 key:List UInt8
 home:Int
 cnt:Int
deriving DecidableEq
abbrev zQH (m:zEn):List Value:=[xU m.key,.int .i64 m.home,.int .u64 m.cnt]
abbrev Claim:=ql×zEn
abbrev clF (c:Claim):List Value:=[.int .i64 c.1.node,.int .u64 c.1.epoch,.int .u64 c.1.seq,.int .i64 c.1.tr,xU c.2.key,.int .i64 c.2.home,.int .u64 c.2.cnt]
theorem zEo (c:Claim):(clF c).length = 7:=rfl
theorem zNB (c:zEn):(zQH c).length = 3:=rfl
theorem zRP (L:List Claim):∀ v ∈ L.flatMap clF,yX v = true:=fun v hv=>by
 obtain ⟨x,_,hx⟩:=List.mem_flatMap.1 hv
 simp only [clF,List.mem_cons,List.not_mem_nil,or_false] at hx
 rcases hx with rfl | rfl | rfl | rfl | rfl | rfl | rfl <;> rfl
theorem zQI:Tryz.prog.underlying zCe = some (.map xW zAs):=by kernel_rfl
theorem zDA:zKF Tryz.prog xW qQ:=⟨by kernel_rfl,⟨zVh,by kernel_rfl,fun _=>rfl⟩,fun a b h=>zGf.1 h,fun a=>by simp [Instr.sameBits]⟩
abbrev GM:=List (List UInt8×(List Claim×List Claim))
abbrev DM:=ql→Bool
abbrev zIw {ν:Type} (W:List (List UInt8×ν)):Prop:=(W.map Prod.fst).Nodup
def zAm (k:List UInt8) (M:GM):GM:=if (y9 k M).isNone then M++[(k,([],[]))] else M
def atM (k:List UInt8) (M:GM):List Claim×List Claim:=(y9 k M).getD ([],[])
def zKG (tag:ql) (L:List Claim):Bool:=L.any fun c=>decide (c.1 = tag)
def zLf (dm:DM) (tag:ql) (b:Bool):DM:=fun t=>if t = tag then b else dm t
def zBR (n:Nat) (S:yY) (m:zEn):Int:=zEl (vo n S (bs m.key)).cnt m.cnt (vo n S (bs m.key)).home m.home
def zBx (n:Nat) (S:yY) (tag:ql) (x:GM×DM) (m:zEn):GM×DM :=
 if zKG tag (atM m.key x.1).1 || zKG tag (atM m.key x.1).2 then (zAm m.key x.1,x.2)
 else if zBR n S m = 0 then (vL m.key ((atM m.key x.1).1++[(tag,m)],(atM m.key x.1).2) (zAm m.key x.1),x.2)
 else if zBR n S m = 1 then (vL m.key ((atM m.key x.1).1,(atM m.key x.1).2++[(tag,m)]) (zAm m.key x.1),x.2)
 else (zAm m.key x.1,zLf x.2 tag true)
def zBF (n:Nat) (S:yY) (tag:ql) (ms:List zEn) (x:GM×DM):GM×DM:=ms.foldl (zBx n S tag) x
def noT (tag:ql) (L:List Claim):List Claim:=L.filter fun c=>!decide (c.1 = tag)
def uS (tag:ql) (x:GM×DM):GM×DM:=(x.1.map fun p=>(p.1,(noT tag p.2.1,noT tag p.2.2)),zLf x.2 tag false)
def gsz (M:GM) (N:Nat):Prop:=M.length ≤ N∧∀ p ∈ M,p.2.1.length ≤ N∧p.2.2.length ≤ N
theorem zZV {M:GM} {a b:Nat} (h:gsz M a) (hab:a ≤ b):gsz M b:=⟨by have:=h.1; omega,fun p hp=>by have:=h.2 p hp; omega⟩
theorem zRQ {M:GM} {k:List UInt8} {N:Nat} (h:gsz M N):(atM k M).1.length ≤ N∧(atM k M).2.length ≤ N:=by
 unfold atM
 cases hm:y9 k M with
 | none=>simp
 | some v=>exact h.2 _ (zFC hm)
theorem zVm {M:GM} {k:List UInt8} {N:Nat} (h:gsz M N):gsz (zAm k M) (N + 1):=by
 unfold zAm
 split
 ·refine ⟨by simp; exact h.1,fun p hp=>?_⟩
  rcases List.mem_append.1 hp with hp | hp
  ·have:=h.2 p hp; omega
  ·rw [List.mem_singleton.1 hp]; simp
 ·exact zZV h (by omega)
theorem zHG {M:GM} {k:List UInt8} {v:List Claim×List Claim} (h:(y9 k M).isSome = true):(vL k v M).length = M.length:=by
 rcases zE7 k M with ⟨h1,_⟩ | ⟨j,x,hj,_,_,_,h2,_⟩
 ·rw [h1] at h; cases h
 ·rw [h2]; simp
theorem zEQ {M:GM} {k:List UInt8}:(y9 k (zAm k M)).isSome = true:=by
 unfold zAm
 split
 ·rename_i h
  have h':y9 k M = none:=by simpa using h
  have:=zHE (v:=([],[])) h'
  rw [← this,zFA]; simp
 ·rename_i h; simpa [Option.isNone_iff_eq_none,Option.isSome_iff_ne_none] using h
theorem zLg {ν:Type} {M:List (List UInt8×ν)} {k:List UInt8} {v:ν} {p:List UInt8×ν} (h:p ∈ vL k v M):p = (k,v)∨p ∈ M:=by
 rcases zE7 k M with ⟨_,h2,_⟩ | ⟨j,x,hj,_,_,_,h2,_⟩
 ·rw [h2] at h
  rcases List.mem_append.1 h with h | h
  ·exact .inr h
  ·exact .inl (List.mem_singleton.1 h)
 ·rw [h2] at h
  rcases List.mem_or_eq_of_mem_set h with h | h
  ·exact .inr h
  ·exact .inl h
theorem zQJ {M:GM} {k:List UInt8} {v:List Claim×List Claim} {N:Nat} (h:gsz M N) (hs:(y9 k M).isSome = true) (h1:v.1.length ≤ N) (h2:v.2.length ≤ N):gsz (vL k v M) N :=
 ⟨by rw [zHG hs]; exact h.1,fun p hp=>by
  rcases zLg hp with rfl | hp
  ·exact ⟨h1,h2⟩
  ·exact h.2 p hp⟩
theorem zT6 {n:Nat} {S:yY} {tag:ql} {x:GM×DM} {m:zEn} {N:Nat} (h:gsz x.1 N):gsz (zBx n S tag x m).1 (N + 1):=by
 have h1:=zVm (k:=m.key) h
 have h2:=zRQ (k:=m.key) h
 unfold zBx
 split
 ·exact h1
 ·split
  ·exact zQJ h1 zEQ (by simp; omega) (by simp only; omega)
  ·split
   ·exact zQJ h1 zEQ (by simp only; omega) (by simp; omega)
   ·exact h1
theorem zT7 {ν:Type} {M:List (List UInt8×ν)} {k:List UInt8} {v:ν} (h:zIw M) (hk:y9 k M = none):zIw (M++[(k,v)]):=by
 have e:=zHE (v:=v) hk
 have h2:=zFB M k v
 unfold zIw
 rw [← e,h2]
 split
 ·exact h
 ·rename_i hk
  refine List.nodup_append.2 ⟨h,by simp,fun a ha b hb=>?_⟩
  rw [List.mem_singleton.1 hb]
  exact fun e=>hk (e ▸ ha)
theorem zRR {ν:Type} {M:List (List UInt8×ν)} {k:List UInt8} {v:ν} (h:y9 k M = some v):∃ A C,M = A++(k,v)::C:=by
 induction M with
 | nil=>cases h
 | cons p M ih=>
  unfold y9 at h
  split at h
  ·rename_i e; injection h with h; exact ⟨[],M,by rw [e,← h]; rfl⟩
  ·obtain ⟨A,C,rfl⟩:=ih h; exact ⟨p::A,C,rfl⟩
theorem zLh {ν:Type} {A C:List (List UInt8×ν)} {k:List UInt8} {v:ν} (h:zIw (A++(k,v)::C)):(∀ p ∈ A,p.1 ≠ k)∧∀ p ∈ C,p.1 ≠ k:=by
 unfold zIw at h
 rw [List.map_append,List.map_cons] at h
 obtain ⟨_,h2,h3⟩:=List.nodup_append.1 h
 refine ⟨fun p hp=>h3 _ (List.mem_map.2 ⟨p,hp,rfl⟩) _ List.mem_cons_self,fun p hp e=>(List.nodup_cons.1 h2).1 (e ▸ List.mem_map.2 ⟨p,hp,rfl⟩)⟩
theorem zVn {ν:Type} {A C:List (List UInt8×ν)} {k:List UInt8} {v:ν} (h:∀ p ∈ A,p.1 ≠ k):y9 k (A++(k,v)::C) = some v:=by
 induction A with
 | nil=>simp [y9]
 | cons p A ih=>
  rw [List.cons_append,y9,if_neg (fun e=>h p List.mem_cons_self e.symm)]
  exact ih fun q hq=>h q (List.mem_cons_of_mem _ hq)
theorem zVo {ν:Type} {A C:List (List UInt8×ν)} {k:List UInt8} {v v':ν} (h:∀ p ∈ A,p.1 ≠ k):vL k v' (A++(k,v)::C) = A++(k,v')::C:=by
 induction A with
 | nil=>simp [vL]
 | cons p A ih=>
  rw [List.cons_append,vL,if_neg (fun e=>h p List.mem_cons_self e.symm),ih fun q hq=>h q (List.mem_cons_of_mem _ hq)]
  rfl
structure zCm where
 b:Nat
 ls:Sl
 ps:Sl
 line:List Claim
 park:List Claim
abbrev gV (g:zCm):Value:=.pointer (some ⟨g.b,0,none⟩)
abbrev gL (g:zCm) (Γ:List zB):List zB:=blk g.b (.cells [g.ls.val,g.ps.val].toArray zAK (0,0))::SlC qb 7 g.ls (g.line.flatMap clF)::SlC qb 7 g.ps (g.park.flatMap clF)::Γ
abbrev gB (x:List UInt8×zCm):zB:=Sep.stars (gL x.2 [])
abbrev GX:=List (List UInt8×zCm)
abbrev zOt (X:GX):GM:=X.map fun p=>(p.1,(p.2.line,p.2.park))
abbrev zFG (l gm db:Nat) (X Y:GX) (D:List (ql×Int)) (Γ:List zB):List zB :=
 blk l (.cells [.map (some gm),.map (some db)].toArray jF (0,0))::xM xU gV gm X::Sep.stars (Y.map gB)::xM (kyS qQ) (Value.int .i64) db D::Γ
structure LF (M:GM) (dm:DM) (X:GX) (D:List (ql×Int)):Prop where
 mod:zOt X = M
 once:zIw X
 doom:∀ t,dm t = decide (0 < (y9 t D).getD 0)
 nd:(D.map Prod.fst).Nodup
def vH (l:Nat) (M:GM) (dm:DM):zB:=ex fun gm=>ex fun db=>ex fun X:GX=>ex fun D=>Sep.stars (pur (LF M dm X D)::zFG l gm db X X D [])
section
variable {B:World} {Γ Δ:List zB} {k:K} {l gm db st n:Nat} {M:GM} {dm:DM} {X:GX} {D:List (ql×Int)} {S:yY} {tag:ql}
instance (priority:=high) zZw:Sep.Own l (vH l M dm::Γ) (vH l M dm) Γ:=⟨.refl _⟩
theorem zKt (h:∀ gm db X D,LF M dm X D→HG B (zFG l gm db X X D Γ) k):HG B (vH l M dm::Γ) k :=
 zC1 fun gm=>zC1 fun db=>zC1 fun X=>zC1 fun D=>zBX <| zGU fun h1=>h gm db X D h1
theorem zER (h1:LF M dm X D) (h:HG B (vH l M dm::Γ) k):HG B (zFG l gm db X X D Γ) k:=fun w hw=>by
 refine h w ?_
 have h3:Holds B (Sep.stars (pur (LF M dm X D)::zFG l gm db X X D [])::Γ) w:=Holds.flat.2 (Holds.pur.2 ⟨h1,hw⟩)
 exact h3.imp fun g hg=>⟨gm,db,X,D,hg⟩
theorem zNC {α β:Type} [DecidableEq α] {enc:α→Value} {cV:β→Value} {b:Nat} {m m':List (α×β)} (h:(m.map fun p=>(enc p.1,cV p.2)) = m'.map fun p=>(enc p.1,cV p.2)):∀ g,xM enc cV b m g→xM enc cV b m' g:=fun g hg=>by
 obtain ⟨es,c,⟨h1,h2⟩,h3⟩:=hg
 exact ⟨es,c,⟨by unfold zEX at h1 ⊢; rw [h1,h],h2⟩,h3⟩
theorem zZW {A C:GX} {key:List UInt8} {g:zCm} (hX:X = A++(key,g)::C) (h:HG B (gL g (zFG l gm db X (A++C) D Γ)) k):HG B (zFG l gm db X X D Γ) k:=by
 refine zX (Sep.stars (X.map gB)) ?_
 rw [show Sep.stars (X.map gB) = Sep.stars ((A++(key,g)::C).map gB) by rw [hX]]
 refine zEk ?_
 refine zBX ?_
 show HG B (gL g (_::_::_::_::Γ)) k
 exact zC h
theorem zQK {A C:GX} {key:List UInt8} {g g':zCm} {dm':DM} {D':List (ql×Int)} (hX:X = A++(key,g)::C) (hb:g'.b = g.b) (hf:LF M dm X D) (hd:(∀ t,dm' t = decide (0 < (y9 t D').getD 0))∧(D'.map Prod.fst).Nodup)
  (h:HG B (vH l (vL key (g'.line,g'.park) M) dm'::Γ) k):HG B (gL g' (zFG l gm db X (A++C) D' Γ)) k:=by
 have ho:=hf.once
 rw [hX] at ho
 have hA:=(zLh ho).1
 refine zDp (Δ:=gL g' []) ?_
 refine zX (Sep.stars ((A++C).map gB)) ?_
 refine zX (Sep.stars (gL g' [])) ?_
 refine zAG (F:=gB) (x:=(key,g')) ?_
 refine zX (xM xU gV gm X) ?_
 refine zCh (zNC (m':=A++(key,g')::C) ?_) ?_
 ·rw [hX]; simp [gV,hb]
 refine zX (xM (kyS qQ) (Value.int .i64) db D') ?_
 refine zX (Sep.stars ((A++(key,g')::C).map gB)) ?_
 refine zX (xM xU gV gm (A++(key,g')::C)) ?_
 refine zQ l ?_
 refine zER ⟨?_,?_,hd.1,hd.2⟩ h
 ·rw [← hf.mod,hX]
  simp only [zOt,List.map_append,List.map_cons]
  rw [zVo]
  intro p hp
  obtain ⟨q,hq,rfl⟩:=List.mem_map.1 hp
  exact hA q hq
 ·unfold zIw at ho ⊢
  simpa using ho
theorem zYr {A C:GX} {key:List UInt8} {g:zCm} (hX:X = A++(key,g)::C) (hf:LF M dm X D):atM key M = (g.line,g.park):=by
 have ho:=hf.once
 rw [hX] at ho
 unfold atM
 rw [← hf.mod,hX]
 simp only [zOt,List.map_append,List.map_cons]
 rw [zVn]; rfl
 intro p hp
 obtain ⟨q,hq,rfl⟩:=List.mem_map.1 hp
 exact (zLh ho).1 q hq
abbrev g0 (gb:Nat):zCm:=⟨gb,⟨none,0,0⟩,⟨none,0,0⟩,[],[]⟩
theorem zT8:zBN Tryz.prog jK (.pointer none):=zGQ
theorem zTH {key:List UInt8} {Q:Option Addr→K} (h:∀ gm db X D A g C,LF (zAm key M) dm X D→X = A++(key,g)::C→HG B (gL g (zFG l gm db X (A++C) D Γ)) (Q (some ⟨g.b,0,none⟩))) :
  HG B (vH l M dm::Γ) (xB.call (some ⟨l,0,none⟩) (bs key) Q):=by
 refine fun w hw=>zHZ _ _ _ _ ?_
 refine hg hw ?_
 clear hw w
 refine zKt fun gm db X D hf=>?_
 unfold xB
 repeat refine zh ?_
 have hl:∀ {Γ:List zB} {q:Option Addr→K} {X:GX} {Δ:List zB} [p:Sep.Own gm Γ (xM xU gV gm X) Δ],HG B Γ (q ((y9 key X).map fun g=>⟨g.b,0,none⟩))→HG B Γ (Rd Tryz.prog (Instr.lookup zBm (.map (some gm)) (xU key) false) Value.pointer q):=fun {Γ q X Δ p} h w hw=>by
  obtain ⟨es,c,⟨hr,hst⟩,h1⟩:=xM.opens (hw.perm p.perm)
  have:=zT2 (a:=key) zTG zFF zT8 h1.block hr false
  refine ⟨(y9 key X).map fun g=>⟨g.b,0,none⟩,?_,h w hw⟩
  rw [this]
  cases y9 key X <;> rfl
 have fin:∀ {Γ:List zB} (M2:GM) (X:GX) (g:zCm),y9 key X = some g→LF M2 dm X D→(∀ A C,X = A++(key,g)::C→HG B (gL g (zFG l gm db X (A++C) D Γ)) (Q (some ⟨g.b,0,none⟩)))→HG B (zFG l gm db X X D Γ) (xB.s1 Q (some ⟨l,0,none⟩) (bs key)):=fun M2 X g hg hf hk=>by
  unfold xB.s1
  repeat refine zh ?_
  refine hl (X:=X) ?_
  rw [hg]
  obtain ⟨A,C,hX⟩:=zRR hg
  exact zZW hX (hk A C hX)
 refine hl (X:=X) ?_
 have hmm:y9 key M = (y9 key X).map fun g=>(g.line,g.park):=by rw [← hf.mod]; exact zE9 (fun g:zCm=>(g.line,g.park)) key X
 cases hm:y9 key X with
 | none=>
  rw [hm] at hmm
  have hgm:zAm key M = M++[(key,([],[]))]:=by unfold zAm; rw [hmm]; rfl
  rw [hgm] at h
  refine s_t ?_
  repeat refine zh ?_
  refine zR fun gb=>?_
  refine zVc (cG:=Value.bool) (b:=gm) (enc:=xU) (cV:=gV) (v:=g0 gb) rfl zTG zFF ?_
  have hms:=zHE (v:=g0 gb) hm
  rw [hms]
  refine fun w hw=>?_
  refine hg (show Holds B (SlC qb 7 ⟨none,0,0⟩ []::_) w from hw.zAk _ _) ?_
  clear hw w
  refine fun w hw=>?_
  refine hg (show Holds B (SlC qb 7 ⟨none,0,0⟩ []::_) w from hw.zAk _ _) ?_
  clear hw w
  refine zQ gb ?_
  show HG B (gL (g0 gb) (xM xU gV gm (X++[(key,g0 gb)])::blk l (.cells [.map (some gm),.map (some db)].toArray jF (0,0))::Sep.stars (X.map gB)::xM (kyS qQ) (Value.int .i64) db D::Γ)) _
  refine zDp (Δ:=gL (g0 gb) []) ?_
  refine zX (Sep.stars (X.map gB)) ?_
  refine zX (Sep.stars (gL (g0 gb) [])) ?_
  rw [show Sep.stars (X.map gB) = Sep.stars ((X++[]).map gB) by rw [List.append_nil]]
  refine zAG (F:=gB) (x:=(key,g0 gb)) ?_
  refine zQ db ?_
  refine zX (Sep.stars ((X++[(key,g0 gb)]).map gB)) ?_
  refine zQ gm ?_
  refine zQ l ?_
  have hf':LF (M++[(key,([],[]))]) dm (X++[(key,g0 gb)]) D:=⟨by simp [zOt,← hf.mod],zT7 hf.once hm,hf.doom,hf.nd⟩
  refine fin _ _ (g0 gb) ?_ hf' fun A C hX=>h gm db _ D A _ C hf' hX
  rw [← hms,zFA]; simp
 | some g=>
  rw [hm] at hmm
  have hgm:zAm key M = M:=by unfold zAm; rw [hmm]; rfl
  rw [hgm] at h
  refine s_f ?_
  exact fin M X g hm hf fun A C hX=>h gm db X D A g C hf hX
abbrev ofV (b:Nat):Value:=.func (.func 160) #[] #[.pointer (some ⟨b,0,none⟩)]
theorem zES {Q:Value→K} (h:∀ b,HG B (blk b (.cells (qQ tag).toArray xW (0,0))::Γ) (Q (ofV b))):HG B Γ (zBn.call (qQ tag).toArray Q):=by
 refine fun w hw=>zP3 _ _ _ ?_
 refine hg hw ?_
 clear hw w
 unfold zBn
 exact zR fun b=>h b
theorem zYs {b:Nat} {c:Claim} {q:Bool→K} (h:HG B Γ (q (decide (c.1 = tag)))) [p:Sep.Own b Γ (blk b (.cells (qQ tag).toArray xW (0,0))) Δ] :
  HG B Γ (vW Tryz.prog (ofV b) [.agg (clF c).toArray] (yH (fun (t:Bool)=>Value.bool t) q)):=by
 refine zEV (cs:=[.pointer (some ⟨b,0,none⟩)]) ?_
 refine fun w hw=>zMU _ _ _ _ ?_
 refine hg hw ?_
 clear hw w
 unfold zFW
 refine zR fun c2=>?_
 repeat refine zh ?_
 refine zYo (xs:=qQ c.1) (ys:=qQ tag) (ks:=zVh) zGf ?_
 exact zC h
theorem zVp {s:Sl} {L:List Claim} {b:Nat} {Δ2:List zB} {Q:Int→K} (hL:L.length < 1000000000) (h:HG B Γ (Q (zFb (L.findIdx? fun c=>decide (c.1 = tag))))) [o:zBg s Γ (SlC qb 7 s (L.flatMap clF)) Δ2] [p:Sep.Own b Γ (blk b (.cells (qQ tag).toArray xW (0,0))) Δ] :
  HG B Γ (zS.call s (ofV b) Q):=by
 refine yS s fun a1 a2 a3 a4=>?_
 rw [zn _ 7 zEo] at a1
 refine fun w hw=>xq _ _ _ _ ?_
 refine hg hw ?_
 clear hw w
 show HG B Γ (zHv Tryz.prog (zVi 7) s (ofV b) Q)
 exact zIu (vV:=fun c=>.agg (clF c).toArray) (L:=L) (fun c=>decide (c.1 = tag)) (by omega) hL (fun i x k hx hk=>zTC (s:=s) zEo (by omega) hx hk) (fun x q _ hq=>zYs hq) h
theorem zJT {s:Sl} {L:List Claim} {b:Nat} {Δ2:List zB} {Q:Bool→K} (hL:L.length < 1000000000) (h:HG B Γ (Q (zKG tag L))) [o:zBg s Γ (SlC qb 7 s (L.flatMap clF)) Δ2] [p:Sep.Own b Γ (blk b (.cells (qQ tag).toArray xW (0,0))) Δ] :
  HG B Γ (yA.call s (ofV b) Q):=by
 refine fun w hw=>zAc _ _ _ _ ?_
 refine hg hw ?_
 clear hw w
 unfold yA
 refine zVp (tag:=tag) (L:=L) hL ?_
 rw [zGg,zOs]
 exact h
theorem zTI {s:Sl} {L:List Claim} {b:Nat} {Q:Sl→K} (hL:L.length < 1000000000) (h:∀ s',HG B (SlC qb 7 s' ((noT tag L).flatMap clF)::Γ) (Q s')) [p:Sep.Own b Γ (blk b (.cells (qQ tag).toArray xW (0,0))) Δ] :
  HG B (SlC qb 7 s (L.flatMap clF)::Γ) (zG.call s (ofV b) Q):=by
 refine fun w hw=>uR _ _ _ _ ?_
 refine hg hw ?_
 clear hw w
 show HG B _ (zTD Tryz.prog zS.call qb zE1 0 7 [(.int .i64 0),(.int .u64 0),(.int .u64 0),(.int .i64 0),(.string ⟨#[]⟩),(.int .i64 0),(.int .u64 0)] s (ofV b) Q)
 refine zTE (R:=fun _=>Γ) (L:=L) (f:=clF) (fun (_:Unit) c=>decide (c.1 = tag)) (fun _ _=>()) () (fun _ _=>True) trivial (fun _ _ _ _=>trivial) (fun s fv Q w h=>xq _ _ _ _ h) zEo (by omega) (fun _=>rfl) rfl hL (fun Ξ g x C q _ _ hq=>zYs hq) fun s' _=>?_
 rw [zJR]
 exact h s'
theorem zJ3 {Q:Option Addr→K} (h:∀ l,HG B (vH l [] (fun _=>false)::Γ) (Q (some ⟨l,0,none⟩))):HG B Γ (zDU.call Q):=by
 refine fun w hw=>zOk _ _ ?_
 refine hg hw ?_
 clear hw w
 unfold zDU
 refine zKs (enc:=xU) (cV:=gV) fun gm=>?_
 refine zKs (enc:=kyS qQ) (cV:=Value.int .i64) fun db=>?_
 refine zR fun l=>?_
 refine fun w hw=>?_
 refine hg (show Holds B (Sep.stars (([]:GX).map gB)::_) w from Holds.flat.2 hw) ?_
 clear hw w
 refine zQ db ?_
 refine zX (Sep.stars (([]:GX).map gB)) ?_
 refine zQ gm ?_
 refine zQ l ?_
 exact zER ⟨rfl,by simp [zIw],fun t=>by simp [y9],by simp⟩ (h l)
theorem zLi (hf:∀ t,dm t = decide (0 < (y9 t D).getD 0)):∀ t,zLf dm tag true t = decide (0 < (y9 t (vL tag 1 D)).getD 0):=fun t=>by
 rw [zFA]
 unfold zLf
 split
 ·simp
 ·exact hf t
theorem zRS {v:Int} (h:(D.map Prod.fst).Nodup):((vL tag v D).map Prod.fst).Nodup:=by
 rw [zFB]
 split
 ·exact h
 ·rename_i hk
  refine List.nodup_append.2 ⟨h,by simp,fun a ha b hb=>?_⟩
  rw [List.mem_singleton.1 hb]
  exact fun e=>hk (e ▸ ha)
theorem zT9 {ν:Type} {M:List (List UInt8×ν)} {key:List UInt8} {v:ν} (h:y9 key M = some v):vL key v M = M:=by
 induction M with
 | nil=>cases h
 | cons p M ih=>
  unfold y9 at h
  unfold vL
  split
  ·rename_i e
   rw [if_pos e] at h
   injection h with h
   rw [e,← h]
  ·rename_i e
   rw [if_neg e] at h
   rw [ih h]
theorem zOu {key:List UInt8}:atM key (zAm key M) = atM key M:=by
 unfold zAm
 split
 ·rename_i h
  have h':y9 key M = none:=by simpa using h
  unfold atM
  rw [h',← zHE (v:=([],[])) h',zFA]; simp
 ·rfl
theorem zTJ {key:List UInt8}:vL key (atM key M) (zAm key M) = zAm key M:=by
 refine zT9 ?_
 have h:=zEQ (M:=M) (k:=key)
 rw [← zOu]
 unfold atM
 cases hm:y9 key (zAm key M) with
 | none=>rw [hm] at h; cases h
 | some v=>rfl
theorem zVq {ms:Sl} {L:List zEn} {N:Nat} {Q:K} (hr:∀ w,Holds B Γ w→RdC w ms 3 (L.flatMap zQH)) (hk:∀ m ∈ L,m.key.length < 1000000000) (hN:gsz M N) (hNl:N + L.length ≤ 1000000)
  (h:HG B (vH l (zBF n S tag L (M,dm)).1 (zBF n S tag L (M,dm)).2::ze st n S::Γ) Q) :
  HG B (vH l M dm::ze st n S::Γ) (yB.call (some ⟨l,0,none⟩) (some ⟨st,0,none⟩) (qQ tag).toArray ms Q):=fun w hw=>by
 refine zGZ _ _ _ _ _ _ ?_
 have hlen:ms.n = L.length:=zAb zNB (by omega) (hr w hw.tail.tail)
 refine hg hw ?_
 clear hw w
 unfold yB
 refine zR fun t6=>?_
 refine vQ (α:=Int) (ι:=(GM×DM)×Nat) (fun x i=>x = (i.2:Int)∧i.2 ≤ L.length∧gsz i.1.1 (N + i.2)∧zBF n S tag (L.drop i.2) i.1 = zBF n S tag L (M,dm))
  (fun x i=>blk t6 (.cells (qQ tag).toArray xW (0,0))::vH l i.1.1 i.1.2::ze st n S::Γ) (fun x i=>L.length - i.2) ((M,dm),0) ⟨rfl,Nat.zero_le _,hN,rfl⟩ ?_
 rintro k' _ ⟨⟨M1,d1⟩,j⟩ ⟨rfl,hj,hz,he⟩ hk'
 simp only at hj hz he hk' ⊢
 unfold yB.b1
 refine zH (fun hb=>?_) fun hb=>?_
 ·have hjl:j < L.length:=by simp only [decide_eq_true_eq] at hb; omega
  have hge:L[j]? = some L[j]:=List.getElem?_eq_getElem hjl
  have hmem:L[j] ∈ L:=List.getElem_mem hjl
  rw [List.drop_eq_getElem_cons hjl] at he
  generalize L[j] = m at hge hmem he
  have hkl:=hk m hmem
  have hz2:=zT6 (n:=n) (S:=S) (tag:=tag) (x:=(M1,d1)) (m:=m) hz
  have he2:zBF n S tag (L.drop (j + 1)) (zBx n S tag (M1,d1) m) = zBF n S tag L (M,dm):=he
  refine zAw zQH zNB (fun w hw=>hr w hw.drops) hge ?_
  refine zR fun m9=>?_
  repeat refine zh ?_
  refine zQ l ?_
  refine zTH fun gm db X D A g C hf hX=>?_
  have hat:=zYr hX hf
  rw [zOu] at hat
  have hgz:=zRQ (k:=m.key) hz
  rw [hat] at hgz
  simp only at hgz
  refine yS g.ls fun c1 c2 c3 c4=>?_
  refine yS g.ps fun e1 e2 e3 e4=>?_
  rw [zn _ 7 zEo] at c1 e1
  have fin:∀ {Δ:List zB} {g':zCm} {d':DM} {D':List (ql×Int)},zBx n S tag (M1,d1) m = (vL m.key (g'.line,g'.park) (zAm m.key M1),d')→g'.b = g.b→((∀ t,d' t = decide (0 < (y9 t D').getD 0))∧(D'.map Prod.fst).Nodup)→HG B (gL g' (zFG l gm db X (A++C) D' (blk t6 (.cells (qQ tag).toArray xW (0,0))::ze st n S::Γ))) (yB.s2 Q k' (some ⟨l,0,none⟩) (some ⟨st,0,none⟩) ⟨t6,0,none⟩ ms (ms.n:Int) (j:Int)):=fun {Δ g' d' D'} e1 e2 e3=>by
   refine zQK hX e2 hf e3 ?_
   unfold yB.s2
   refine qU ?_
   have h:=hk' ((j:Int) + 1) (zBx n S tag (M1,d1) m,j + 1) ⟨by simp,hjl,hz2,he2⟩ (by simp only; omega)
   rw [e1] at h
   exact zC h
  have keep:(zKG tag g.line || zKG tag g.park) = true→zBx n S tag (M1,d1) m = (vL m.key (g.line,g.park) (zAm m.key M1),d1):=fun hh=>by
   unfold zBx
   rw [hat,if_pos hh,show (g.line,g.park) = atM m.key M1 from hat.symm,zTJ]
  repeat refine zh ?_
  refine zES fun b1=>?_
  repeat refine zh ?_
  refine zJT (tag:=tag) (L:=g.line) (by omega) ?_
  repeat refine zh ?_
  have rest:∀ (b:Nat) (hh:Bool),hh = (zKG tag g.line || zKG tag g.park)→HG B (gL g (zFG l gm db X (A++C) D (blk m9 (.cells (zQH m).toArray yu (0,0))::blk t6 (.cells (qQ tag).toArray xW (0,0))::ze st n S::Γ))) (yB.s3 Q k' (some ⟨l,0,none⟩) (some ⟨st,0,none⟩) ⟨t6,0,none⟩ ⟨m9,0,none⟩ (some ⟨g.b,0,none⟩) ms (ms.n:Int) (j:Int) hh):=fun b hh hhe=>by
   unfold yB.s3
   refine zH (fun hb2=>?_) fun hb2=>?_
   ·exact zC (fin (Δ:=Γ) (keep (by rw [← hhe]; exact hb2)) rfl ⟨hf.doom,hf.nd⟩)
   rw [hb2] at hhe
   have hno:¬ (zKG tag g.line || zKG tag g.park) = true:=by rw [← hhe]; simp
   repeat refine zh ?_
   refine zQ st ?_
   refine zAM (k:=bs m.key) (by show m.key.length < _; omega) fun s _=>?_
   repeat refine zh ?_
   refine zRG ?_
   have hlk:zEl (vo n S (bs m.key)).cnt m.cnt (vo n S (bs m.key)).home m.home = zBR n S m:=rfl
   rw [hlk]
   refine zH (fun h0=>?_) fun h0=>?_
   ·have h0':zBR n S m = 0:=by simpa using h0
    repeat refine zh ?_
    refine zR fun t=>?_
    repeat refine zh ?_
    refine xR (s:=g.ls) (esz:=7) (us:=clF (tag,m)) (zAX rfl) (by intro v hv; exact zRP [(tag,m)] v (by simpa using hv)) (by simp only; omega) fun ls' _=>?_
    rw [show g.line.flatMap clF++clF (tag,m) = (g.line++[(tag,m)]).flatMap clF by simp]
    repeat refine zh ?_
    refine zC (fin (Δ:=Γ) (g':={ g with ls:=ls',line:=g.line++[(tag,m)] }) ?_ rfl ⟨hf.doom,hf.nd⟩)
    unfold zBx
    rw [hat,if_neg hno,if_pos h0']
   ·have h0':¬ zBR n S m = 0:=by simpa using h0
    refine zH (fun h1=>?_) fun h1=>?_
    ·have h1':zBR n S m = 1:=by simpa using h1
     repeat refine zh ?_
     refine zR fun t=>?_
     repeat refine zh ?_
     refine xR (s:=g.ps) (esz:=7) (us:=clF (tag,m)) (zAX rfl) (by intro v hv; exact zRP [(tag,m)] v (by simpa using hv)) (by simp only; omega) fun ps' _=>?_
     rw [show g.park.flatMap clF++clF (tag,m) = (g.park++[(tag,m)]).flatMap clF by simp]
     repeat refine zh ?_
     refine zC (fin (Δ:=Γ) (g':={ g with ps:=ps',park:=g.park++[(tag,m)] }) ?_ rfl ⟨hf.doom,hf.nd⟩)
     unfold zBx
     rw [hat,if_neg hno,if_neg h0',if_pos h1']
    ·have h1':¬ zBR n S m = 1:=by simpa using h1
     repeat refine zh ?_
     refine zRL (b:=db) (cel:=qQ) (a:=tag) (v:=1) zDA rfl ?_ zQI
     refine zC (fin (Δ:=Γ) (g':=g) (d':=zLf d1 tag true) ?_ rfl ⟨zLi hf.doom,zRS hf.nd⟩)
     unfold zBx
     rw [hat,if_neg hno,if_neg h0',if_neg h1',show (g.line,g.park) = atM m.key M1 from hat.symm,zTJ]
  refine zH (fun hb2=>?_) fun hb2=>?_
  ·exact zC (rest b1 true (by rw [hb2]; rfl))
  repeat refine zh ?_
  refine zES fun b2=>?_
  repeat refine zh ?_
  refine zJT (tag:=tag) (L:=g.park) (by omega) ?_
  exact zC (rest b2 _ (by rw [hb2]; rfl))
 ·have hjl:j = L.length:=by simp only [decide_eq_false_iff_not] at hb; omega
  rw [hjl,List.drop_length] at he
  have he':(M1,d1) = zBF n S tag L (M,dm):=he
  rw [← he'] at h
  exact zC h
end
end
section
open Go Go.Sep Go.Sep.Bt
section
variable {B:World} {Γ Δ:List zB} {k:K} {l gm db st n:Nat} {M:GM} {dm:DM} {X:GX} {D:List (ql×Int)} {S:yY} {tag:ql}
theorem zND {Q:Bool→K} (h:HG B (vH l M dm::Γ) (Q (dm tag))):HG B (vH l M dm::Γ) (uf.call (some ⟨l,0,none⟩) (qQ tag).toArray Q):=by
 refine fun w hw=>zF5 _ _ _ _ ?_
 refine hg hw ?_
 clear hw w
 refine zKt fun gm db X D hf=>?_
 unfold uf
 refine zR fun t3=>?_
 repeat refine zh ?_
 refine zLc (b:=db) (cel:=qQ) (a:=tag) (z:=0) zDA zDn ?_ zQI
 rw [← hf.doom]
 refine zQ db ?_
 refine zX (Sep.stars (X.map gB)) ?_
 refine zQ gm ?_
 refine zQ l ?_
 exact zER hf (zC h)
theorem zVr {m:List (ql×Int)} {a b:ql} (h:(m.map Prod.fst).Nodup):y9 b (zH8 a m) = if b = a then none else y9 b m:=by
 induction m with
 | nil=>simp [zH8,y9]
 | cons p m ih=>
  have h1:=List.nodup_cons.1 (show (p.1::m.map Prod.fst).Nodup from h)
  unfold zH8
  split
  ·rename_i e
   split
   ·rename_i e2
    have hn:∀ m:List (ql×Int),p.1 ∉ m.map Prod.fst→y9 p.1 m = none:=fun m=>by
     induction m with
     | nil=>intro _; rfl
     | cons q m ih=>intro hq; simp only [List.map_cons,List.mem_cons,not_or] at hq; unfold y9; rw [if_neg hq.1]; exact ih hq.2
    rw [e2,e]; exact hn m h1.1
   ·rename_i e2
    simp only [y9]
    rw [if_neg (fun e3=>e2 (by rw [e3,e]))]
  ·rename_i e
   by_cases h2:b = p.1
   ·have h3:¬ b = a:=fun h4=>e (by rw [← h4,h2])
    simp only [y9,h2,if_true]
    rw [if_neg (by rw [← h2]; exact h3)]
   ·simp only [y9,h2,if_false]
    exact ih h1.2
theorem zZX {m:List (ql×Int)} (h:(m.map Prod.fst).Nodup):((zH8 tag m).map Prod.fst).Nodup:=by
 rcases zE7 tag m with ⟨_,_,h3,_⟩ | ⟨j,x,_,_,_,_,_,h3⟩
 ·rw [h3]; exact h
 ·rw [h3]
  exact List.Pairwise.sublist ((List.eraseIdx_sublist m j).map Prod.fst) h
theorem zRT {X Y:GX} {A C:GX} {p:List UInt8×zCm} (hY:(Y.map fun q=>(q.1,q.2.b)) = X.map fun q=>(q.1,q.2.b)) (hX:X = A++p::C):∃ A' g C',Y = A'++(p.1,g)::C'∧g.b = p.2.b∧A'.length = A.length∧(A'.map Prod.fst) = A.map Prod.fst∧C'.map Prod.fst = C.map Prod.fst:=by
 rw [hX,List.map_append,List.map_cons] at hY
 obtain ⟨A',Y2,rfl,h1,h2⟩:=List.map_eq_append_iff.1 hY
 obtain ⟨⟨k,g⟩,C',rfl,h3,h4⟩:=List.map_eq_cons_iff.1 h2
 simp only [Prod.mk.injEq] at h3
 obtain ⟨rfl,h5⟩:=h3
 refine ⟨A',g,C',rfl,h5,by simpa using congrArg List.length h1,?_,?_⟩
 ·have:=congrArg (List.map Prod.fst) h1; simpa [Function.comp_def] using this
 ·have:=congrArg (List.map Prod.fst) h4; simpa [Function.comp_def] using this
theorem zTK {Y A' C':GX} {key:List UInt8} {g:zCm} (hY:Y = A'++(key,g)::C') (h:HG B (gL g (Sep.stars ((A'++C').map gB)::Γ)) k):HG B (Sep.stars (Y.map gB)::Γ) k:=by
 rw [hY]
 refine zEk ?_
 refine zBX ?_
 exact h
theorem zNE {A' C':GX} {key:List UInt8} {g:zCm} (h:HG B (Sep.stars ((A'++(key,g)::C').map gB)::Γ) k):HG B (gL g (Sep.stars ((A'++C').map gB)::Γ)) k:=by
 refine zDp (Δ:=gL g []) ?_
 exact zAG (F:=gB) (x:=(key,g)) h
theorem zNF {N:Nat} {Q:K} (hN:gsz M N) (hNl:N ≤ 1000000) (h:HG B (vH l (uS tag (M,dm)).1 (uS tag (M,dm)).2::Γ) Q) :
  HG B (vH l M dm::Γ) (yV (some ⟨l,0,none⟩) (qQ tag).toArray Q):=by
 refine zKt fun gm db X D hf=>?_
 have hsz:∀ p ∈ X,p.2.line.length ≤ N∧p.2.park.length ≤ N:=fun p hp=>hN.2 (p.1,(p.2.line,p.2.park)) (by rw [← hf.mod]; exact List.mem_map.2 ⟨p,hp,rfl⟩)
 unfold yV
 refine zR fun t3=>?_
 repeat refine zh ?_
 refine zTA zTG fun r=>?_
 let cl:List (List UInt8)→List UInt8×(List Claim×List Claim)→List UInt8×(List Claim×List Claim):=fun ks p=>if p.1 ∈ ks then p else (p.1,(noT tag p.2.1,noT tag p.2.2))
 refine vQ (α:=Unit) (ι:=GX×GX×Option (List UInt8×zCm)) (fun _ i=>(i.1.map fun q=>(q.1,q.2.b)) = (X.map fun q=>(q.1,q.2.b))∧zOt i.1 = (zOt X).map (cl (i.2.1.map Prod.fst))∧(i.2.1.map Prod.fst).Nodup)
  (fun _ i=>zAN xU gV gm r X i.2.1 i.2.2::Sep.stars (i.1.map gB)::blk t3 (.cells (qQ tag).toArray xW (0,0))::blk l (.cells [.map (some gm),.map (some db)].toArray jF (0,0))::xM (kyS qQ) (Value.int .i64) db D::Γ)
  (fun _ i=>i.2.1.length) (X,X,none) ⟨rfl,?_,hf.once⟩ ?_ |> fun h=>zC h
 ·simp only
  rw [List.map_congr_left (g:=id)]
  ·simp
  ·intro p hp
   simp only [cl,id]
   rw [if_pos]
   obtain ⟨q,hq,rfl⟩:=List.mem_map.1 hp
   exact List.mem_map.2 ⟨q,hq,rfl⟩
 rintro k' _ ⟨Y,left,cur⟩ ⟨hYb,hYm,hnd⟩ hk'
 simp only at hYb hYm hnd hk' ⊢
 unfold yV.b1
 refine zVg (r:=r) (fun hl0=>?_) fun l1 p l2 hl1 hp=>?_
 ·repeat refine zh ?_
  refine zRM (b:=db) (cel:=qQ) (a:=tag) zDA ?_ zQI
  subst hl0
  refine zQ gm ?_
  refine zCh (zNC (m':=Y) ?_) ?_
  ·have:=congrArg (List.map fun q:List UInt8×Nat=>(xU q.1,Value.pointer (some ⟨q.2,0,none⟩))) hYb
   simpa [gV,Function.comp_def] using this.symm
  refine zQ db ?_
  refine zX (Sep.stars (Y.map gB)) ?_
  refine zQ gm ?_
  refine zQ l ?_
  refine zER (M:=(uS tag (M,dm)).1) (dm:=(uS tag (M,dm)).2) ⟨?_,?_,fun t=>?_,zZX hf.nd⟩ (zC h)
  ·rw [hYm,hf.mod]
   simp [uS,cl]
  ·unfold zIw
   have:=congrArg (List.map Prod.fst) hYb
   simp only [List.map_map,Function.comp_def] at this
   rw [this]; exact hf.once
  ·show zLf dm tag false t = _
   unfold zLf
   rw [zVr hf.nd]
   split
   ·simp
   ·exact hf.doom t
 ·obtain ⟨A,C,hX⟩:=List.append_of_mem hp
  obtain ⟨A',g,C',hY,hgb,_,hA1,hC1⟩:=zRT hYb hX
  have hpl:p.1 ∈ left.map Prod.fst:=by rw [hl1]; simp
  have hXo:=hf.once
  rw [hX] at hXo
  have hmid:=zLh (v:=p.2) hXo
  have hgm2:(g.line,g.park) = (p.2.line,p.2.park):=by
   rw [hY,hX] at hYm
   simp only [zOt,List.map_append,List.map_cons] at hYm
   have hlen:(A'.map fun p:List UInt8×zCm=>(p.1,(p.2.line,p.2.park))).length = ((A.map fun p:List UInt8×zCm=>(p.1,(p.2.line,p.2.park))).map (cl (left.map Prod.fst))).length:=by
    have:=congrArg List.length hA1; simpa using this
   have h2:=(List.append_inj hYm hlen).2
   simp only [List.cons.injEq,cl] at h2
   rw [if_pos hpl] at h2
   exact (Prod.mk.inj h2.1).2
  simp only [Prod.mk.injEq] at hgm2
  have hps:=hsz p hp
  repeat refine zh ?_
  refine zTB (r:=r) (q:=p) ?_
  refine zh ?_
  refine zX (Sep.stars (Y.map gB)) ?_
  refine zTK hY ?_
  rw [← hgb]
  repeat refine zh ?_
  refine zES fun b1=>?_
  repeat refine zh ?_
  refine zq g.ls ?_
  refine zTI (tag:=tag) (L:=g.line) (b:=b1) (by rw [hgm2.1]; omega) fun ls'=>?_
  repeat refine zh ?_
  refine zES fun b2=>?_
  repeat refine zh ?_
  refine zq g.ps ?_
  refine zTI (tag:=tag) (L:=g.park) (b:=b2) (by rw [hgm2.2]; omega) fun ps'=>?_
  repeat refine zh ?_
  refine zX (Sep.stars ((A'++C').map gB)) ?_
  refine zq ps' ?_
  refine zq ls' ?_
  refine zQ g.b ?_
  refine zNE (key:=p.1) (g:=⟨g.b,ls',ps',noT tag g.line,noT tag g.park⟩) ?_
  refine zC (hk' () (A'++(p.1,⟨g.b,ls',ps',noT tag g.line,noT tag g.park⟩)::C',l1++l2,some p) ⟨?_,?_,?_⟩ (by rw [hl1]; simp))
  ·rw [← hYb,hY]; simp
  ·simp only
   have hne:∀ q:List UInt8,q ≠ p.1→(q ∈ l1.map Prod.fst++l2.map Prod.fst ↔ q ∈ left.map Prod.fst):=fun q hq=>by
    rw [hl1]; simp only [List.map_append,List.map_cons,List.mem_append,List.mem_cons]
    constructor
    ·rintro (h | h)
     ·exact .inl h
     ·exact .inr (.inr h)
    ·rintro (h | h | h)
     ·exact .inl h
     ·exact absurd h hq
     ·exact .inr h
   have hpn:p.1 ∉ l1.map Prod.fst++l2.map Prod.fst:=fun h5=>by
    rw [hl1,List.map_append,List.map_cons] at hnd
    obtain ⟨_,h6,h7⟩:=List.nodup_append.1 hnd
    rcases List.mem_append.1 h5 with h5 | h5
    ·exact h7 _ h5 _ List.mem_cons_self rfl
    ·exact (List.nodup_cons.1 h6).1 h5
   rw [hY,hX] at hYm
   rw [hX]
   simp only [zOt,List.map_append,List.map_cons] at hYm ⊢
   have hlen:(A'.map fun p:List UInt8×zCm=>(p.1,(p.2.line,p.2.park))).length = ((A.map fun p:List UInt8×zCm=>(p.1,(p.2.line,p.2.park))).map (cl (left.map Prod.fst))).length:=by
    have:=congrArg List.length hA1; simpa using this
   obtain ⟨h8,h9⟩:=List.append_inj hYm hlen
   simp only [List.cons.injEq] at h9
   rw [h8,h9.2]
   congr 1
   ·refine List.map_congr_left fun q hq=>?_
    obtain ⟨q,hq',rfl⟩:=List.mem_map.1 hq
    have hq2:=hmid.1 q hq'
    simp only [cl]
    by_cases h10:q.1 ∈ left.map Prod.fst
    ·rw [if_pos h10,if_pos ((hne _ hq2).2 h10)]
    ·rw [if_neg h10,if_neg fun h11=>h10 ((hne _ hq2).1 h11)]
   ·congr 1
    ·simp only [cl]
     rw [if_neg hpn,hgm2.1,hgm2.2]
    ·refine List.map_congr_left fun q hq=>?_
     obtain ⟨q,hq',rfl⟩:=List.mem_map.1 hq
     have hq2:=hmid.2 q hq'
     simp only [cl]
     by_cases h10:q.1 ∈ left.map Prod.fst
     ·rw [if_pos h10,if_pos ((hne _ hq2).2 h10)]
     ·rw [if_neg h10,if_neg fun h11=>h10 ((hne _ hq2).1 h11)]
  ·rw [hl1,List.map_append,List.map_cons] at hnd
   rw [List.map_append]
   obtain ⟨h5,h6,h7⟩:=List.nodup_append.1 hnd
   exact List.nodup_append.2 ⟨h5,(List.nodup_cons.1 h6).2,fun a ha b hb=>h7 a ha b (List.mem_cons_of_mem _ hb)⟩
theorem zVs {N:Nat} {Q:K} (hN:gsz M N) (hNl:N ≤ 1000000) (h:HG B (vH l (uS tag (M,dm)).1 (uS tag (M,dm)).2::Γ) Q) :
  HG B (vH l M dm::Γ) (yV.call (some ⟨l,0,none⟩) (qQ tag).toArray Q):=fun w hw=>zGb _ _ _ _ (zNF hN hNl h w hw)
def zGh (tag:ql) (p:List Claim×List Claim):Bool:=!zKG tag p.2 && !decide (0 < zFb (p.1.findIdx? fun c=>decide (c.1 = tag)))
def zFc (tag:ql) (M:GM):Bool:=M.all fun p=>zGh tag p.2
theorem zVt {N:Nat} {Q:Bool→K} (hN:gsz M N) (hNl:N ≤ 1000000) (h:HG B (vH l M dm::Γ) (Q (zFc tag M))):HG B (vH l M dm::Γ) (y8.call (some ⟨l,0,none⟩) (qQ tag).toArray Q):=by
 refine fun w hw=>zGa _ _ _ _ ?_
 refine hg hw ?_
 clear hw w
 refine zKt fun gm db X D hf=>?_
 have hsz:∀ p ∈ X,p.2.line.length ≤ N∧p.2.park.length ≤ N:=fun p hp=>hN.2 (p.1,(p.2.line,p.2.park)) (by rw [← hf.mod]; exact List.mem_map.2 ⟨p,hp,rfl⟩)
 have hrm:zFc tag M = X.all fun p=>zGh tag (p.2.line,p.2.park):=by unfold zFc; rw [← hf.mod]; simp [zOt,Function.comp_def]
 unfold y8
 refine zR fun t3=>?_
 repeat refine zh ?_
 refine zTA zTG fun r=>?_
 refine vQ (α:=Unit) (ι:=GX×Option (List UInt8×zCm)) (fun _ i=>(∀ p ∈ X,p ∈ i.1∨zGh tag (p.2.line,p.2.park) = true))
  (fun _ i=>zAN xU gV gm r X i.1 i.2::Sep.stars (X.map gB)::blk t3 (.cells (qQ tag).toArray xW (0,0))::blk l (.cells [.map (some gm),.map (some db)].toArray jF (0,0))::xM (kyS qQ) (Value.int .i64) db D::Γ)
  (fun _ i=>i.1.length) (X,none) (fun p hp=>.inl hp) ?_ |> fun h=>zC h
 rintro k' _ ⟨left,cur⟩ hJ hk'
 simp only at hJ hk' ⊢
 unfold y8.b1
 refine zVg (r:=r) (fun hl0=>?_) fun l1 p l2 hl1 hp=>?_
 ·repeat refine zh ?_
  subst hl0
  have e:zFc tag M = true:=by
   rw [hrm,List.all_eq_true]
   intro p hp
   rcases hJ p hp with h1 | h1
   ·cases h1
   ·exact h1
  rw [e] at h
  refine zQ db ?_
  refine zX (Sep.stars (X.map gB)) ?_
  refine zQ gm ?_
  refine zQ l ?_
  exact zER hf (zC h)
 ·obtain ⟨A,C,hX⟩:=List.append_of_mem hp
  have hps:=hsz p hp
  repeat refine zh ?_
  refine zTB (r:=r) (q:=p) ?_
  refine zh ?_
  have bad:zGh tag (p.2.line,p.2.park) = false→HG B (zAN xU gV gm r X (l1++l2) (some p)::Sep.stars (X.map gB)::blk t3 (.cells (qQ tag).toArray xW (0,0))::blk l (.cells [.map (some gm),.map (some db)].toArray jF (0,0))::xM (kyS qQ) (Value.int .i64) db D::Γ) (Q false):=fun hb=>by
   have e:zFc tag M = false:=by
    rw [hrm,List.all_eq_false]
    exact ⟨p,hp,by simp [hb]⟩
   rw [e] at h
   refine zXd (r:=r) ?_
   refine zQ db ?_
   refine zX (Sep.stars (X.map gB)) ?_
   refine zQ gm ?_
   refine zQ l ?_
   exact zER hf (zC h)
  refine zX (Sep.stars (X.map gB)) ?_
  refine zTK (key:=p.1) (g:=p.2) hX ?_
  have back:∀ (b:Bool),zGh tag (p.2.line,p.2.park) = !b→HG B (gL p.2 (Sep.stars ((A++C).map gB)::zAN xU gV gm r X (l1++l2) (some p)::blk t3 (.cells (qQ tag).toArray xW (0,0))::blk l (.cells [.map (some gm),.map (some db)].toArray jF (0,0))::xM (kyS qQ) (Value.int .i64) db D::Γ)) (y8.s2 Q (k' ()) ⟨t3,0,none⟩ (some ⟨r,0,none⟩) b):=fun b hb=>by
   refine zNE (key:=p.1) ?_
   rw [show A++(p.1,p.2)::C = X from hX.symm]
   unfold y8.s2
   refine zH (fun h2=>?_) fun h2=>?_
   ·exact zC (bad (by rw [hb,h2]; rfl))
   ·refine zC (hk' () (l1++l2,some p) (fun q hq=>?_) (by rw [hl1]; simp))
    rcases hJ q hq with h3 | h3
    ·rw [hl1] at h3
     rcases List.mem_append.1 h3 with h3 | h3
     ·exact .inl (List.mem_append_left _ h3)
     ·rcases List.mem_cons.1 h3 with rfl | h3
      ·exact .inr (by rw [hb,h2]; rfl)
      ·exact .inl (List.mem_append_right _ h3)
    ·exact .inr h3
  repeat refine zh ?_
  refine zES fun b1=>?_
  repeat refine zh ?_
  refine zJT (tag:=tag) (L:=p.2.park) (by omega) ?_
  repeat refine zh ?_
  refine zH (fun h2=>?_) fun h2=>?_
  ·exact zC (back true (by unfold zGh; rw [h2]; rfl))
  repeat refine zh ?_
  refine zES fun b2=>?_
  repeat refine zh ?_
  refine zVp (tag:=tag) (L:=p.2.line) (by omega) ?_
  exact zC (back _ (by unfold zGh; rw [h2]; rfl))
end
end
section
open Go Go.Sep Go.Sep.Bt
section
variable {B:World} {Γ Δ:List zB} {k:K} {l gm db st n:Nat} {M:GM} {dm:DM} {X:GX} {D:List (ql×Int)} {S:yY} {tag:ql}
def zD7 (r:Rec) (c:Claim):Int:=zEl r.cnt c.2.cnt r.home c.2.home
def zEA (r:Rec) (L:List Claim) (dm:DM):DM:=L.foldl (fun d c=>if zD7 r c ≠ 0 then zLf d c.1 true else d) dm
def mvP (r:Rec) (_:List Claim×DM) (c:Claim):Bool:=decide (zD7 r c ≠ 1)
def mvS (r:Rec) (x:List Claim×DM) (c:Claim):List Claim×DM:=if zD7 r c = 0 then (x.1++[c],x.2) else if zD7 r c = 2 then (x.1,zLf x.2 c.1 true) else x
def zDB (n:Nat) (S:yY) (key:List UInt8) (x:GM×DM):GM×DM :=
 (vL key ((zBh (mvP (vo n S (bs key))) (mvS (vo n S (bs key))) ((atM key x.1).1,zEA (vo n S (bs key)) (atM key x.1).1 x.2) (atM key x.1).2).1.1,(zBh (mvP (vo n S (bs key))) (mvS (vo n S (bs key))) ((atM key x.1).1,zEA (vo n S (bs key)) (atM key x.1).1 x.2) (atM key x.1).2).2) (zAm key x.1),
  (zBh (mvP (vo n S (bs key))) (mvS (vo n S (bs key))) ((atM key x.1).1,zEA (vo n S (bs key)) (atM key x.1).1 x.2) (atM key x.1).2).1.2)
theorem zaa {ι:Type} {k:(World→Prop)→K} (Γ0:ι→List zB) (i:ι) (h:HG B Γ (k fun w=>∃ i,Holds B (Γ0 i) w)) [d:Drops Γ (Γ0 i)]:HG B Γ (yZ k):=fun w hw=>⟨_,⟨i,hw.drops⟩,h w hw⟩
theorem zRU {ι:Type} {Γ0:ι→List zB} {α:Type} {a:Addr} {c:α→Value} {x:α} {k:α→K} (h0:∀ i w,Holds B (Γ0 i) w→w.cell? a = some (c x)) (h:HG B Γ (k x)):HG B Γ (LdS (fun w=>∃ i,Holds B (Γ0 i) w) a c k):=fun w hw=>⟨x,fun w ⟨i,hi⟩=>h0 i w hi,h w hw⟩
theorem zab {ι:Type} {Γ0:ι→List zB} (i:ι) (h:HG B Γ k) [d:Drops Γ (Γ0 i)]:HG B Γ (Sv (fun w=>∃ i,Holds B (Γ0 i) w) k):=fun w hw=>⟨⟨i,hw.drops⟩,h w hw⟩
abbrev zIx (db:Nat) (d:DM):zB:=ex fun D:List (ql×Int)=>Sep.stars [pur ((∀ t,d t = decide (0 < (y9 t D).getD 0))∧(D.map Prod.fst).Nodup),xM (kyS qQ) (Value.int .i64) db D]
theorem zOv {d:DM} (h:∀ D,(∀ t,d t = decide (0 < (y9 t D).getD 0))→(D.map Prod.fst).Nodup→HG B (xM (kyS qQ) (Value.int .i64) db D::Γ) k):HG B (zIx db d::Γ) k :=
 zC1 fun D=>zBX <| zGU fun ⟨h1,h2⟩=>h D h1 h2
theorem zLj {d:DM} {D:List (ql×Int)} (h1:∀ t,d t = decide (0 < (y9 t D).getD 0)) (h2:(D.map Prod.fst).Nodup) (h:HG B (zIx db d::Γ) k):HG B (xM (kyS qQ) (Value.int .i64) db D::Γ) k:=fun w hw=>by
 refine h w ?_
 have h3:Holds B (Sep.stars [pur ((∀ t,d t = decide (0 < (y9 t D).getD 0))∧(D.map Prod.fst).Nodup),xM (kyS qQ) (Value.int .i64) db D]::Γ) w:=Holds.flat.2 (Holds.pur.2 ⟨⟨h1,h2⟩,hw⟩)
 exact h3.imp fun g hg=>⟨D,hg⟩
abbrev zLk (gb:Nat) (ps:Sl) (L:List Claim):zB:=ex fun ls:Sl=>Sep.stars [blk gb (.cells [ls.val,ps.val].toArray zAK (0,0)),SlC qb 7 ls (L.flatMap clF)]
theorem zTL {gb:Nat} {ps:Sl} {L:List Claim} (h:∀ ls,HG B (blk gb (.cells [ls.val,ps.val].toArray zAK (0,0))::SlC qb 7 ls (L.flatMap clF)::Γ) k):HG B (zLk gb ps L::Γ) k :=
 zC1 fun ls=>zBX (h ls)
theorem zQL {gb:Nat} {ls ps:Sl} {L:List Claim} (h:HG B (zLk gb ps L::Γ) k):HG B (blk gb (.cells [ls.val,ps.val].toArray zAK (0,0))::SlC qb 7 ls (L.flatMap clF)::Γ) k :=
 zDp (Δ:=[blk gb (.cells [ls.val,ps.val].toArray zAK (0,0)),SlC qb 7 ls (L.flatMap clF)]) (zRC (F:=fun ls:Sl=>Sep.stars [blk gb (.cells [ls.val,ps.val].toArray zAK (0,0)),SlC qb 7 ls (L.flatMap clF)]) ls h)
theorem zOw (r:Rec) (x:List Claim×DM) (c:Claim):(mvS r x c).1.length ≤ x.1.length + 1:=by
 unfold mvS
 repeat' split
 all_goals simp
theorem zQM (r:Rec):∀ (L:List Claim) (x:List Claim×DM),(zBh (mvP r) (mvS r) x L).1.1.length ≤ x.1.length + L.length∧(zBh (mvP r) (mvS r) x L).2.length ≤ L.length
 | [],x=>by simp [zBh]
 | c::L,x=>by
  rw [zEP]
  have h1:=zQM r L (mvS r x c)
  have h2:=zOw r x c
  refine ⟨by simp only [List.length_cons]; omega,?_⟩
  simp only
  split
  ·simp; omega
  ·simp; exact h1.2
theorem zXg {s:Sl} {fv:Value} {Q:Sl→K} (h:HG B Γ (zTD Tryz.prog zS.call qb zE1 0 7 [(.int .i64 0),(.int .u64 0),(.int .u64 0),(.int .i64 0),(.string ⟨#[]⟩),(.int .i64 0),(.int .u64 0)] s fv Q)):HG B Γ (zG.call s fv Q):=fun w hw=>
 uR _ _ _ _ (h w hw)
theorem zVu {key:List UInt8} {N:Nat} {Q:K} (hk:key.length < 1000000000) (hN:gsz M N) (hNl:N ≤ 1000000) (h:HG B (vH l (zDB n S key (M,dm)).1 (zDB n S key (M,dm)).2::ze st n S::Γ) Q) :
  HG B (vH l M dm::ze st n S::Γ) (qK.call (some ⟨l,0,none⟩) (some ⟨st,0,none⟩) (bs key) Q):=by
 refine fun w hw=>zGc _ _ _ _ _ ?_
 refine hg hw ?_
 clear hw w
 unfold qK
 refine zR fun l3=>?_
 repeat refine zh ?_
 refine zQ l ?_
 refine zTH fun gm db X D A g C hf hX=>?_
 have hat:=zYr hX hf
 rw [zOu] at hat
 have hz:=zRQ (k:=key) hN
 rw [hat] at hz
 simp only at hz
 refine zQ st ?_
 refine zAM (k:=bs key) (by show key.length < _; omega) fun s hok=>?_
 have hmv:zDB n S key (M,dm) = zDB n S key (M,dm):=rfl
 conv at hmv=>rhs; unfold zDB
 simp only [hat] at hmv
 rw [hmv] at h
 generalize vo n S (bs key) = r at *
 refine zR fun g6=>?_
 refine zR fun r7=>?_
 repeat refine zh ?_
 have hcl:∀ c:Claim,zEl r.cnt c.2.cnt r.home c.2.home = zD7 r c:=fun c=>rfl
 refine yS g.ls fun a1 a2 a3 a4=>?_
 refine yS g.ps fun b1 b2 b3 b4=>?_
 rw [zn _ 7 zEo] at a1 b1
 refine zQ db ?_
 refine zLj (d:=zEA r (g.line.take 0) dm) hf.doom hf.nd ?_
 refine vQ (α:=Int) (ι:=Nat) (fun x i=>x = (i:Int)∧i ≤ g.line.length)
  (fun x i=>zIx db (zEA r (g.line.take i) dm)::blk r7 (.cells (zBv r s).toArray qA (0,0))::blk g6 (.cells [.pointer (some ⟨g.b,0,none⟩)].toArray jK (0,0))::blk l3 (.cells [.pointer (some ⟨l,0,none⟩)].toArray zDT (0,0))::ze st n S::gL g (blk l (.cells [.map (some gm),.map (some db)].toArray jF (0,0))::xM xU gV gm X::Sep.stars ((A++C).map gB)::Γ)) (fun x i=>g.line.length - i) 0 ⟨rfl,Nat.zero_le _⟩ ?_ |> fun h=>zC h
 rintro k' _ i ⟨rfl,hi⟩ hk'
 unfold qK.b1
 refine zH (fun hb=>?_) fun hb=>?_
 ·have hil:i < g.line.length:=by simp only [decide_eq_true_eq] at hb; omega
  have hge:g.line[i]? = some g.line[i]:=List.getElem?_eq_getElem hil
  have htk:g.line.take (i + 1) = g.line.take i++[g.line[i]]:=List.take_succ_eq_append_getElem hil
  generalize g.line[i] = c at hge htk
  have hdm:zEA r (g.line.take (i + 1)) dm = if zD7 r c ≠ 0 then zLf (zEA r (g.line.take i) dm) c.1 true else zEA r (g.line.take i) dm:=by
   rw [htk]; unfold zEA; rw [List.foldl_append]; rfl
  refine zAw clF zEo (fun w hw=>(yh (s:=g.ls) hw).1) hge ?_
  refine zR fun c9=>?_
  repeat refine zh ?_
  refine zRG ?_
  rw [hcl]
  unfold qK.s2
  have h5:=hk' ((i:Int) + 1) (i + 1) ⟨by simp,hil⟩ (by omega)
  rw [hdm] at h5
  refine zH (fun h0=>?_) fun h0=>?_
  ·rw [if_pos (by simpa using h0)] at h5
   refine zX (zIx db (zEA r (g.line.take i) dm)) ?_
   refine zOv fun D1 hd1 hd2=>?_
   repeat refine zh ?_
   refine zRL (b:=db) (cel:=qQ) (a:=c.1) (v:=1) zDA rfl ?_ zQI
   refine zLj (zLi hd1) (zRS hd2) ?_
   refine qU ?_
   exact zC h5
  ·rw [if_neg (by simpa using h0)] at h5
   refine qU ?_
   exact zC h5
 have hil:i = g.line.length:=by simp only [decide_eq_false_iff_not] at hb; omega
 rw [hil,List.take_length]
 clear hk' hb hi hil
 have hlen:=zQM r g.park (g.line,zEA r g.line dm)
 refine vk ?_
 refine zaa (fun ls:Sl=>[blk g6 (.cells [.pointer (some ⟨g.b,0,none⟩)].toArray jK (0,0)),blk g.b (.cells [ls.val,g.ps.val].toArray zAK (0,0))]) g.ls ?_
 refine zRU (x:=some ⟨g.b,0,none⟩) (fun ls w hw=>vI (zBU (b:=g6) hw) rfl) ?_
 refine zRU (x:=some ⟨g.b,0,none⟩) (fun ls w hw=>vI (zBU (b:=g6) hw) rfl) ?_
 refine vg ?_
 refine zRU (x:=g.ps) (fun ls w hw=>?_) ?_
 ·rw [uV]
  exact vI (zBU (b:=g.b) hw) rfl
 refine zq g.ls ?_
 refine zQ g.b ?_
 refine zQL ?_
 refine zXg ?_
 refine zQ l3 ?_
 refine zQ g6 ?_
 refine zQ r7 ?_
 refine zX (zIx db (zEA r g.line dm)) ?_
 refine zX (zLk g.b g.ps g.line) ?_
 refine zq g.ps ?_
 refine zC (Δ:=SlC qb 7 g.ps (g.park.flatMap clF)::zLk g.b g.ps g.line::zIx db (zEA r g.line dm)::blk r7 (.cells (zBv r s).toArray qA (0,0))::blk g6 (.cells [.pointer (some ⟨g.b,0,none⟩)].toArray jK (0,0))::blk l3 (.cells [.pointer (some ⟨l,0,none⟩)].toArray zDT (0,0))::blk l (.cells [.map (some gm),.map (some db)].toArray jF (0,0))::ze st n S::xM xU gV gm X::Sep.stars ((A++C).map gB)::Γ) ?_
 refine zTE (γ:=List Claim×DM) (R:=fun x=>zLk g.b g.ps x.1::zIx db x.2::blk r7 (.cells (zBv r s).toArray qA (0,0))::blk g6 (.cells [.pointer (some ⟨g.b,0,none⟩)].toArray jK (0,0))::blk l3 (.cells [.pointer (some ⟨l,0,none⟩)].toArray zDT (0,0))::blk l (.cells [.map (some gm),.map (some db)].toArray jF (0,0))::ze st n S::xM xU gV gm X::Sep.stars ((A++C).map gB)::Γ)
  (L:=g.park) (f:=clF) (mvP r) (mvS r) (g.line,zEA r g.line dm) (fun x C=>x.1.length + C.length ≤ 2000000) (by simp only; omega) (fun x c C h=>by have:=zOw r x c; simp only [List.length_cons] at h; omega) (fun s fv Q w h=>xq _ _ _ _ h) zEo (by omega) (fun _=>rfl) rfl (by omega) (fun Ξ x c C2 q hc hIx hq=>?_) (fun ps' _=>?_)
 ·refine zEV (cs:=[.pointer (some ⟨r7,0,none⟩),.pointer (some ⟨g6,0,none⟩),.pointer (some ⟨l3,0,none⟩)]) ?_
  refine fun w hw=>zFZ _ _ _ _ _ _ ?_
  refine hg hw ?_
  clear hw w
  unfold qY
  refine zR fun c4=>?_
  repeat refine zh ?_
  refine zRG ?_
  rw [hcl]
  have e1:mvP r x c = decide (zD7 r c ≠ 1):=rfl
  rw [e1] at hq
  refine zH (fun h0=>?_) fun h0=>?_
  ·have h0':zD7 r c = 0:=by simpa using h0
   rw [show mvS r x c = (x.1++[c],x.2) by unfold mvS; rw [if_pos h0']] at hq
   refine zX (zLk g.b g.ps x.1) ?_
   refine zTL fun ls=>?_
   refine yS ls fun d1 d2 d3 d4=>?_
   rw [zn _ 7 zEo] at d1
   refine vk ?_
   refine zBw [blk g.b (.cells [ls.val,g.ps.val].toArray zAK (0,0)),blk g6 (.cells [.pointer (some ⟨g.b,0,none⟩)].toArray jK (0,0)),blk c4 (.cells (clF c).toArray qb (0,0))] ?_
   repeat refine zh ?_
   refine zR fun t=>?_
   repeat refine zh ?_
   refine xR (s:=ls) (esz:=7) (us:=clF c) (zAX rfl) (by intro v hv; exact zRP [c] v (by simpa using hv)) (by simp only; omega) fun ls' _=>?_
   rw [show x.1.flatMap clF++clF c = (x.1++[c]).flatMap clF by simp only [List.flatMap_append,List.flatMap_cons,List.flatMap_nil,List.append_nil]]
   repeat refine zh ?_
   refine zq ls' ?_
   refine zQ g.b ?_
   refine zQL ?_
   unfold qY.s1
   exact zC hq
  ·have h0':¬ zD7 r c = 0:=by simpa using h0
   refine zH (fun h2=>?_) fun h2=>?_
   ·have h2':zD7 r c = 2:=by simpa using h2
    rw [show mvS r x c = (x.1,zLf x.2 c.1 true) by unfold mvS; rw [if_neg h0',if_pos h2']] at hq
    refine zX (zIx db x.2) ?_
    refine zOv fun D1 hd1 hd2=>?_
    repeat refine zh ?_
    refine zRL (b:=db) (cel:=qQ) (a:=c.1) (v:=1) zDA rfl ?_ zQI
    refine zLj (zLi hd1) (zRS hd2) ?_
    unfold qY.s1
    exact zC hq
   ·have h2':¬ zD7 r c = 2:=by simpa using h2
    rw [show mvS r x c = x by unfold mvS; rw [if_neg h0',if_neg h2']] at hq
    unfold qY.s1
    exact zC hq
 ·generalize (zBh (mvP r) (mvS r) (g.line,zEA r g.line dm) g.park) = y at *
  obtain ⟨⟨y1,y2⟩,y3⟩:=y
  simp only at h hlen ⊢
  refine zX (zLk g.b g.ps y1) ?_
  refine zTL fun ls'=>?_
  refine zab ls' ?_
  refine vg ?_
  repeat refine zh ?_
  refine zX (zIx db y2) ?_
  refine zOv fun D1 hd1 hd2=>?_
  refine zC (Δ:=gL ⟨g.b,ls',ps',y1,y3⟩ (zFG l gm db X (A++C) D1 (ze st n S::Γ))) ?_
  exact zQK hX rfl hf ⟨hd1,hd2⟩ h
end
end
section
open Go Go.Sep Go.Sep.Bt
theorem zYt {M:GM} {k:List UInt8} {T:Nat} (h:∀ p ∈ M,p.2.1.length + p.2.2.length ≤ T):(atM k M).1.length + (atM k M).2.length ≤ T:=by
 unfold atM
 rcases zE7 k M with ⟨h1,_⟩ | ⟨j,v,_,h0,_,h1,_⟩
 ·rw [h1]; simp
 ·rw [h1]; exact h _ (List.mem_of_getElem? h0)
theorem zTM {M:GM} {k:List UInt8} {T:Nat} (h:∀ p ∈ M,p.2.1.length + p.2.2.length ≤ T):∀ p ∈ zAm k M,p.2.1.length + p.2.2.length ≤ T:=fun p hp=>by
 unfold zAm at hp
 split at hp
 ·rcases List.mem_append.1 hp with hp | hp
  ·exact h p hp
  ·rw [List.mem_singleton.1 hp]; simp
 ·exact h p hp
theorem zRV {M:GM} {k:List UInt8} {v:List Claim×List Claim} {T:Nat} (h:∀ p ∈ M,p.2.1.length + p.2.2.length ≤ T) (hv:v.1.length + v.2.length ≤ T):∀ p ∈ vL k v M,p.2.1.length + p.2.2.length ≤ T:=fun p hp=>by
 rcases zLg hp with rfl | hp
 ·exact hv
 ·exact h p hp
theorem zQN {M:GM} {k:List UInt8}:(zAm k M).length ≤ M.length + 1:=by
 unfold zAm
 split <;> simp
theorem zTN {M:GM} {T T':Nat} (h:∀ p ∈ M,p.2.1.length + p.2.2.length ≤ T) (ht:T ≤ T'):∀ p ∈ M,p.2.1.length + p.2.2.length ≤ T':=fun p hp=>Nat.le_trans (h p hp) ht
theorem zVv {n:Nat} {S:yY} {tag:ql} {x:GM×DM} {m:zEn} {T:Nat} (hl:x.1.length ≤ T) (h:∀ p ∈ x.1,p.2.1.length + p.2.2.length ≤ T):(zBx n S tag x m).1.length ≤ T + 1∧∀ p ∈ (zBx n S tag x m).1,p.2.1.length + p.2.2.length ≤ T + 1:=by
 have g1:(zAm m.key x.1).length ≤ T + 1:=Nat.le_trans zQN (by omega)
 have g2:=zTN (zTM (k:=m.key) h) (Nat.le_succ T)
 have g3:=zYt (k:=m.key) h
 unfold zBx
 split
 ·exact ⟨g1,g2⟩
 split
 ·exact ⟨by rw [zHG zEQ]; exact g1,zRV g2 (by simp only [List.length_append,List.length_cons,List.length_nil]; omega)⟩
 split
 ·exact ⟨by rw [zHG zEQ]; exact g1,zRV g2 (by simp only [List.length_append,List.length_cons,List.length_nil]; omega)⟩
 ·exact ⟨g1,g2⟩
theorem zNG {n:Nat} {S:yY} {tag:ql}:∀ (L:List zEn) {x:GM×DM} {T:Nat},x.1.length ≤ T→(∀ p ∈ x.1,p.2.1.length + p.2.2.length ≤ T)→(zBF n S tag L x).1.length ≤ T + L.length∧∀ p ∈ (zBF n S tag L x).1,p.2.1.length + p.2.2.length ≤ T + L.length
 | [],x,T,h1,h2=>⟨h1,h2⟩
 | m::L,x,T,h1,h2=>by
  obtain ⟨a1,a2⟩:=zVv (n:=n) (S:=S) (tag:=tag) (m:=m) h1 h2
  obtain ⟨b1,b2⟩:=zNG (n:=n) (S:=S) (tag:=tag) L a1 a2
  rw [List.length_cons]
  exact ⟨by show (zBF n S tag L (zBx n S tag x m)).1.length ≤ _; omega,zTN (T:=T + 1 + L.length) b2 (by omega)⟩
theorem zQO (r:Rec):∀ (L:List Claim) (x:List Claim×DM),(zBh (mvP r) (mvS r) x L).1.1.length + (zBh (mvP r) (mvS r) x L).2.length ≤ x.1.length + L.length
 | [],x=>by simp [zBh]
 | c::L,x=>by
  rw [zEP]
  have h1:=zQO r L (mvS r x c)
  simp only [List.length_cons]
  by_cases h0:zD7 r c = 1
  ·rw [show mvP r x c = false by simp [mvP,h0]]
   rw [show mvS r x c = x by simp [mvS,h0]] at h1 ⊢
   simp only [Bool.false_eq_true,if_false,List.length_cons]
   omega
  ·rw [show mvP r x c = true by simp [mvP,h0]]
   have h2:=zOw r x c
   simp only [if_true]
   omega
theorem zVw {n:Nat} {S:yY} {key:List UInt8} {x:GM×DM} {T:Nat} (hl:x.1.length ≤ T) (h:∀ p ∈ x.1,p.2.1.length + p.2.2.length ≤ T):(zDB n S key x).1.length ≤ T + 1∧∀ p ∈ (zDB n S key x).1,p.2.1.length + p.2.2.length ≤ T:=by
 have g1:(zAm key x.1).length ≤ T + 1:=Nat.le_trans zQN (by omega)
 have g3:=zYt (k:=key) h
 unfold zDB
 refine ⟨by simp only; rw [zHG zEQ]; exact g1,zRV (zTM h) ?_⟩
 have:=zQO (vo n S (bs key)) (atM key x.1).2 ((atM key x.1).1,zEA (vo n S (bs key)) (atM key x.1).1 x.2)
 simp only at this ⊢
 omega
theorem zVx {tag:ql} {x:GM×DM} {T:Nat} (hl:x.1.length ≤ T) (h:∀ p ∈ x.1,p.2.1.length + p.2.2.length ≤ T):(uS tag x).1.length ≤ T∧∀ p ∈ (uS tag x).1,p.2.1.length + p.2.2.length ≤ T:=by
 refine ⟨by simpa [uS] using hl,fun p hp=>?_⟩
 obtain ⟨q,hq,rfl⟩:=List.mem_map.1 hp
 have h1:=h q hq
 have h2:(noT tag q.2.1).length ≤ q.2.1.length:=List.length_filter_le _ _
 have h3:(noT tag q.2.2).length ≤ q.2.2.length:=List.length_filter_le _ _
 simp only
 omega
end
section
open Go Go.Sep
structure OpM where
 kind:Int
 key:List UInt8
 val:List UInt8
 n:Int
deriving DecidableEq
abbrev OpX:=OpM×Sl
abbrev opF (x:OpX):List Value:=[.int .i64 x.1.kind,xU x.1.key,x.2.val,.int .i64 x.1.n]
theorem zBL (x:OpX):(opF x).length = 4:=rfl
structure TxX where
 kind:Int
 reads:List (List UInt8)
 writes:List (List UInt8)
 ops:List OpX
 to:Int
 rs:Sl
 ws:Sl
 os:Sl
abbrev txL (t:TxX):List Value:=[.int .i64 t.kind,t.rs.val,t.ws.val,t.os.val,.int .i64 t.to]
def zCs (w:World) (t:TxX):Prop:=RdC w t.rs 1 (t.reads.map xU)∧RdC w t.ws 1 (t.writes.map xU)∧RdC w t.os 4 (t.ops.flatMap opF)∧∀ x ∈ t.ops,RdB w x.2 x.1.val
end
section
open Go Go.Sep
abbrev OX:=List ((Bool×List UInt8)×Sl)
def oF (x:(Bool×List UInt8)×Sl):List Value:=[.bool x.1.1,x.2.val]
theorem zIA (x:(Bool×List UInt8)×Sl):(oF x).length = 2:=rfl
abbrev oB (x:(Bool×List UInt8)×Sl):zB:=Bytes yO x.2 x.1.2
end
section
open Go Go.Sep
theorem zac:zE8 Tryz.prog uN .string qA:=⟨9,by kernel_rfl,by kernel_rfl⟩
section
variable {B w:World} {Γ:List zB} {β:Type} {cV:β→Value}
theorem zGi {mb t1:Nat} {m:List (List UInt8×β)} {k:Sl→K} (hm:m.length ≤ 1000000) (h:Holds B (blk t1 (.cells #[.map (some mb)] uN (0,0))::xM xU cV mb m::Γ) w)
  (hk:∀ s ss w,ss.Perm (m.map Prod.fst)→Holds B (SlS s ss::xM xU cV mb m::Γ) w→k s w):uM.call (.func (.func 228) #[] #[.pointer (some ⟨t1,0,none⟩)]) k w:=by
 refine zEr _ _ _ ?_
 unfold uM
 refine zCV _ _ _ _ ?_
 unfold xQ
 refine zPV h ?_
 clear h
 intro s2 w h
 try simp only [uV,Nat.zero_add,Nat.reduceAdd]
 refine zUy h rfl (by kernel_rfl) fun D l r w hr1 hr2 h hy=>?_
 refine zK9 (zAB (yv l) ⟨t1,0,none⟩ (fun w3=>∃ Δ,Holds B (blk l (.loop r)::Δ) w3∧∀ w,Holds B Δ w→(Ld ⟨s2,0,none⟩ Sl.val fun t12=>jV D (k t12)) w) w ?_) fun v w h=>h.2
 unfold zm
 refine zY9 (x:=(some mb)) h rfl (by first | with_reducible exact M0 | with_reducible exact M1 | with_reducible exact M2 | with_reducible exact M3 | with_reducible exact M4 | with_reducible exact M5 | with_reducible exact M6 | with_reducible exact M7 | with_reducible exact M8 | with_reducible exact M9 | with_reducible exact M10 | with_reducible exact M11 | with_reducible exact M12) ?_ ?_
 ·exact rfl
 replace h:=P3 h
 replace h:=P3 h
 replace h:=P3 h
 replace h:=P3 h
 replace h:=P4 h
 try simp only [N1,N2,N3,N4,N5,N6,N7] at h
 refine zS5 zac h fun r2 w h=>?_
 replace h:=h.del 4 at4
 try simp only [N1,N2,N3,N4,N5,N6,N7] at h
 have h0:=(h.zAk uh 1)
 refine yN.of (fun _ w=>∃ (o:Sl) (ss:List (List UInt8)) (left:List (List UInt8×β)) (cur:Option (List UInt8×β)),(ss++left.map Prod.fst).Perm (m.map Prod.fst) ∧
   Holds B (blk l (.loop r)::blk D (.deferred (some []))::blk s2 (.cells #[o.val] zAi (0,0))::SlS o ss::zAN xU cV mb r2 m left cur::Γ) w)
  (fun _ w=>zOq r2 m.length w) ⟨⟨none,0,0⟩,[],m,none,List.Perm.refl _,?_⟩ ?_
 ·replace h:=h0
  replace h:=P1 h
  replace h:=P1 h
  replace h:=P4 h
  replace h:=P4 h
  replace h:=P4 h
  try simp only [N1,N2,N3,N4,N5,N6,N7] at h
  exact h
 clear h h0
 rintro _ w ⟨o,ss,left,cur,hperm,h⟩
 have hcnt:=zQD (h.pick 4 at4)
 have hlen:=hperm.length_eq
 simp only [List.length_append,List.length_map] at hlen
 unfold zm.b1
 replace h:=P3 h
 replace h:=P3 h
 replace h:=P3 h
 replace h:=P3 h
 replace h:=P4 h
 try simp only [N1,N2,N3,N4,N5,N6,N7] at h
 refine zVf h (fun hl0 w h=>?_) (fun l1 p l2 w hl1 hpm h=>?_)
 ·refine ⟨_,false,rfl,rfl,?_⟩
  refine zNo rfl ?_
  replace h:=P4 h
  replace h:=P4 h
  replace h:=P4 h
  replace h:=P4 h
  try simp only [N1,N2,N3,N4,N5,N6,N7] at h
  refine ⟨_,h,fun w h=>?_⟩
  refine zY9 (x:=o) h rfl (by first | with_reducible exact M0 | with_reducible exact M1 | with_reducible exact M2 | with_reducible exact M3 | with_reducible exact M4 | with_reducible exact M5 | with_reducible exact M6 | with_reducible exact M7 | with_reducible exact M8 | with_reducible exact M9 | with_reducible exact M10 | with_reducible exact M11 | with_reducible exact M12) ?_ ?_
  ·exact rfl
  refine zSN h fun w h=>?_
  replace h:=P2 h
  replace h:=P2 h
  replace h:=D2 h
  try simp only [N1,N2,N3,N4,N5,N6,N7] at h
  rw [hl0] at hperm
  simp only [List.map_nil,List.append_nil] at hperm
  exact hk o ss _ hperm h
 ·refine ⟨_,true,rfl,rfl,?_⟩
  refine zSL rfl ?_
  refine zS6 h ?_
  refine ⟨_,bs p.1,rfl,rfl,?_⟩
  replace h:=P4 h
  replace h:=P4 h
  replace h:=P4 h
  replace h:=P4 h
  try simp only [N1,N2,N3,N4,N5,N6,N7] at h
  refine zLA (hy (bs p.1) (fun w=>∃ o',Holds B (blk l (.loop r)::blk D (.deferred (some []))::blk s2 (.cells #[Sl.val o'] zAi (0,0))::SlS o' (ss++[p.1])::zAN xU cV mb r2 m (l1++l2) (some p)::Γ) w) w _ h fun W h=>?_) fun v w hv=>?_
  ·have hon:ss.length = o.n:=by have:=(h.pick 3 at3).zLN.1; simpa using this
   refine zY9 (x:=o) h rfl (by first | with_reducible exact M0 | with_reducible exact M1 | with_reducible exact M2 | with_reducible exact M3 | with_reducible exact M4 | with_reducible exact M5 | with_reducible exact M6 | with_reducible exact M7 | with_reducible exact M8 | with_reducible exact M9 | with_reducible exact M10 | with_reducible exact M11 | with_reducible exact M12) ?_ ?_
   ·exact rfl
   refine zPV h ?_
   clear h
   intro t10 w h
   try simp only [uV,Nat.zero_add,Nat.reduceAdd]
   refine zLL (us:=[xU p.1]) (h.pick 4 at4) (by kernel_rfl) (by kernel_rfl) (by':=16) (by kernel_rfl) zLI rfl (RdC.zLM (E:=uh) (b:=t10) (n:=1) (vs:=[xU p.1]) (cs:=#[xU p.1]) h List.mem_cons_self rfl rfl 1) (by simp [yX]) (by simp only; omega) (by decide) fun o' w h _ _=>?_
   try simp only [N1,N2,N3,N4,N5,N6,N7] at h
   first | refine S0 h rfl ?_ rfl ?_ | refine S1 h rfl ?_ rfl ?_ | refine S2 h rfl ?_ rfl ?_ | refine S3 h rfl ?_ rfl ?_ | refine S4 h rfl ?_ rfl ?_ | refine S5 h rfl ?_ rfl ?_ | refine S6 h rfl ?_ rfl ?_ | refine S7 h rfl ?_ rfl ?_ | refine S8 h rfl ?_ rfl ?_
   ·first | exact Nat.lt_of_ble_eq_true rfl | (simp; done) | (simp; omega)
   clear h
   intro w h
   try simp only [N1,N2,N3,N4,N5,N6,N7] at h
   replace h:=P5 h
   replace h:=P1 h
   replace h:=P5 h
   replace h:=P5 h
   replace h:=P5 h
   replace h:=D5 h
   try simp only [N1,N2,N3,N4,N5,N6,N7] at h
   refine zZB h fun w h=>?_
   have e:({ ({ r with state:=.busy }:Loop) with state:=.ready,pending:=none }:Loop) = r:=by
    cases r
    simp only at hr1 hr2
    simp only [hr1,hr2]
   rw [e] at h
   refine ⟨o',?_⟩
   have e2:ss.map xU++[xU p.1] = (ss++[p.1]).map xU:=by simp
   rw [e2] at h
   exact h
  ·obtain ⟨rfl,o',h⟩:=hv
   refine ⟨true,rfl,?_⟩
   refine zNo rfl ?_
   have hcnt2:=zQD (h.pick 4 at4)
   refine ⟨⟨o',_,_,_,?_,h⟩,?_⟩
   ·refine List.Perm.trans ?_ hperm
    rw [hl1]
    simp only [List.map_append,List.map_cons,List.append_assoc]
    refine List.Perm.append_left _ ?_
    show (p.1::(l1.map Prod.fst++l2.map Prod.fst)).Perm _
    exact List.perm_middle.symm
   ·rw [hcnt,hcnt2,hl1]
    simp
theorem zIy {mb:Nat} {m:List (List UInt8×β)} {k:Sl→K} (hm:m.length ≤ 1000000) (h:Holds B (xM xU cV mb m::Γ) w)
  (hk:∀ s w,Holds B (SlS s (zCl (m.map Prod.fst))::xM xU cV mb m::Γ) w→k s w) :
  yJ.call (some mb) (fun t7=>uo.call t7 k) w:=by
 refine zAH _ _ _ ?_
 unfold yJ
 refine zPV h ?_
 clear h
 intro m1 w h
 try simp only [uV,Nat.zero_add,Nat.reduceAdd]
 refine zE5 _ _ _ ?_
 unfold uo
 refine zGi hm h fun s ss w hp h=>?_
 have hl:=hp.length_eq
 rw [List.length_map] at hl
 refine zFE (by omega) h fun w h=>?_
 rw [zRO hp] at h
 exact hk _ _ h
end
end
section
open Go Go.Sep
section
variable {B w:World} {Γ:List zB}
theorem zZY {s:Sl} {xs:List UInt8} {j:Nat} {x:UInt8} {k:Int→K} (hr:RdB w s xs) (hx:xs[j]? = some x) (hk:k (x.toNat:Int) w):Idx s (j:Int) 1 (fun t=>Ld t (Value.int .u8) k) w:=by
 have e:xs.map jm = (xs.map fun b=>(b.toNat:Int)).map (Value.int .u8):=by rw [List.map_map]; rfl
 have hr2:RdC w s 1 ((xs.map fun b=>(b.toNat:Int)).map (Value.int .u8)):=by rw [← e]; exact hr
 exact zVM hr2 (by rw [List.getElem?_map,hx]; rfl) hk
theorem zUA {b n:Nat} {cs:Array Value} {xs:List UInt8} (hc:cs.toList = xs.map jm) (hn:xs.length = n) (h:Holds B (blk b (.cells cs yO (0,0))::Γ) w):Holds B (Bytes yO ⟨some ⟨b,0,none⟩,n,n⟩ xs::Γ) w :=
 h.imp (zEI hc (by simp [hn]))
theorem Bytes.len {s:Sl} {xs:List UInt8} (h:Holds B (Bytes yO s xs::Γ) w):xs.length = s.n:=by have:=h.zLN.1; simpa using this
theorem Bytes.rd {s:Sl} {xs:List UInt8} (h:Holds B Γ w) (hm:Bytes yO s xs ∈ Γ):RdB w s xs:=h.rdC (E:=yO) hm
end
end
section
open Go Go.Sep
set_option maxHeartbeats 4000000
attribute [local irreducible] G Gp Cx Tx Ex Sx Dx Ox Ax Lx Rx Fx Bx Bj Al Do Ld LdN St StN New zK Ar DoU Rd Rd2 Pu Cd Ite Fv vW jU jI yH zAZ zDH zDQ zDl Ext Dead Dr yZ Sv LdS vG RdS zDw Nn Idx zAz zDk Fld Bld Slc zDx Cat All yN jN jE jV
instance:AT Tryz.prog 173 5:=⟨by kernel_rfl⟩
instance:AT Tryz.prog 51 2:=⟨by kernel_rfl⟩
instance:CB Tryz.prog 193:=⟨by kernel_rfl⟩
instance:CB Tryz.prog 194:=⟨by kernel_rfl⟩
instance:CB Tryz.prog 195:=⟨by kernel_rfl⟩
instance:CB Tryz.prog 196:=⟨by kernel_rfl⟩
instance:CB Tryz.prog 197:=⟨by kernel_rfl⟩
instance:CB Tryz.prog 198:=⟨by kernel_rfl⟩
instance:CB Tryz.prog 199:=⟨by kernel_rfl⟩
instance:CB Tryz.prog 223:=⟨by kernel_rfl⟩
instance:CB Tryz.prog 224:=⟨by kernel_rfl⟩
instance:CB Tryz.prog 225:=⟨by kernel_rfl⟩
instance:CB Tryz.prog 226:=⟨by kernel_rfl⟩
instance:CB Tryz.prog 239:=⟨by kernel_rfl⟩
instance:CB Tryz.prog 240:=⟨by kernel_rfl⟩
instance:CT Tryz.prog 127:=⟨by kernel_rfl⟩
instance:CT Tryz.prog 2:=⟨by kernel_rfl⟩
instance:CT Tryz.prog 23:=⟨by kernel_rfl⟩
instance:CT Tryz.prog 49:=⟨by kernel_rfl⟩
instance:CT Tryz.prog 5:=⟨by kernel_rfl⟩
instance:FC Tryz.prog 87 3 3:=⟨by kernel_rfl⟩
instance:FT Tryz.prog 123 0 0 1:=⟨by kernel_rfl⟩
instance:FT Tryz.prog 123 1 1 1:=⟨by kernel_rfl⟩
instance:FT Tryz.prog 123 2 2 1:=⟨by kernel_rfl⟩
instance:FT Tryz.prog 123 3 3 1:=⟨by kernel_rfl⟩
instance:FT Tryz.prog 173 0 0 1:=⟨by kernel_rfl⟩
instance:FT Tryz.prog 173 1 1 4:=⟨by kernel_rfl⟩
instance:FT Tryz.prog 25 0 0 1:=⟨by kernel_rfl⟩
instance:FT Tryz.prog 25 2 2 1:=⟨by kernel_rfl⟩
instance:FT Tryz.prog 25 3 3 1:=⟨by kernel_rfl⟩
instance:FT Tryz.prog 25 4 4 1:=⟨by kernel_rfl⟩
instance:FT Tryz.prog 321 0 0 1:=⟨by kernel_rfl⟩
instance:FT Tryz.prog 321 1 1 1:=⟨by kernel_rfl⟩
instance:FT Tryz.prog 321 2 2 1:=⟨by kernel_rfl⟩
instance:INT Tryz.prog 2 .i64:=⟨by kernel_rfl⟩
instance:INT Tryz.prog 33 .u64:=⟨by kernel_rfl⟩
instance:PLT Tryz.prog 180 [(0,1),(1,1)]:=⟨_,Tryz.underlying180,by kernel_rfl⟩
instance:PLT Tryz.prog 321 [(0,1),(1,1),(2,1)]:=⟨_,Tryz.underlying321,by kernel_rfl⟩
instance:PLT Tryz.prog 51 [(0,1),(1,1)]:=⟨_,Tryz.underlying51,by kernel_rfl⟩
instance:SZ Tryz.prog 123 4:=⟨by kernel_rfl⟩
instance:SZ Tryz.prog 173 5:=⟨by kernel_rfl⟩
instance:SZ Tryz.prog 49 1:=⟨by kernel_rfl⟩
instance:SZ Tryz.prog 5 1:=⟨by kernel_rfl⟩
instance:SZ Tryz.prog 51 2:=⟨by kernel_rfl⟩
instance:ZT Tryz.prog 321 (.agg #[(.pointer none),(.map none),(Sl.val ⟨none,0,0⟩)]):=⟨Tryz.t321,by kernel_rfl,by kernel_rfl⟩
instance:ZT Tryz.prog 51 (.agg #[(.int .i64 0),(Sl.val ⟨none,0,0⟩)]):=⟨Tryz.t51,by kernel_rfl,by kernel_rfl⟩
def vJ.b2 (Q:Av→Sl→K) (s:Sl→Int→K) (c d:Addr) (t:Sl) (u:Int) (f:Sl) (a:Int): K :=
 Ite (decide (a < u))
  (Idx t a 1 fun g=>
  Ld g Value.string fun b=>
  Ld (d.add 1) Value.map fun j=>
  Rd Tryz.prog (Instr.lookup 319 (.map j) (.string b) false) Value.agg fun k=>
  Bld #[(.string ⟨#[]⟩),.bool false,Sl.val ⟨none,0,0⟩,.int .i64 0,.int .u64 0] ([(0,1),(1,4)][·]?) [(0,.string b),(1,.agg k)] fun l=>
  Bld #[(.string ⟨#[]⟩),.bool false,Sl.val ⟨none,0,0⟩,.int .i64 0,.int .u64 0] (fun i=>some (i * 5,5)) [(0,.agg l)] fun m=>
  New 173 m fun n=>
  Do Tryz.prog (Builtin.append_ #[56,56] 56 #[Sl.val f,(Sl.val (Sl.mk (some n) 1 1))]) Sl.val fun o=>
  Ar (IntKind.wrap .i64 (a + 1)) fun p=>
  s o p)
  (Ld (d.add 2) Sl.val fun q=>
  StN c 2 #[.int .i64 0,Sl.val q]<|
  LdN c 2 fun r=>
  Q r f)
def vJ.s1 (Q:Av→Sl→K) (a c:Addr) (d:Int): K :=
 Ite (decide (d ≠ 0))
  (StN a 2 #[.int .i64 d,Sl.val ⟨none,0,0⟩]<|
  LdN a 2 fun f=>
  Q f (Sl.mk none 0 0))
  (Ld (c.add 1) Value.map fun g=>
  yJ.call g fun i=>
  uo.call i fun b=>
  yN (α:=Sl×Int) (fun X x=>vJ.b2 Q (fun j k=>X (j,k)) a c b (b.n:Int) x.1 x.2) ((Sl.mk none 0 0),0))
def vJ.b3 (Q:Av→Sl→K) (l:Int→Int→K) (f b:Addr) (m:Sl) (n o c:Int): K :=
 Ite (decide (c < n))
  (Idx m c 4 fun g=>
  LdN g 4 fun i=>
  New 123 #[.int .i64 0,(.string ⟨#[]⟩),Sl.val ⟨none,0,0⟩,.int .i64 0] fun d=>
  StN d 4 i<|
  LdN d 4 fun j=>
  yF.call (some b) j fun a=>
  Ite (decide (a ≠ 0))
   (vJ.s1 Q f b a)
   (Ar (IntKind.wrap .i64 (c + 1)) fun k=>
   l a k))
  (vJ.s1 Q f b o)
def vJ (m:Pt) (o:Av) (Q:Av→Sl→K): K :=
 New 25 o fun a=>
 New 51 #[.int .i64 0,Sl.val ⟨none,0,0⟩] fun c=>
 Do Tryz.prog (Instr.makeMap 319 none) Value.map fun f=>
 New 321 #[.pointer m,.map f,Sl.val ⟨none,0,0⟩] fun b=>
 Ld a (Value.int .i64) fun g=>
 Ite (decide (g = 2))
  (LdN a 5 fun i=>
  jC.call (some b) i fun j=>
  vJ.s1 Q c b j)
  (Ld (a.add 3) Sl.val fun d=>
  yN (α:=Int×Int) (fun X x=>vJ.b3 Q (fun k l=>X (k,l)) c b d (d.n:Int) x.1 x.2) (0,0))
theorem zQP (c d Q w) (h:vJ c d Q w):vJ.call c d Q w:=by
 have:∀ f g i j,LH 14 (fun x:Sl×Int=>[(4,(.pointer (some f))),(6,(.pointer (some g))),(10,Sl.val x.1),(45,Sl.val i),(46,.int .i64 j),(47,.int .i64 x.2)]) (fun X x=>vJ.b2 Q (fun p q=>X (p,q)) f g i j x.1 x.2):=fun _ _ _ _=>⟨⟩
 have:JH 10 fun D=>∃ a b,D [(4,(.pointer (some a))),(6,(.pointer (some b)))] (fun C=>∀ k,C [(4,(.pointer (some a))),(6,(.pointer (some b))),(7,.int .i64 k)] (vJ.s1 Q a b k)):=⟨fun _ ⟨_,_,h⟩=>⟨_,_,h⟩⟩
 have:∀ l m n o,LH 5 (fun x:Int×Int=>[(4,(.pointer (some l))),(6,(.pointer (some m))),(7,.int .i64 x.1),(24,Sl.val n),(25,.int .i64 o),(26,.int .i64 x.2)]) (fun X x=>vJ.b3 Q (fun r s=>X (r,s)) l m n o x.1 x.2):=fun _ _ _ _=>⟨⟩
 exact zO 69 h Tryz.func157
def xI.s2 (Q:K) (b:Int→K) (d:Pt) (f:Sl) (g c:Int): K :=
 Ar (IntKind.wrap .i64 (c + 1)) fun a=>
 b a
def xI.s3 (Q:K) (c:Int→K) (a:Pt) (b:Addr) (d:Sl) (f g:Int): K :=
 Ld (b.add 1) Value.bool fun i=>
 Ite i
  (Ld b Value.string fun j=>
  Ld ((b.add 1).add 1) Sl.val fun k=>
  zAe.call a j k<|
  xI.s2 Q c a d f g)
  (Ld b Value.string fun l=>
  jS.call a l<|
  xI.s2 Q c a d f g)
def xI.b1 (Q:K) (g:Int→K) (b:Pt) (d:Sl) (f c:Int): K :=
 Ite (decide (c < f))
  (Idx d c 5 fun i=>
  LdN i 5 fun j=>
  New 173 #[(.string ⟨#[]⟩),.bool false,Sl.val ⟨none,0,0⟩,.int .i64 0,.int .u64 0] fun a=>
  StN a 5 j<|
  Dr <| yZ fun S=>
  LdS S a Value.string fun k=>
  LdS S ((a.add 1).add 3) (Value.int .u64) fun l=>
  yx.call b k fun m=>
  Sv S<|
  Fld m 3 (Value.int .u64) fun n=>
  Ite (decide (n ≠ l))
   (Ld a Value.string fun o=>
   Ld ((a.add 1).add 2) (Value.int .i64) fun p=>
   xC.call b o p fun q=>
   xI.s3 Q g b a d f c)
   (xI.s3 Q g b a d f c))
  (Q)
def xI (b:Pt) (a:Sl) (Q:K): K :=
 yN (α:=Int) (fun X x=>xI.b1 Q X b a (a.n:Int) x) 0
theorem zMW (n o Q w) (h:xI n o Q w):xI.call n o Q w:=by
 have:∀ b,XH 1 b→JH 8 fun D=>∃ c d f g,D [(0,.pointer c),(6,Sl.val d),(7,.int .i64 f),(8,.int .i64 g)] (fun C=>C [(0,.pointer c),(6,Sl.val d),(7,.int .i64 f),(8,.int .i64 g)] (xI.s2 Q b c d f g)):=by intros; exact ⟨fun _ ⟨_,_,_,_,h⟩=>⟨_,_,h⟩⟩
 have:∀ b,XH 1 b→JH 5 fun D=>∃ i j k l m,D [(0,.pointer i),(5,(.pointer (some j))),(6,Sl.val k),(7,.int .i64 l),(8,.int .i64 m)] (fun C=>C [(0,.pointer i),(5,(.pointer (some j))),(6,Sl.val k),(7,.int .i64 l),(8,.int .i64 m)] (xI.s3 Q b i j k l m)):=by intros; exact ⟨fun _ ⟨_,_,_,_,_,h⟩=>⟨_,_,h⟩⟩
 have:DH 3 2 [] (.s [0,1,5,6,2,7] (.a [(3,1,.s [4,8] .e)])):=⟨⟩
 have:∀ p q r,LH 1 (fun x:Int=>[(0,.pointer p),(6,Sl.val q),(7,.int .i64 r),(8,.int .i64 x)]) (fun X x=>xI.b1 Q X p q r x):=fun _ _ _=>⟨⟩
 exact zO 43 h Tryz.func158
def jC.b1 (Q q:Int→K) (d:Pt) (r:Addr) (s:Sl) (t b:Int): K :=
 Ite (decide (b < t))
  (Idx s b 1 fun f=>
  Ld f Value.string fun c=>
  zAF.call d c fun g=>
  New 87 #[.bool false,Sl.val ⟨none,0,0⟩,.int .i64 0,.int .u64 0] fun a=>
  StN a 4 g<|
  Ld (a.add 3) (Value.int .u64) fun i=>
  Ite (decide (i = 18446744073709551615))
   (Q 111)
   (Ld (r.add 4) (Value.int .i64) fun j=>
   St (a.add 2) (.int .i64 j)<|
   Ld (a.add 3) (Value.int .u64) fun k=>
   Ar (IntKind.wrap .u64 (k + 1)) fun l=>
   St (a.add 3) (.int .u64 l)<|
   Dr<|
   Nn d fun m=>
   Ld (m.add 1) Value.map fun n=>
   LdN a 4 fun o=>
   DoU Tryz.prog (Instr.mapUpdate 319 (.map n) (.string c) (.agg o))<|
   Ar (IntKind.wrap .i64 (b + 1)) fun p=>
   q p))
  (Q 0)
def jC (c:Pt) (d:Av) (Q:Int→K): K :=
 New 25 d fun a=>
 Ld (a.add 2) Sl.val fun b=>
 yN (α:=Int) (fun X x=>jC.b1 Q X c a b (b.n:Int) x) 0
theorem zJU (b c Q w) (h:jC b c Q w):jC.call b c Q w:=by
 have:DH 9 1 [6] (.s [0,1,2,4,3,5] (.a [(6,0,.e)])):=⟨⟩
 have:∀ d f g i,LH 2 (fun x:Int=>[(0,.pointer d),(3,(.pointer (some f))),(9,Sl.val g),(10,.int .i64 i),(11,.int .i64 x)]) (fun X x=>jC.b1 Q X d f g i x):=fun _ _ _ _=>⟨⟩
 exact zO 35 h Tryz.func193
def yF.s1 (Q:Int→K): K :=
 Q 0
def yF.s2 (Q:Int→K) (a:Bool): K :=
 Ite a
  (Q 110)
  (yF.s1 Q)
def yF (d:Pt) (ak:Av) (Q:Int→K): K :=
 New 123 ak fun a=>
 Ld (a.add 1) Value.string fun j=>
 zAF.call d j fun k=>
 New 87 #[.bool false,Sl.val ⟨none,0,0⟩,.int .i64 0,.int .u64 0] fun c=>
 StN c 4 k<|
 Ld a (Value.int .i64) fun b=>
 Ite (decide (b = 1))
  (Dr <| yZ fun S=>
  Nn d fun f=>
  LdS S (f.add 2) Sl.val fun l=>
  LdS S c Value.bool fun m=>
  LdS S (c.add 1) Sl.val fun n=>
  xu.call n fun o=>
  Sv S<|
  Bld #[.bool false,Sl.val ⟨none,0,0⟩] (fun i=>some (i * 2,2)) [(0,(.agg #[.bool m,Sl.val o]))] fun p=>
  New 180 p fun q=>
  Sv S<|
  Do Tryz.prog (Builtin.append_ #[49,49] 49 #[Sl.val l,(Sl.val (Sl.mk (some q) 1 1))]) Sl.val fun r=>
  St (f.add 2) (Sl.val r)<|
  yF.s1 Q)
  (Ite (decide (b = 7))
   (Dr <| yZ fun S=>
   Nn d fun g=>
   LdS S (g.add 2) Sl.val fun s=>
   LdS S (a.add 2) Sl.val fun t=>
   xu.call t fun u=>
   Sv S<|
   Bld #[.bool false,Sl.val ⟨none,0,0⟩] (fun i=>some (i * 2,2)) [(0,(.agg #[.bool true,Sl.val u]))] fun v=>
   New 180 v fun x=>
   Sv S<|
   Do Tryz.prog (Builtin.append_ #[49,49] 49 #[Sl.val s,(Sl.val (Sl.mk (some x) 1 1))]) Sl.val fun y=>
   St (g.add 2) (Sl.val y)<|
   yF.s1 Q)
   (Ite (decide (b = 2))
    (Ld (a.add 1) Value.string fun z=>
    Ld (a.add 2) Sl.val fun aa=>
    jc.call d z true aa<|
    yF.s1 Q)
    (Ite (decide (b = 3))
     (Ld (a.add 1) Value.string fun ab=>
     jc.call d ab false (Sl.mk none 0 0)<|
     yF.s1 Q)
     (Ite (decide (b = 4))
      (Ld c Value.bool fun ac=>
      Ite (!ac)
       (yF.s2 Q true)
       (Ld (c.add 1) Sl.val fun ad=>
       Ld (a.add 2) Sl.val fun ae=>
       bytes_Equal.call ad ae fun af=>
       yF.s2 Q (!af)))
      (Ite (decide (b = 5))
       (Ld c Value.bool fun ag=>
       Ite ag
        (Q 110)
        (yF.s1 Q))
       (Ite (decide (b = 6))
        (LdN a 4 fun ah=>
        qC.call d ah fun aj=>
        Q aj)
        (yF.s1 Q)))))))
theorem zJV (b c Q w) (h:yF b c Q w):yF.call b c Q w:=by
 have:JH 19 fun D=>D [] (fun C=>C [] (yF.s1 Q)):=⟨fun _ h=>⟨_,_,h⟩⟩
 have:DH 4 2 [12,15] (.s [0,1,2,3,5,7,4,6,8] (.a [(9,1,.s [10] (.a [(11,1,.a [(12,0,.s [13,14] (.a [(15,0,.e)]))])]))])):=⟨⟩
 have:DH 6 2 [10,13] (.s [0,1,2,3,5,4,6] (.a [(7,1,.s [8] (.a [(9,1,.a [(10,0,.s [11,12] (.a [(13,0,.e)]))])]))])):=⟨⟩
 have:JH 13 fun D=>D [] (fun C=>∀ d,C [(70,.bool d)] (yF.s2 Q d)):=⟨fun _ h=>⟨_,_,h⟩⟩
 exact zO 80 h Tryz.func194
def zAF (a:Pt) (f:ByteArray) (Q:Av→K): K :=
 New 87 #[.bool false,Sl.val ⟨none,0,0⟩,.int .i64 0,.int .u64 0] fun b=>
 Nn a fun c=>
 Ld (c.add 1) Value.map fun g=>
 Rd2 Tryz.prog (Instr.lookup 319 (.map g) (.string f) true) (fun x y=>.tuple #[Value.agg x,.bool y]) fun i j=>
 New 87 #[.bool false,Sl.val ⟨none,0,0⟩,.int .i64 0,.int .u64 0] fun d=>
 StN d 4 i<|
 Ite j
  (LdN d 4 fun k=>
  StN b 4 k<|
  LdN b 4 fun a=>
  Q a)
  (Ld c Value.pointer fun l=>
  yx.call l f fun m=>
  StN b 4 m<|
  LdN b 4 fun a=>
  Q a)
theorem zKH (a b Q w) (h:zAF a b Q w):zAF.call a b Q w:=by
 exact zO 24 h Tryz.func223
def jc (b:Pt) (c:ByteArray) (k:Bool) (l:Sl) (Q:K): K :=
 zAF.call b c fun d=>
 New 87 #[.bool false,Sl.val ⟨none,0,0⟩,.int .i64 0,.int .u64 0] fun a=>
 StN a 4 d<|
 xu.call l fun f=>
 St a (.bool k)<|
 St (a.add 1) (Sl.val f)<|
 Dr<|
 Nn b fun g=>
 Ld (g.add 1) Value.map fun i=>
 LdN a 4 fun j=>
 DoU Tryz.prog (Instr.mapUpdate 319 (.map i) (.string c) (.agg j))<|
 Q
theorem zKI (b c d f Q w) (h:jc b c d f Q w):jc.call b c d f Q w:=by
 have:DH 2 1 [6] (.s [0,1,2,4,3,5] (.a [(6,0,.e)])):=⟨⟩
 exact zO 23 h Tryz.func224
def qC.s2 (Q:Int→K) (g:Pt) (a:Addr) (i:Int) (j:Bool): K :=
 Ite j
  (Q 111)
  (Dr <| yZ fun S=>
  LdS S (a.add 1) Value.string fun b=>
  LdS S (a.add 3) (Value.int .i64) fun c=>
  Ar (IntKind.wrap .i64 (i + c)) fun d=>
  zAv.call d fun f=>
  Sv S<|
  jc.call g b true f<|
  Q 0)
def qC.s1 (Q:Int→K) (c:Pt) (a:Addr) (b:Int): K :=
 Ld (a.add 3) (Value.int .i64) fun i=>
 Ite (decide ((0:Int) < i))
  (Ld (a.add 3) (Value.int .i64) fun j=>
  Ar (IntKind.wrap .i64 (9223372036854775807 - j)) fun k=>
  Ite (decide (k < b))
   (qC.s2 Q c a b true)
   (Ld (a.add 3) (Value.int .i64) fun d=>
   Ite (decide (d < 0))
    (Ld (a.add 3) (Value.int .i64) fun f=>
    Ar (IntKind.wrap .i64 ((-9223372036854775808) - f)) fun g=>
    qC.s2 Q c a b (decide (b < g)))
    (qC.s2 Q c a b false)))
  (Ld (a.add 3) (Value.int .i64) fun d=>
  Ite (decide (d < 0))
   (Ld (a.add 3) (Value.int .i64) fun f=>
   Ar (IntKind.wrap .i64 ((-9223372036854775808) - f)) fun g=>
   qC.s2 Q c a b (decide (b < g)))
   (qC.s2 Q c a b false))
def qC (c:Pt) (l:Av) (Q:Int→K): K :=
 New 123 l fun a=>
 Ld (a.add 1) Value.string fun d=>
 zAF.call c d fun f=>
 New 87 #[.bool false,Sl.val ⟨none,0,0⟩,.int .i64 0,.int .u64 0] fun b=>
 StN b 4 f<|
 Ld b Value.bool fun g=>
 Ite g
  (Ld (b.add 1) Sl.val fun i=>
  jh.call i fun j k=>
  Ite (!k)
   (Q 110)
   (qC.s1 Q c a j))
  (qC.s1 Q c a 0)
theorem zKJ (i j Q w) (h:qC i j Q w):qC.call i j Q w:=by
 have:DH 9 2 [8] (.s [0,1,3,4,2,5,6] (.a [(7,1,.a [(8,0,.e)])])):=⟨⟩
 have:JH 8 fun D=>∃ b c d,D [(0,.pointer b),(3,(.pointer (some c))),(6,.int .i64 d)] (fun C=>∀ k,C [(0,.pointer b),(3,(.pointer (some c))),(6,.int .i64 d),(43,.bool k)] (qC.s2 Q b c d k)):=⟨fun _ ⟨_,_,_,h⟩=>⟨_,_,h⟩⟩
 have:JH 7 fun D=>∃ f g,D [(0,.pointer f),(3,(.pointer (some g)))] (fun C=>∀ l,C [(0,.pointer f),(3,(.pointer (some g))),(6,.int .i64 l)] (qC.s1 Q f g l)):=⟨fun _ ⟨_,_,h⟩=>⟨_,_,h⟩⟩
 exact zO 53 h Tryz.func226
def jh.b1 (Q:Int→Bool→K) (l:Int→Int→K) (m:Sl) (n b a:Int): K :=
 Ite (decide (a < n))
  (Idx m a 1 fun c=>
  Ld c (Value.int .u8) fun d=>
  Cd (0 ≤ (8:Int))<|
  Ar (zMq .u64 b 8) fun f=>
  Ar (IntKind.wrap .u64 d) fun g=>
  Ar (bitsOf .or .u64 f g) fun i=>
  Ar (IntKind.wrap .i64 (a + 1)) fun j=>
  l i j)
  (Ar (IntKind.wrap .i64 b) fun k=>
  Q k true)
def jh (a:Sl) (Q:Int→Bool→K): K :=
 Ite (decide ((a.n:Int) ≠ 8))
  (Q 0 false)
  (yN (α:=Int×Int) (fun X x=>jh.b1 Q (fun b c=>X (b,c)) a (a.n:Int) x.1 x.2) (0,0))
theorem zLl (a Q w) (h:jh a Q w):jh.call a Q w:=by
 have:∀ b c,LH 5 (fun x:Int×Int=>[(4,.int .u64 x.1),(10,Sl.val b),(11,.int .i64 c),(12,.int .i64 x.2)]) (fun X x=>jh.b1 Q (fun d f=>X (d,f)) b c x.1 x.2):=fun _ _=>⟨⟩
 exact zO 24 h Tryz.func239
def zAv.b1 (Q:Sl→K) (l:Int→K) (m:Int) (c:Sl) (n a:Int): K :=
 Ite (decide (a < n))
  (Ar (IntKind.wrap .i64 (7 - a)) fun d=>
  Ar (IntKind.wrap .u64 m) fun f=>
  Ar (IntKind.wrap .i64 (8 * a)) fun b=>
  Cd (0 ≤ b)<|
  Ar (zGK .u64 f b) fun g=>
  Ar (IntKind.wrap .u8 g) fun i=>
  Idx c d 1 fun j=>
  St j (.int .u8 i)<|
  Ar (IntKind.wrap .i64 (a + 1)) fun k=>
  l k)
  (Q c)
def zAv (b:Int) (Q:Sl→K): K :=
 Do Tryz.prog (Instr.makeSlice 85 (.int .i64 8) (.int .i64 8)) Sl.val fun a=>
 yN (α:=Int) (fun X x=>zAv.b1 Q X b a (a.n:Int) x) 0
theorem zMX (a Q w) (h:zAv a Q w):zAv.call a Q w:=by
 have:∀ b c d,LH 3 (fun x:Int=>[(0,.int .i64 b),(3,Sl.val c),(7,.int .i64 d),(8,.int .i64 x)]) (fun X x=>zAv.b1 Q X b c d x):=fun _ _ _=>⟨⟩
 exact zO 23 h Tryz.func240
instance:CB Tryz.prog 122:=⟨by kernel_rfl⟩
instance:CB Tryz.prog 123:=⟨by kernel_rfl⟩
instance:CB Tryz.prog 124:=⟨by kernel_rfl⟩
instance:CB Tryz.prog 125:=⟨by kernel_rfl⟩
instance:CB Tryz.prog 126:=⟨by kernel_rfl⟩
instance:CB Tryz.prog 29:=⟨by kernel_rfl⟩
instance:CB Tryz.prog 68:=⟨by kernel_rfl⟩
instance:CB Tryz.prog 71:=⟨by kernel_rfl⟩
instance:CB Tryz.prog 72:=⟨by kernel_rfl⟩
instance:CB Tryz.prog 73:=⟨by kernel_rfl⟩
instance:CB Tryz.prog 74:=⟨by kernel_rfl⟩
instance:CT Tryz.prog 30:=⟨by kernel_rfl⟩
instance:FT Tryz.prog 180 0 0 1:=⟨by kernel_rfl⟩
instance:FT Tryz.prog 180 1 1 1:=⟨by kernel_rfl⟩
instance:FT Tryz.prog 51 0 0 1:=⟨by kernel_rfl⟩
instance:FT Tryz.prog 51 1 1 1:=⟨by kernel_rfl⟩
instance:PLT Tryz.prog 25 [(0,1),(1,1),(2,1),(3,1),(4,1)]:=⟨_,Tryz.underlying25,by kernel_rfl⟩
instance:UN Tryz.prog 4 .bool:=⟨Tryz.underlying4⟩
instance:ZT Tryz.prog 25 (.agg #[(.int .i64 0),(Sl.val ⟨none,0,0⟩),(Sl.val ⟨none,0,0⟩),(Sl.val ⟨none,0,0⟩),(.int .i64 0)]):=⟨Tryz.t25,by kernel_rfl,by kernel_rfl⟩
def vB.s3 (Q:Bool→K) (b:Int→K) (f g:Addr) (c:Int) (d:Bool): K :=
 Ite d
  (Q false)
  (Ar (IntKind.wrap .i64 (c + 1)) fun a=>
  b a)
def vB.b2 (Q:Bool→K) (d:Int→K) (b c:Addr) (a:Int): K :=
 Ld (b.add 1) Sl.val fun f=>
 Ite (decide (a < (f.n:Int)))
  (Dr<|
  Ld (b.add 1) Sl.val fun g=>
  Idx g a 2 fun i=>
  Ld i Value.bool fun j=>
  Ld (c.add 1) Sl.val fun k=>
  Idx k a 2 fun l=>
  Ld l Value.bool fun m=>
  Ite (!(j == m))
   (vB.s3 Q d b c a true)
   (Ld (b.add 1) Sl.val fun o=>
   Idx o a 2 fun p=>
   Ld (p.add 1) Sl.val fun q=>
   Rd Tryz.prog (convert 85 9 (Sl.val q)) Value.string fun r=>
   Ld (c.add 1) Sl.val fun s=>
   Idx s a 2 fun t=>
   Ld (t.add 1) Sl.val fun u=>
   Rd Tryz.prog (convert 85 9 (Sl.val u)) Value.string fun v=>
   vB.s3 Q d b c a (!(r.toList == v.toList))))
  (Q true)
def vB.s1 (Q:Bool→K) (a b:Addr) (c:Bool): K :=
 Ite c
  (Q false)
  (yN (α:=Int) (fun X x=>vB.b2 Q X a b x) 0)
def vB (i j:Av) (Q:Bool→K): K :=
 New 51 i fun a=>
 New 51 j fun b=>
 Ld a (Value.int .i64) fun c=>
 Ld b (Value.int .i64) fun d=>
 Ite (decide (c ≠ d))
  (vB.s1 Q a b true)
  (Ld (a.add 1) Sl.val fun f=>
  Ld (b.add 1) Sl.val fun g=>
  vB.s1 Q a b (decide ((f.n:Int) ≠ (g.n:Int))))
theorem zMY (g i Q w) (h:vB g i Q w):vB.call g i Q w:=by
 have:∀ j,XH 4 j→JH 7 fun D=>∃ a b c,D [(2,(.pointer (some a))),(3,(.pointer (some b))),(5,.int .i64 c)] (fun C=>∀ k,C [(2,(.pointer (some a))),(3,(.pointer (some b))),(5,.int .i64 c),(56,.bool k)] (vB.s3 Q j a b c k)):=by intros; exact ⟨fun _ ⟨_,_,_,h⟩=>⟨_,_,h⟩⟩
 have:∀ l m,LH 4 (fun x:Int=>[(2,(.pointer (some l))),(3,(.pointer (some m))),(5,.int .i64 x)]) (fun X x=>vB.b2 Q X l m x):=fun _ _=>⟨⟩
 have:JH 2 fun D=>∃ d f,D [(2,(.pointer (some d))),(3,(.pointer (some f)))] (fun C=>∀ n,C [(2,(.pointer (some d))),(3,(.pointer (some f))),(19,.bool n)] (vB.s1 Q d f n)):=⟨fun _ ⟨_,_,h⟩=>⟨_,_,h⟩⟩
 exact zO 57 h Tryz.func32
instance:CB Tryz.prog 120:=⟨by kernel_rfl⟩
instance:CB Tryz.prog 43:=⟨by kernel_rfl⟩
instance:CB Tryz.prog 44:=⟨by kernel_rfl⟩
instance:CB Tryz.prog 45:=⟨by kernel_rfl⟩
instance:FT Tryz.prog 25 1 1 1:=⟨by kernel_rfl⟩
instance:SZ Tryz.prog 23 1:=⟨by kernel_rfl⟩
instance:SZ Tryz.prog 25 5:=⟨by kernel_rfl⟩
def yQ.s5 (Q:Bool→K) (f g b:Int→K) (i:Addr) (c:Int) (d:Bool): K :=
 Ite d
  (Q true)
  (Ar (IntKind.wrap .i64 (c + 1)) fun a=>
  b a)
def yQ.b4 (Q:Bool→K) (c d f:Int→K) (a:Addr) (b:Int): K :=
 Ld (a.add 3) Sl.val fun g=>
 Ite (decide (b < (g.n:Int)))
  (Ld (a.add 3) Sl.val fun i=>
  Idx i b 4 fun j=>
  Ld (j.add 1) Value.string fun k=>
  Ite (decide ((200:Int) < (k.size:Int)))
   (yQ.s5 Q c d f a b true)
   (Ld (a.add 3) Sl.val fun l=>
   Idx l b 4 fun m=>
   Ld (m.add 2) Sl.val fun o=>
   yQ.s5 Q c d f a b (decide ((200:Int) < (o.n:Int)))))
  (Q false)
def yQ.b3 (Q:Bool→K) (k c:Int→K) (a:Addr) (b:Int): K :=
 Ld (a.add 2) Sl.val fun d=>
 Ite (decide (b < (d.n:Int)))
  (Ld (a.add 2) Sl.val fun f=>
  Idx f b 1 fun g=>
  Ld g Value.string fun i=>
  Ite (decide ((200:Int) < (i.size:Int)))
   (Q true)
   (Ar (IntKind.wrap .i64 (b + 1)) fun j=>
   c j))
  (yN (α:=Int) (fun X x=>yQ.b4 Q k c X a x) 0)
def yQ.b2 (Q:Bool→K) (c:Int→K) (a:Addr) (b:Int): K :=
 Ld (a.add 1) Sl.val fun d=>
 Ite (decide (b < (d.n:Int)))
  (Ld (a.add 1) Sl.val fun f=>
  Idx f b 1 fun g=>
  Ld g Value.string fun i=>
  Ite (decide ((200:Int) < (i.size:Int)))
   (Q true)
   (Ar (IntKind.wrap .i64 (b + 1)) fun j=>
   c j))
  (yN (α:=Int) (fun X x=>yQ.b3 Q c X a x) 0)
def yQ.s1 (Q:Bool→K) (a:Addr) (b:Bool): K :=
 Ite b
  (Q true)
  (yN (α:=Int) (fun X x=>yQ.b2 Q X a x) 0)
def yQ (f:Av) (Q:Bool→K): K :=
 New 25 f fun a=>
 Ld (a.add 1) Sl.val fun b=>
 Ite (decide ((40:Int) < (b.n:Int)))
  (yQ.s1 Q a true)
  (Ld (a.add 2) Sl.val fun c=>
  Ite (decide ((40:Int) < (c.n:Int)))
   (yQ.s1 Q a true)
   (Ld (a.add 3) Sl.val fun d=>
   yQ.s1 Q a (decide ((60:Int) < (d.n:Int)))))
theorem zLm (g Q w) (h:yQ g Q w):yQ.call g Q w:=by
 have:∀ a,XH 4 a→∀ b,XH 9 b→∀ i,XH 14 i→JH 17 fun D=>∃ c d,D [(1,(.pointer (some c))),(5,.int .i64 d)] (fun C=>∀ j,C [(1,(.pointer (some c))),(5,.int .i64 d),(74,.bool j)] (yQ.s5 Q a b i c d j)):=by intros; exact ⟨fun _ ⟨_,_,h⟩=>⟨_,_,h⟩⟩
 have:∀ a,XH 4 a→∀ b,XH 9 b→∀ k,LH 14 (fun x:Int=>[(1,(.pointer (some k))),(5,.int .i64 x)]) (fun X x=>yQ.b4 Q a b X k x):=by intros; exact ⟨⟩
 have:∀ a,XH 4 a→∀ l,LH 9 (fun x:Int=>[(1,(.pointer (some l))),(4,.int .i64 x)]) (fun X x=>yQ.b3 Q a X l x):=by intros; exact ⟨⟩
 have:∀ m,LH 4 (fun x:Int=>[(1,(.pointer (some m))),(3,.int .i64 x)]) (fun X x=>yQ.b2 Q X m x):=fun _=>⟨⟩
 have:JH 2 fun D=>∃ f,D [(1,(.pointer (some f)))] (fun C=>∀ n,C [(1,(.pointer (some f))),(21,.bool n)] (yQ.s1 Q f n)):=⟨fun _ ⟨_,h⟩=>⟨_,_,h⟩⟩
 exact zO 75 h Tryz.func9
def zk.s3 (Q:Bool→K) (b:Int→K) (f:Int) (g:Addr) (i:Sl) (c:Int) (d:Bool): K :=
 Ite d
  (Q false)
  (Ar (IntKind.wrap .i64 (c + 1)) fun a=>
  b a)
def zk.s4 (Q:Bool→K) (b:Int→K) (a:Bool): K :=
 Q a
def zk.b6 (Q:Bool→K) (m l:Int→K) (a:Addr) (b:Int): K :=
 Ld (a.add 3) Sl.val fun c=>
 Ite (decide (b < (c.n:Int)))
  (Dr<|
  LdN a 5 fun d=>
  Ld (a.add 3) Sl.val fun f=>
  Idx f b 4 fun g=>
  LdN g 4 fun i=>
  qJ.call d i fun j=>
  Ite (!j)
   (Q false)
   (Ar (IntKind.wrap .i64 (b + 1)) fun k=>
   l k))
  (Q true)
def zk.s5 (Q:Bool→K) (a:Int→K) (b:Addr) (c:Bool): K :=
 Ite c
  (Q false)
  (yN (α:=Int) (fun X x=>zk.b6 Q a X b x) 0)
def zk.b2 (Q:Bool→K) (b:Int→K) (f:Int) (a:Addr) (d:Sl) (c:Int): K :=
 Ite (decide (c < (d.n:Int)))
  (Dr<|
  Idx d c 1 fun g=>
  Ld g Value.string fun i=>
  Ite (decide ((i.size:Int) < 1))
   (zk.s3 Q b f a d c true)
   (Idx d c 1 fun j=>
   Ld j Value.string fun k=>
   Ite (decide ((16:Int) < (k.size:Int)))
    (zk.s3 Q b f a d c true)
    (Ld (a.add 1) Sl.val fun l=>
    Ite (decide (c < (l.n:Int)))
     (Idx d c 1 fun m=>
     Ld (a.add 2) Sl.val fun o=>
     Ld m Value.string fun p=>
     zBP.call o p fun q=>
     zk.s3 Q b f a d c q)
     (zk.s3 Q b f a d c false))))
  (Ld a (Value.int .i64) fun r=>
  Ite (decide (r = 2))
   (Ld (a.add 1) Sl.val fun s=>
   Ite (decide ((s.n:Int) = 0))
    (Ld (a.add 3) Sl.val fun t=>
    Ite (decide ((t.n:Int) = 0))
     (Ld (a.add 2) Sl.val fun u=>
     Ite (decide ((u.n:Int) = 1))
      (Ld (a.add 4) (Value.int .i64) fun v=>
      Ite (decide ((0:Int) ≤ v))
       (Ld (a.add 4) (Value.int .i64) fun x=>
       zk.s4 Q b (decide (x < f)))
       (zk.s4 Q b false))
      (zk.s4 Q b false))
     (zk.s4 Q b false))
    (zk.s4 Q b false))
   (Ld a (Value.int .i64) fun y=>
   Ite (decide (y ≠ 1))
    (zk.s5 Q b a true)
    (Ld (a.add 4) (Value.int .i64) fun z=>
    Ite (decide (z ≠ 0))
     (zk.s5 Q b a true)
     (Ld (a.add 3) Sl.val fun aa=>
     zk.s5 Q b a (decide ((16:Int) < (aa.n:Int)))))))
def zk.s1 (Q:Bool→K) (i:Int) (a:Addr) (j:Bool): K :=
 Ite j
  (Q false)
  (Dr <| yZ fun S=>
  LdS S (a.add 1) Sl.val fun b=>
  LdS S (a.add 2) Sl.val fun c=>
  New 9 #[] fun d=>
  Sv S<|
  Do Tryz.prog (Builtin.append_ #[22,22] 22 #[(Sl.val (Sl.mk (some d) 0 0)),Sl.val b]) Sl.val fun f=>
  Sv S<|
  Do Tryz.prog (Builtin.append_ #[22,22] 22 #[Sl.val f,Sl.val c]) Sl.val fun g=>
  yN (α:=Int) (fun X x=>zk.b2 Q X i a g x) 0)
def zk (o:Av) (b:Int) (Q:Bool→K): K :=
 New 25 o fun a=>
 Ite (decide (b < 1))
  (zk.s1 Q b a true)
  (Ite (decide ((3:Int) < b))
   (zk.s1 Q b a true)
   (Ld (a.add 1) Sl.val fun c=>
   jG.call c fun d=>
   Ite (!d)
    (zk.s1 Q b a true)
    (Ld (a.add 2) Sl.val fun f=>
    jG.call f fun g=>
    Ite (!g)
     (zk.s1 Q b a true)
     (Ld (a.add 1) Sl.val fun i=>
     Ite (decide ((8:Int) < (i.n:Int)))
      (zk.s1 Q b a true)
      (Ld (a.add 2) Sl.val fun j=>
      Ite (decide ((8:Int) < (j.n:Int)))
       (zk.s1 Q b a true)
       (Ld (a.add 1) Sl.val fun k=>
       Ld (a.add 2) Sl.val fun l=>
       Ar (IntKind.wrap .i64 ((k.n:Int) + (l.n:Int))) fun m=>
       zk.s1 Q b a (decide ((8:Int) < m))))))))
theorem zLn (m n Q w) (h:zk m n Q w):zk.call m n Q w:=by
 have:∀ b,XH 5 b→JH 8 fun D=>∃ c d f g,D [(1,.int .i64 c),(2,(.pointer (some d))),(5,Sl.val f),(6,.int .i64 g)] (fun C=>∀ o,C [(1,.int .i64 c),(2,(.pointer (some d))),(5,Sl.val f),(6,.int .i64 g),(90,.bool o)] (zk.s3 Q b c d f g o)):=by intros; exact ⟨fun _ ⟨_,_,_,_,h⟩=>⟨_,_,h⟩⟩
 have:DH 7 1 [27] (.s [0,1,2,3,4,5,6] (.i (.s [7,8,9,10,11,12,13,14,15,16,17,18,19,20,21,22,23,24,25,26,27,28,29] .e) (.s [7,8,9,10,11,12,13,14] (.i (.s [15,16,17,18,19,20,21,22,23,24,25,26,27,28,29] .e) (.s [15,16,17,18,19,20] (.i (.s [21,23,24,25,22,26] (.a [(27,0,.s [28,29] .e)])) (.s [21,22,23,24,25,26,27,28,29] .e))))))):=⟨⟩
 have:∀ b,XH 5 b→JH 1000010 fun D=>D [] (fun C=>∀ p,C [(4,.bool p)] (zk.s4 Q b p)):=by intros; exact ⟨fun _ h=>⟨_,_,h⟩⟩
 have:DH 16 1 [6] (.s [1,3,0,2,4,5] (.a [(6,0,.s [7] .e)])):=⟨⟩
 have:∀ b,XH 5 b→∀ q,LH 14 (fun x:Int=>[(2,(.pointer (some q))),(7,.int .i64 x)]) (fun X x=>zk.b6 Q b X q x):=by intros; exact ⟨⟩
 have:∀ b,XH 5 b→JH 12 fun D=>∃ j,D [(2,(.pointer (some j)))] (fun C=>∀ r,C [(2,(.pointer (some j))),(134,.bool r)] (zk.s5 Q b j r)):=by intros; exact ⟨fun _ ⟨_,h⟩=>⟨_,_,h⟩⟩
 have:∀ t u v,LH 5 (fun x:Int=>[(1,.int .i64 t),(2,(.pointer (some u))),(5,Sl.val v),(6,.int .i64 x)]) (fun X x=>zk.b2 Q X t u v x):=fun _ _ _=>⟨⟩
 have:DH 3 2 [6] (.s [1,4,2,5] (.a [(0,1,.a [(3,1,.a [(6,0,.s [7] .e)])])])):=⟨⟩
 have:JH 2 fun D=>∃ k l,D [(1,.int .i64 k),(2,(.pointer (some l)))] (fun C=>∀ y,C [(1,.int .i64 k),(2,(.pointer (some l))),(47,.bool y)] (zk.s1 Q k l y)):=⟨fun _ ⟨_,_,h⟩=>⟨_,_,h⟩⟩
 exact zO 150 h Tryz.func10
def jG.b1 (Q:Bool→K) (k:Int→K) (b:Sl) (a:Int): K :=
 Ite (decide (a < (b.n:Int)))
  (Dr<|
  Ar (IntKind.wrap .i64 (a - 1)) fun c=>
  Idx b c 1 fun d=>
  Ld d Value.string fun f=>
  Idx b a 1 fun g=>
  Ld g Value.string fun i=>
  Ite (!(Op.bytesLess f.toList i.toList))
   (Q false)
   (Ar (IntKind.wrap .i64 (a + 1)) fun j=>
   k j))
  (Q true)
def jG (a:Sl) (Q:Bool→K): K :=
 yN (α:=Int) (fun X x=>jG.b1 Q X a x) 1
theorem zKK (a Q w) (h:jG a Q w):jG.call a Q w:=by
 have:∀ b,LH 2 (fun x:Int=>[(0,Sl.val b),(3,.int .i64 x)]) (fun X x=>jG.b1 Q X b x):=fun _=>⟨⟩
 exact zO 20 h Tryz.func43
def zBP.b1 (Q:Bool→K) (g:Int→K) (b:Sl) (i:ByteArray) (a:Int): K :=
 Ite (decide (a < (b.n:Int)))
  (Idx b a 1 fun c=>
  Ld c Value.string fun d=>
  Ite (d.toList == i.toList)
   (Q true)
   (Ar (IntKind.wrap .i64 (a + 1)) fun f=>
   g f))
  (Q false)
def zBP (a:Sl) (b:ByteArray) (Q:Bool→K): K :=
 yN (α:=Int) (fun X x=>zBP.b1 Q X a b x) 0
theorem zQQ (a b Q w) (h:zBP a b Q w):zBP.call a b Q w:=by
 have:∀ c d,LH 2 (fun x:Int=>[(0,Sl.val c),(1,.string d),(5,.int .i64 x)]) (fun X x=>zBP.b1 Q X c d x):=fun _ _=>⟨⟩
 exact zO 18 h Tryz.func44
def qJ.s2 (Q:Bool→K) (a:Bool): K :=
 Q a
def qJ.s5 (Q:Bool→K) (a:Bool): K :=
 Q a
def qJ.s4 (Q:Bool→K) (a:Addr) (f:Bool): K :=
 Ite f
  (Q false)
  (Ld a (Value.int .i64) fun b=>
  Ite (decide (b = 2))
   (qJ.s5 Q true)
   (Ld a (Value.int .i64) fun c=>
   Ite (decide (c = 4))
    (qJ.s5 Q true)
    (Ld (a.add 2) Sl.val fun d=>
    qJ.s5 Q (decide ((d.n:Int) = 0)))))
def qJ.s3 (Q:Bool→K) (a:Addr) (d:Bool): K :=
 Ite d
  (Q false)
  (Ld a (Value.int .i64) fun b=>
  Ite (decide (b ≠ 6))
   (Ld (a.add 3) (Value.int .i64) fun c=>
   qJ.s4 Q a (decide (c ≠ 0)))
   (qJ.s4 Q a false))
def qJ.s1 (Q:Bool→K) (b a:Addr) (q:Bool): K :=
 Ite q
  (Q false)
  (Ld a (Value.int .i64) fun c=>
  Ite (decide (c = 7))
   (Ld (a.add 1) Value.string fun d=>
   Ite (d.toList == (⟨#[]⟩:ByteArray).toList)
    (Ld (a.add 3) (Value.int .i64) fun f=>
    qJ.s2 Q (decide (f = 0)))
    (qJ.s2 Q false))
   (Ld (b.add 2) Sl.val fun g=>
   Ld (a.add 1) Value.string fun i=>
   zBP.call g i fun j=>
   Ite (!j)
    (Ld (b.add 1) Sl.val fun k=>
    Ld (a.add 1) Value.string fun l=>
    zBP.call k l fun m=>
    Ite (!m)
     (qJ.s3 Q a true)
     (Ld a (Value.int .i64) fun n=>
     Ite (decide (n = 2))
      (qJ.s3 Q a true)
      (Ld a (Value.int .i64) fun o=>
      Ite (decide (o = 3))
       (qJ.s3 Q a true)
       (Ld a (Value.int .i64) fun p=>
       qJ.s3 Q a (decide (p = 6))))))
    (qJ.s3 Q a false)))
def qJ (g i:Av) (Q:Bool→K): K :=
 New 25 g fun b=>
 New 123 i fun a=>
 Ld (a.add 2) Sl.val fun c=>
 Ite (decide ((32:Int) < (c.n:Int)))
  (qJ.s1 Q b a true)
  (Ld a (Value.int .i64) fun d=>
  Ite (decide (d < 1))
   (qJ.s1 Q b a true)
   (Ld a (Value.int .i64) fun f=>
   qJ.s1 Q b a (decide ((7:Int) < f))))
theorem zQR (f g Q w) (h:qJ f g Q w):qJ.call f g Q w:=by
 have:JH 1000004 fun D=>D [] (fun C=>∀ i,C [(4,.bool i)] (qJ.s2 Q i)):=⟨fun _ h=>⟨_,_,h⟩⟩
 have:JH 1000009 fun D=>D [] (fun C=>∀ j,C [(4,.bool j)] (qJ.s5 Q j)):=⟨fun _ h=>⟨_,_,h⟩⟩
 have:JH 8 fun D=>∃ a,D [(3,(.pointer (some a)))] (fun C=>∀ k,C [(3,(.pointer (some a))),(66,.bool k)] (qJ.s4 Q a k)):=⟨fun _ ⟨_,h⟩=>⟨_,_,h⟩⟩
 have:JH 6 fun D=>∃ b,D [(3,(.pointer (some b)))] (fun C=>∀ l,C [(3,(.pointer (some b))),(58,.bool l)] (qJ.s3 Q b l)):=⟨fun _ ⟨_,h⟩=>⟨_,_,h⟩⟩
 have:JH 2 fun D=>∃ c d,D [(2,(.pointer (some c))),(3,(.pointer (some d)))] (fun C=>∀ m,C [(2,(.pointer (some c))),(3,(.pointer (some d))),(18,.bool m)] (qJ.s1 Q c d m)):=⟨fun _ ⟨_,_,h⟩=>⟨_,_,h⟩⟩
 exact zO 81 h Tryz.func45
instance:CB Tryz.prog 70:=⟨by kernel_rfl⟩
instance:CB Tryz.prog 75:=⟨by kernel_rfl⟩
instance:FT Tryz.prog 95 0 0 1:=⟨by kernel_rfl⟩
instance:FT Tryz.prog 95 1 1 1:=⟨by kernel_rfl⟩
instance:PLT Tryz.prog 87 [(0,1),(1,1),(2,1),(3,1)]:=⟨_,Tryz.underlying87,by kernel_rfl⟩
instance:PLT Tryz.prog 95 [(0,1),(1,1)]:=⟨_,Tryz.underlying95,by kernel_rfl⟩
instance:ZT Tryz.prog 95 (.agg #[(.int .i64 0),(Sl.val ⟨none,0,0⟩)]):=⟨Tryz.t95,by kernel_rfl,by kernel_rfl⟩
def uX.s2 (Q:Bool→K) (b:Int→K) (f g:Sl) (c:Int) (d:Bool): K :=
 Ite d
  (Q false)
  (Ar (IntKind.wrap .i64 (c + 1)) fun a=>
  b a)
def uX.b1 (Q:Bool→K) (d:Int→K) (b c:Sl) (a:Int): K :=
 Ite (decide (a < (b.n:Int)))
  (Dr<|
  Idx b a 5 fun f=>
  Idx c a 5 fun g=>
  Ld f Value.string fun i=>
  Ld g Value.string fun j=>
  Ite (!(i.toList == j.toList))
   (uX.s2 Q d b c a true)
   (Idx b a 5 fun k=>
   Idx c a 5 fun l=>
   LdN (k.add 1) 4 fun m=>
   LdN (l.add 1) 4 fun o=>
   xA.call m o fun p=>
   uX.s2 Q d b c a (!p)))
  (Q true)
def uX (a b:Sl) (Q:Bool→K): K :=
 Ite (decide ((a.n:Int) ≠ (b.n:Int)))
  (Q false)
  (yN (α:=Int) (fun X x=>uX.b1 Q X a b x) 0)
theorem zMZ (f g Q w) (h:uX f g Q w):uX.call f g Q w:=by
 have:∀ j,XH 4 j→JH 7 fun D=>∃ b c d,D [(0,Sl.val b),(1,Sl.val c),(5,.int .i64 d)] (fun C=>∀ k,C [(0,Sl.val b),(1,Sl.val c),(5,.int .i64 d),(41,.bool k)] (uX.s2 Q j b c d k)):=by intros; exact ⟨fun _ ⟨_,_,_,h⟩=>⟨_,_,h⟩⟩
 have:DH 6 1 [22] (.s [0,1,2,3,5,6,7,8,4,9,10,11] (.i (.s [12,13,14,15,16,17,18,19,20,21,22,23,24] .e) (.s [12,13,14,15,17,18,19,20,16,21] (.a [(22,0,.s [23,24] .e)])))):=⟨⟩
 have:∀ l m,LH 4 (fun x:Int=>[(0,Sl.val l),(1,Sl.val m),(5,.int .i64 x)]) (fun X x=>uX.b1 Q X l m x):=fun _ _=>⟨⟩
 exact zO 42 h Tryz.func33
def xA.s1 (Q:Bool→K) (a:Bool): K :=
 Q a
def xA (o p:Av) (Q:Bool→K): K :=
 New 87 o fun a=>
 New 87 p fun b=>
 Ld a Value.bool fun c=>
 Ld b Value.bool fun d=>
 Ite (c == d)
  (Ld (a.add 1) Sl.val fun f=>
  Rd Tryz.prog (convert 85 9 (Sl.val f)) Value.string fun g=>
  Ld (b.add 1) Sl.val fun i=>
  Rd Tryz.prog (convert 85 9 (Sl.val i)) Value.string fun j=>
  Ite (g.toList == j.toList)
   (Ld (a.add 2) (Value.int .i64) fun k=>
   Ld (b.add 2) (Value.int .i64) fun l=>
   Ite (decide (k = l))
    (Ld (a.add 3) (Value.int .u64) fun m=>
    Ld (b.add 3) (Value.int .u64) fun n=>
    xA.s1 Q (decide (m = n)))
    (xA.s1 Q false))
   (xA.s1 Q false))
  (xA.s1 Q false)
theorem zHa (a b Q w) (h:xA a b Q w):xA.call a b Q w:=by
 have:JH 1000001 fun D=>D [] (fun C=>∀ c,C [(4,.bool c)] (xA.s1 Q c)):=⟨fun _ h=>⟨_,_,h⟩⟩
 exact zO 33 h Tryz.func75
instance:CB Tryz.prog 114:=⟨by kernel_rfl⟩
instance:CB Tryz.prog 116:=⟨by kernel_rfl⟩
instance:CB Tryz.prog 117:=⟨by kernel_rfl⟩
instance:CB Tryz.prog 118:=⟨by kernel_rfl⟩
instance:CB Tryz.prog 119:=⟨by kernel_rfl⟩
instance:CB Tryz.prog 151:=⟨by kernel_rfl⟩
instance:CB Tryz.prog 153:=⟨by kernel_rfl⟩
instance:CB Tryz.prog 168:=⟨by kernel_rfl⟩
instance:CB Tryz.prog 169:=⟨by kernel_rfl⟩
instance:CB Tryz.prog 171:=⟨by kernel_rfl⟩
instance:ZT Tryz.prog 22 (Sl.val ⟨none,0,0⟩):=⟨Tryz.t22,by kernel_rfl,by kernel_rfl⟩
def qR.s2 (Q:Int→K) (a:Bool): K :=
 Ite (!a)
  (Q 1)
  (Q 0)
def qR.s1 (Q:Int→K) (p:Int) (a:Addr) (c:Bool): K :=
 Ld a (Value.int .i64) fun b=>
 Ite (decide (b = 1))
  (Ite c
   (Ld (a.add 4) (Value.int .i64) fun d=>
   Ite (decide (d = 0))
    (Ld (a.add 3) Sl.val fun f=>
    Ite (decide ((f.n:Int) ≤ 16))
     (Ld (a.add 3) Sl.val fun g=>
     q8.call g (.func (.func 115) #[] #[(.pointer (some a))]) fun i=>
     qR.s2 Q (!i))
     (qR.s2 Q false))
    (qR.s2 Q false))
   (qR.s2 Q false))
  (Ite (decide (b = 2))
   (Ite c
    (Ld (a.add 1) Sl.val fun j=>
    Ite (decide ((j.n:Int) = 0))
     (Ld (a.add 3) Sl.val fun k=>
     Ite (decide ((k.n:Int) = 0))
      (Ld (a.add 2) Sl.val fun l=>
      Ite (decide ((l.n:Int) = 1))
       (Ld (a.add 4) (Value.int .i64) fun m=>
       Ite (decide ((0:Int) ≤ m))
        (Ld (a.add 4) (Value.int .i64) fun o=>
        qR.s2 Q (decide (o < p)))
        (qR.s2 Q false))
       (qR.s2 Q false))
      (qR.s2 Q false))
     (qR.s2 Q false))
    (qR.s2 Q false))
   (qR.s2 Q false))
def qR (f:Av) (a:Int) (Q:Int→K): K :=
 New 25 f fun b=>
 Ite (decide ((1:Int) ≤ a))
  (Ite (decide (a ≤ 3))
   (LdN b 5 fun c=>
   xY.call c fun d=>
   qR.s1 Q a b d)
   (qR.s1 Q a b false))
  (qR.s1 Q a b false)
theorem zMa (c d Q w) (h:qR c d Q w):qR.call c d Q w:=by
 have:JH 9 fun D=>D [] (fun C=>∀ f,C [(5,.bool f)] (qR.s2 Q f)):=⟨fun _ h=>⟨_,_,h⟩⟩
 have:JH 2 fun D=>∃ a b,D [(1,.int .i64 a),(2,(.pointer (some b)))] (fun C=>∀ g,C [(1,.int .i64 a),(2,(.pointer (some b))),(5,.bool g)] (qR.s1 Q a b g)):=⟨fun _ ⟨_,_,h⟩=>⟨_,_,h⟩⟩
 exact zO 75 h Tryz.func65
def zBB.b1 (Q:Av→K) (p:Int→K) (c d:Addr) (q:Sl) (r a:Int): K :=
 Ite (decide (a < r))
  (Idx q a 4 fun f=>
  LdN f 4 fun g=>
  New 123 #[.int .i64 0,(.string ⟨#[]⟩),Sl.val ⟨none,0,0⟩,.int .i64 0] fun b=>
  StN b 4 g<|
  Dr <| yZ fun S=>
  LdS S (c.add 3) Sl.val fun i=>
  LdS S (b.add 2) Sl.val fun j=>
  xu.call j fun k=>
  Sv S<|
  Idx i a 4 fun l=>
  St (l.add 2) (Sl.val k)<|
  Ar (IntKind.wrap .i64 (a + 1)) fun m=>
  p m)
  (LdN c 5 fun n=>
  StN d 5 n<|
  LdN d 5 fun o=>
  Q o)
def zBB (l:Av) (Q:Av→K): K :=
 New 25 l fun a=>
 New 25 #[.int .i64 0,Sl.val ⟨none,0,0⟩,Sl.val ⟨none,0,0⟩,Sl.val ⟨none,0,0⟩,.int .i64 0] fun c=>
 Dr <| yZ fun S=>
 LdS S (a.add 1) Sl.val fun d=>
 LdS S (a.add 2) Sl.val fun f=>
 LdS S (a.add 3) Sl.val fun g=>
 qm.call d fun i=>
 Sv S<|
 qm.call f fun j=>
 Sv S<|
 xK.call g fun k=>
 St (a.add 1) (Sl.val i)<|
 St (a.add 2) (Sl.val j)<|
 St (a.add 3) (Sl.val k)<|
 Ld (a.add 3) Sl.val fun b=>
 yN (α:=Int) (fun X x=>zBB.b1 Q X a c b (b.n:Int) x) 0
theorem zOx (b Q w) (h:zBB b Q w):zBB.call b Q w:=by
 have:DH 5 2 [8] (.s [0,2,3,1,4] (.a [(5,1,.s [6,7] (.a [(8,0,.e)]))])):=⟨⟩
 have:∀ c d f g,LH 3 (fun x:Int=>[(1,(.pointer (some c))),(2,(.pointer (some d))),(18,Sl.val f),(19,.int .i64 g),(20,.int .i64 x)]) (fun X x=>zBB.b1 Q X c d f g x):=fun _ _ _ _=>⟨⟩
 have:DH 1 2 [8,10,12,14] (.s [0,3,6,1,4,7] (.a [(2,1,.s [9] (.a [(5,1,.a [(8,0,.a [(10,0,.s [11] (.a [(12,0,.s [13] (.a [(14,0,.e)]))]))])])]))])):=⟨⟩
 exact zO 35 h Tryz.func66
def zCj (i:Av) (Q:Sl→K): K :=
 New 25 i fun a=>
 Ld (a.add 1) Sl.val fun c=>
 Ld (a.add 2) Sl.val fun d=>
 New 22 #[Sl.val c,Sl.val d] fun f=>
 zT.call (Sl.mk (some f) 2 2) fun b=>
 vO.call b<|
 zP.call b fun g=>
 Q g
theorem zOy (a Q w) (h:zCj a Q w):zCj.call a Q w:=by
 exact zO 14 h Tryz.func92
def xY.s1 (Q:Bool→K) (a:Addr) (d:Bool): K :=
 Ite d
  (Q false)
  (Ld (a.add 1) Sl.val fun b=>
  q9.call b (.func (.func 170) #[] #[(.pointer (some a))]) fun c=>
  Q (!c))
def xY (l:Av) (Q:Bool→K): K :=
 New 25 l fun a=>
 Ld (a.add 1) Sl.val fun b=>
 Ite (decide ((8:Int) < (b.n:Int)))
  (xY.s1 Q a true)
  (Ld (a.add 2) Sl.val fun c=>
  Ld (a.add 1) Sl.val fun d=>
  Ar (IntKind.wrap .i64 (8 - (d.n:Int))) fun f=>
  Ite (decide (f < (c.n:Int)))
   (xY.s1 Q a true)
   (Ld (a.add 1) Sl.val fun g=>
   xZ.call g fun i=>
   Ite (!i)
    (xY.s1 Q a true)
    (Ld (a.add 2) Sl.val fun j=>
    xZ.call j fun k=>
    xY.s1 Q a (!k))))
theorem zJW (b Q w) (h:xY b Q w):xY.call b Q w:=by
 have:JH 2 fun D=>∃ a,D [(1,(.pointer (some a)))] (fun C=>∀ c,C [(1,(.pointer (some a))),(28,.bool c)] (xY.s1 Q a c)):=⟨fun _ ⟨_,h⟩=>⟨_,_,h⟩⟩
 exact zO 34 h Tryz.func114
def zEH (f:Av) (g:Addr) (Q:Bool→K): K :=
 New 123 f fun a=>
 LdN g 5 fun b=>
 LdN a 4 fun c=>
 yP.call b c fun d=>
 Q (!d)
theorem zKL (a b Q w) (h:zEH a b Q w):zEH.call a b Q w:=by
 exact zO 8 h Tryz.func115
def yP.s4 (Q:Bool→K) (a:Bool): K :=
 Q a
def yP.s6 (Q:Bool→K) (a:Bool): K :=
 Q a
def yP.s5 (Q:Bool→K) (a:Addr) (d:Bool) (f:Int) (g:Bool): K :=
 Ite g
  (Ite d
   (Ld (a.add 2) Sl.val fun b=>
   yP.s6 Q (decide ((b.n:Int) = 0)))
   (yP.s6 Q false))
  (Ite (decide (f = 7))
   (Ld (a.add 1) Value.string fun c=>
   Q (c.toList == (⟨#[]⟩:ByteArray).toList))
   (Q false))
def yP.s3 (Q:Bool→K) (b:Addr) (f c:Bool) (a:Int) (g:Bool): K :=
 Ite g
  (Ite f
   (Ld (b.add 2) Sl.val fun d=>
   yP.s4 Q (decide ((d.n:Int) = 0)))
   (yP.s4 Q false))
  (Ite (decide (a = 4))
   (Q c)
   (Ite (decide (a = 1))
    (yP.s5 Q b c a (decide (a = 1)))
    (yP.s5 Q b c a (decide (a = 5)))))
def yP.s2 (Q:Bool→K) (b:Addr) (c d:Bool): K :=
 Ld b (Value.int .i64) fun a=>
 Ite (decide (a = 2))
  (Q c)
  (Ite (decide (a = 3))
   (yP.s3 Q b c d a (decide (a = 3)))
   (yP.s3 Q b c d a (decide (a = 6))))
def yP.s1 (Q:Bool→K) (b a:Addr) (k:Bool): K :=
 Ite k
  (Q false)
  (Ld (b.add 2) Sl.val fun c=>
  Ld (a.add 1) Value.string fun d=>
  yw.call c d fun f=>
  Ite f
   (yP.s2 Q a true true)
   (Ld (b.add 1) Sl.val fun g=>
   Ld (a.add 1) Value.string fun i=>
   yw.call g i fun j=>
   yP.s2 Q a false j))
def yP (g i:Av) (Q:Bool→K): K :=
 New 25 g fun b=>
 New 123 i fun a=>
 Ld (a.add 2) Sl.val fun c=>
 Ite (decide ((32:Int) < (c.n:Int)))
  (yP.s1 Q b a true)
  (Ld (a.add 3) (Value.int .i64) fun d=>
  Ite (decide (d ≠ 0))
   (Ld a (Value.int .i64) fun f=>
   yP.s1 Q b a (decide (f ≠ 6)))
   (yP.s1 Q b a false))
theorem zOz (j k Q w) (h:yP j k Q w):yP.call j k Q w:=by
 have:JH 1000010 fun D=>D [] (fun C=>∀ l,C [(4,.bool l)] (yP.s4 Q l)):=⟨fun _ h=>⟨_,_,h⟩⟩
 have:JH 1000015 fun D=>D [] (fun C=>∀ m,C [(4,.bool m)] (yP.s6 Q m)):=⟨fun _ h=>⟨_,_,h⟩⟩
 have:JH 15 fun D=>∃ a b,D [(3,(.pointer (some a))),(35,.int .i64 b)] (fun C=>∀ n o,C [(3,(.pointer (some a))),(6,.bool n),(35,.int .i64 b),(52,.bool o)] (yP.s5 Q a n b o)):=⟨fun _ ⟨_,_,h⟩=>⟨_,_,h⟩⟩
 have:JH 10 fun D=>∃ c d,D [(3,(.pointer (some c))),(35,.int .i64 d)] (fun C=>∀ p q r,C [(3,(.pointer (some c))),(5,.bool p),(6,.bool q),(35,.int .i64 d),(39,.bool r)] (yP.s3 Q c p q d r)):=⟨fun _ ⟨_,_,h⟩=>⟨_,_,h⟩⟩
 have:JH 5 fun D=>∃ f,D [(3,(.pointer (some f)))] (fun C=>∀ s t,C [(3,(.pointer (some f))),(5,.bool s),(6,.bool t)] (yP.s2 Q f s t)):=⟨fun _ ⟨_,h⟩=>⟨_,_,h⟩⟩
 have:JH 2 fun D=>∃ g i,D [(2,(.pointer (some g))),(3,(.pointer (some i)))] (fun C=>∀ u,C [(2,(.pointer (some g))),(3,(.pointer (some i))),(20,.bool u)] (yP.s1 Q g i u)):=⟨fun _ ⟨_,_,h⟩=>⟨_,_,h⟩⟩
 exact zO 67 h Tryz.func116
def xZ.s2 (Q:Bool→K) (b:Int→K) (f g:Sl) (i c:Int) (d:Bool): K :=
 Ite d
  (Q false)
  (Ar (IntKind.wrap .i64 (c + 1)) fun a=>
  b a)
def xZ.b1 (Q:Bool→K) (f:Int→K) (b c:Sl) (d a:Int): K :=
 Ite (decide (a < d))
  (Idx c a 1 fun i=>
  Ld i Value.string fun g=>
  Ite (g.toList == (⟨#[]⟩:ByteArray).toList)
   (xZ.s2 Q f b c d a true)
   (Ite (decide ((16:Int) < (g.size:Int)))
    (xZ.s2 Q f b c d a true)
    (Ite (decide ((0:Int) < a))
     (Ar (IntKind.wrap .i64 (a - 1)) fun j=>
     Idx b j 1 fun k=>
     Ld k Value.string fun l=>
     xZ.s2 Q f b c d a (!(Op.bytesLess l.toList g.toList)))
     (xZ.s2 Q f b c d a false))))
  (Q true)
def xZ (a:Sl) (Q:Bool→K): K :=
 yN (α:=Int) (fun X x=>xZ.b1 Q X a a (a.n:Int) x) 0
theorem zMb (f Q w) (h:xZ f Q w):xZ.call f Q w:=by
 have:∀ g,XH 2 g→JH 5 fun D=>∃ a b c d,D [(0,Sl.val a),(5,Sl.val b),(6,.int .i64 c),(7,.int .i64 d)] (fun C=>∀ i,C [(0,Sl.val a),(5,Sl.val b),(6,.int .i64 c),(7,.int .i64 d),(31,.bool i)] (xZ.s2 Q g a b c d i)):=by intros; exact ⟨fun _ ⟨_,_,_,_,h⟩=>⟨_,_,h⟩⟩
 have:∀ j k l,LH 2 (fun x:Int=>[(0,Sl.val j),(5,Sl.val k),(6,.int .i64 l),(7,.int .i64 x)]) (fun X x=>xZ.b1 Q X j k l x):=fun _ _ _=>⟨⟩
 exact zO 33 h Tryz.func168
def zCd (c:ByteArray) (d:Addr) (Q:Bool→K): K :=
 Ld (d.add 2) Sl.val fun a=>
 yw.call a c fun b=>
 Q b
theorem zIB (a b Q w) (h:zCd a b Q w):zCd.call a b Q w:=by
 exact zO 8 h Tryz.func170
instance:CB Tryz.prog 146:=⟨by kernel_rfl⟩
instance:CB Tryz.prog 150:=⟨by kernel_rfl⟩
instance:FT Tryz.prog 207 0 0 1:=⟨by kernel_rfl⟩
def zBT (d:Pt) (Q:Sl→K): K :=
 Nn d fun a=>
 Ld a Sl.val fun b=>
 uO.call b fun c=>
 Q c
theorem zJX (a Q w) (h:zBT a Q w):zBT.call a Q w:=by
 exact zO 8 h Tryz.func91
def xE.b1 (Q:K) (q:Int→K) (d:Pt) (a:Int): K :=
 Ite (decide ((128:Int) ≤ a))
  (Nn d fun b=>
  Ld b Sl.val fun f=>
  Ar (IntKind.wrap .u8 a) fun g=>
  Ar (bitsOf .or .u8 g 128) fun i=>
  New 5 #[.int .u8 i] fun j=>
  Do Tryz.prog (Builtin.append_ #[85,85] 85 #[Sl.val f,(Sl.val (Sl.mk (some j) 1 1))]) Sl.val fun k=>
  St b (Sl.val k)<|
  Cd (0 ≤ (7:Int))<|
  Ar (zGK .u64 a 7) fun l=>
  q l)
  (Nn d fun c=>
  Ld c Sl.val fun m=>
  Ar (IntKind.wrap .u8 a) fun n=>
  New 5 #[.int .u8 n] fun o=>
  Do Tryz.prog (Builtin.append_ #[85,85] 85 #[Sl.val m,(Sl.val (Sl.mk (some o) 1 1))]) Sl.val fun p=>
  St c (Sl.val p)<|
  Q)
def xE (a:Pt) (b:Int) (Q:K): K :=
 yN (α:=Int) (fun X x=>xE.b1 Q X a x) b
theorem zKM (a b Q w) (h:xE a b Q w):xE.call a b Q w:=by
 have:∀ c,LH 0 (fun x:Int=>[(0,.pointer c),(1,.int .u64 x)]) (fun X x=>xE.b1 Q X c x):=fun _=>⟨⟩
 exact zO 31 h Tryz.func146
def jZ (b:Pt) (c:Sl) (Q:K): K :=
 Ar (IntKind.wrap .u64 (c.n:Int)) fun d=>
 xE.call b d<|
 Nn b fun a=>
 Ld a Sl.val fun f=>
 Do Tryz.prog (Builtin.append_ #[85,85] 85 #[Sl.val f,Sl.val c]) Sl.val fun g=>
 St a (Sl.val g)<|
 Q
theorem zJY (a b Q w) (h:jZ a b Q w):jZ.call a b Q w:=by
 exact zO 18 h Tryz.func148
end
section
open Go Go.Sep
def zQS (xs:List UInt8):Nat:=xs.foldl (fun n b=>n * 256 + b.toNat) 0
theorem zNH (xs:List UInt8) (x:UInt8):zQS (xs++[x]) = zQS xs * 256 + x.toNat:=by
 unfold zQS
 rw [List.foldl_append]
 rfl
theorem zXh:∀ (j:Nat) (xs:List UInt8),xs.length = j→zQS xs < 256 ^ j:=by
 intro j
 induction j with
 | zero=>
  intro xs h
  have:xs = []:=List.length_eq_zero_iff.1 h
  subst this
  decide
 | succ j ih=>
  intro xs h
  have hne:xs ≠ []:=fun e=>by rw [e] at h; cases h
  have e:xs = xs.dropLast++[xs.getLast hne]:=(List.dropLast_concat_getLast hne).symm
  have h1:=ih xs.dropLast (by simp; omega)
  have h2:=UInt8.toNat_lt (xs.getLast hne)
  rw [e,zNH,Nat.pow_succ]
  omega
theorem or8 (m b:Nat) (hm:m * 256 < 2 ^ 64) (hb:b < 256):bitsOf .or .u64 ((m * 256:Nat):Int) (b:Int) = ((m * 256 + b:Nat):Int):=by
 unfold bitsOf
 simp only
 have h1:(BitVec.ofInt (IntKind.bits .u64) ((m * 256:Nat):Int) ||| BitVec.ofInt (IntKind.bits .u64) (b:Int)).toNat = m * 256 + b:=by
  show (BitVec.ofInt 64 ((m * 256:Nat):Int) ||| BitVec.ofInt 64 (b:Int)).toNat = _
  rw [BitVec.toNat_or,BitVec.ofInt_natCast,BitVec.ofInt_natCast,BitVec.toNat_ofNat,BitVec.toNat_ofNat,Nat.mod_eq_of_lt (by omega),Nat.mod_eq_of_lt (by omega)]
  have h4:=Nat.two_pow_add_eq_or_of_lt (i:=8) (b:=b) (by omega) m
  have h5:2 ^ 8 * m = m * 256:=by omega
  rw [h5] at h4
  omega
 rw [h1,zDg (by omega) (by omega)]
theorem zXi {j:Nat} (h:j ≤ 7):256 ^ j ≤ 72057594037927936:=by
 have:=Nat.pow_le_pow_right (n:=256) (by decide) h
 have e:(256:Nat) ^ 7 = 72057594037927936:=by decide
 omega
section
variable {B w:World} {Γ:List zB}
theorem zJZ {s:Sl} {xs:List UInt8} {k:Int→Bool→K} (hr:RdB w s xs) (hk:k (if xs.length = 8 then IntKind.wrap .i64 (zQS xs:Int) else 0) (decide (xs.length = 8)) w):jh.call s k w:=by
 have hn:xs.length = s.n:=by have:=hr.len; simpa using this
 refine zLl _ _ _ ?_
 unfold jh
 refine zSK (fun hb=>?_) (fun hb=>?_)
 ·have h8:¬ xs.length = 8:=by simp only [decide_eq_true_eq] at hb; omega
  rw [if_neg h8,decide_eq_false h8] at hk
  exact hk
 ·have h8:xs.length = 8:=by simp only [decide_eq_false_iff_not,Decidable.not_not] at hb; omega
  rw [if_pos h8,decide_eq_true h8] at hk
  refine yN.of (fun t w1=>∃ j:Nat,t = ((zQS (xs.take j):Int),(j:Int))∧j ≤ 8∧w1 = w) (fun t _=>((8:Int) - t.2).toNat) ⟨0,rfl,by omega,rfl⟩ ?_
  rintro t w1 ⟨j,rfl,hj,rfl⟩
  dsimp only
  unfold jh.b1
  refine zSK (fun hlt=>?_) (fun hge=>?_)
  ·simp only [decide_eq_true_eq] at hlt
   have hx:xs[j]? = some xs[j]:=List.getElem?_eq_getElem (by omega)
   have htk:xs.take (j + 1) = xs.take j++[xs[j]]:=List.take_succ_eq_append_getElem (by omega)
   generalize xs[j] = x at hx htk
   refine zZY hr hx ?_
   have hlt8:=zXh j (xs.take j) (by rw [List.length_take]; omega)
   have hp:=zXi (j:=j) (by omega)
   have hxb:=UInt8.toNat_lt x
   refine zaG (by decide) ?_
   refine zK8 (e':=((zQS (xs.take j) * 256:Nat):Int)) (by
    unfold zMq
    have:min ((8:Int).toNat) (IntKind.bits .u64) = 8:=rfl
    rw [this,zDg (by omega) (by omega)]
    omega) ?_
   refine zK8 (zDg (by omega) (by omega)) ?_
   refine zK8 (or8 _ _ (by omega) hxb) ?_
   refine zSM (by omega) (by omega) ?_
   exact ⟨⟨j + 1,by rw [htk,zNH]; rfl,by omega,rfl⟩,by omega⟩
  ·simp only [decide_eq_false_iff_not] at hge
   have:j = 8:=by omega
   subst this
   rw [List.take_of_length_le (by omega)]
   exact zK8 rfl hk
end
end
section
open Go Go.Sep
section
variable {B w:World} {Γ:List zB}
theorem zXj {k:Sl→K} (h:Holds B Γ w) (hk:∀ s w,Holds B (Bytes yO s (List.replicate 8 0)::Γ) w→k s w):Do Tryz.prog (Instr.makeSlice zH3 (.int .i64 8) (.int .i64 8)) Sl.val k w:=by
 have h1:=Go.run_make_row' (P:=Tryz.prog) zH3 yO (.int .u8 0) 1 (by kernel_rfl) (by kernel_rfl) rfl .i64 .i64 8 (by decide) (by decide) w
 refine ⟨⟨some ⟨w.heap.size,0,none⟩,8,8⟩,_,h1,hk _ _ ?_⟩
 have h2:=h.alloc (.cells (madeCells #[.int .u8 0] 8) yO (0,0))
 exact zUA (by kernel_rfl) (by simp) h2
end
end
section
open Go Go.Sep
def u8 (n:Nat):UInt8:=UInt8.ofNat n
theorem u8N (n:Nat):(u8 n).toNat = n % 256:=by simp [u8,UInt8.toNat_ofNat']
theorem zTO (n:Nat):IntKind.wrap .u8 (n:Int) = ((u8 n).toNat:Int):=by
 rw [u8N]
 unfold IntKind.wrap
 simp [IntKind.bits,IntKind.signed]
end
section
open Go Go.Sep
def zIz (u i:Nat):List UInt8:=(List.range 8).map fun j=>if 8 ≤ j + i then u8 (u / 256 ^ (7 - j)) else 0
theorem zRW (u:Nat):∀ i,i < 8→(zIz u i).set (7 - i) (u8 (u / 256 ^ i)) = zIz u (i + 1)
 | 0,_=>rfl
 | 1,_=>rfl
 | 2,_=>rfl
 | 3,_=>rfl
 | 4,_=>rfl
 | 5,_=>rfl
 | 6,_=>rfl
 | 7,_=>rfl
theorem zUB (u i:Nat):(zIz u i).length = 8:=by simp [zIz]
def uOf (n:Int):Nat:=(IntKind.wrap .u64 n).toNat
theorem zZZ (n:Int):uOf n < 2 ^ 64∧IntKind.wrap .u64 n = (uOf n:Int):=by
 have h:0 ≤ IntKind.wrap .u64 n∧IntKind.wrap .u64 n < 2 ^ 64:=by
  unfold IntKind.wrap
  simp only [IntKind.bits,IntKind.signed,Bool.false_and,Bool.false_eq_true,if_false]
  omega
 unfold uOf
 omega
section
variable {B w:World} {Γ:List zB}
theorem zKN {n:Int} {k:Sl→K} (h:Holds B Γ w) (hk:∀ s w,Holds B (Bytes yO s (zIz (uOf n) 8)::Γ) w→k s w):zAv.call n k w:=by
 obtain ⟨hu1,hu2⟩:=zZZ n
 refine zMX _ _ _ ?_
 unfold zAv
 refine zXj h fun s w h=>?_
 have hsn:=Bytes.len h
 simp only [List.length_replicate] at hsn
 refine yN.of (fun t w=>∃ i:Nat,t = (i:Int)∧i ≤ 8∧Holds B (Bytes yO s (zIz (uOf n) i)::Γ) w) (fun t _=>((8:Int) - t).toNat) ⟨0,rfl,by omega,h⟩ ?_
 clear h
 rintro t w ⟨i,rfl,hi,h⟩
 unfold zAv.b1
 refine zSK (fun hlt=>?_) (fun hge=>?_)
 ·simp only [decide_eq_true_eq] at hlt
  refine zK8 (e':=((7 - i:Nat):Int)) (by rw [wrap64 (by omega) (by omega)]; omega) ?_
  refine zK8 hu2 ?_
  refine zK8 (e':=((8 * i:Nat):Int)) (by rw [wrap64 (by omega) (by omega)]; omega) ?_
  refine zaG (by omega) ?_
  refine zK8 (e':=((uOf n / 256 ^ i:Nat):Int)) (by
   unfold zGK
   have:min (((8 * i:Nat):Int).toNat) (IntKind.bits .u64) = 8 * i:=by simp [IntKind.bits]; omega
   rw [this,Int.fdiv_eq_ediv_of_nonneg _ (Int.le_of_lt (Int.pow_pos (by decide))),Nat.pow_mul 2 8 i |> fun e=>show (2:Int) ^ (8 * i) = ((256 ^ i:Nat):Int) by rw [Int.pow_mul]; rw [Int.natCast_pow]; rfl,← Int.natCast_ediv]) ?_
  refine zK8 (zTO _) ?_
  refine zXT h (by omega) rfl fun w h=>?_
  have e1:((zIz (uOf n) i).map jm).set (7 - i) (Value.int .u8 ((u8 (uOf n / 256 ^ i)).toNat:Int)) = (zIz (uOf n) (i + 1)).map jm:=by
   rw [← zRW _ i (by omega),List.map_set]
   rfl
  rw [e1] at h
  refine zSM (by omega) (by omega) ?_
  exact ⟨⟨i + 1,by omega,by omega,h⟩,by omega⟩
 ·simp only [decide_eq_false_iff_not] at hge
  have:i = 8:=by omega
  subst this
  exact hk _ _ h
end
end
section
open Go Go.Sep Go.Sep.Bt
abbrev WX:=List (List UInt8×(Rec×Sl))
abbrev wV (x:Rec×Sl):Value:=.agg (zIr x.1 x.2)
abbrev wB (p:List UInt8×(Rec×Sl)):zB:=Bytes yO p.2.2 p.2.1.val
abbrev zAI (rb st mb:Nat) (os:Sl) (X:WX) (O:OX) (Γ:List zB):List zB :=
 blk rb (.cells [.pointer (some ⟨st,0,none⟩),.map (some mb),os.val].toArray zAj (0,0))::xM xU wV mb X::Sep.stars (X.map wB)::SlC qH 2 os (O.flatMap oF)::Sep.stars (O.map oB)::Γ
theorem zO0:zE8 Tryz.prog uN .string qA:=⟨9,by kernel_rfl,by kernel_rfl⟩
abbrev zVy:Rec×Sl:=(⟨false,[],0,0⟩,⟨none,0,0⟩)
theorem zTP:zBN Tryz.prog qA (wV zVy):=zH4
def xV (n:Nat) (M:yY) (W:List (List UInt8×Rec)) (k:List UInt8):Rec:=(y9 k W).getD (vo n M (bs k))
abbrev qV (X:WX):List (List UInt8×Rec):=X.map fun p=>(p.1,p.2.1)
section
variable {B:World} {Γ Δ:List zB} {rb st mb n:Nat} {os:Sl} {X:WX} {O:OX} {M:yY} {k:List UInt8}
theorem zNI {α:Type} {F:α→zB} {l:List α} {x:α} {w:World} (hx:x ∈ l) (h:Holds B (Sep.stars (l.map F)::Γ) w):∃ Δ,Holds B (F x::Δ) w:=by
 obtain ⟨A,C,rfl⟩:=List.append_of_mem hx
 exact ⟨_,((Holds.flat.1 h).perm zGV).perm List.perm_middle⟩
theorem zJa {E:Nat} {w:World} {s:Sl} {xs:List UInt8} (h:Holds B (Bytes E s xs::Γ) w):RdB w s xs:=h.rdC List.mem_cons_self
theorem zHH {Q:Array Value→K} (hk:k.length < 1000000000000) (hX:∀ p ∈ X,p.2.1.ok)
  (hin:∀ r s,y9 k X = some (r,s)→r.ok→(∀ w,Holds B (zAI rb st mb os X O (ze st n M::Γ)) w→RdB w s r.val)→HG B (zAI rb st mb os X O (ze st n M::Γ)) (Q (zIr r s)))
  (hout:y9 k X = none→∀ s,(vo n M (bs k)).ok→HG B (Bytes yO s (vo n M (bs k)).val::zAI rb st mb os X O (ze st n M::Γ)) (Q (zIr (vo n M (bs k)) s))) :
  HG B (zAI rb st mb os X O (ze st n M::Γ)) (zAF.call (some ⟨rb,0,none⟩) (bs k) Q):=fun w hw=>by
 refine zKH _ _ _ _ ?_
 refine hg hw ?_
 clear hw w
 unfold zAF
 refine zR fun t4=>?_
 refine vg ?_
 refine yD (b:=rb) (x:=some mb) ?_
 refine zXa (b:=mb) (enc:=xU) (cV:=wV) (cG:=Value.agg) (g:=fun x=>zIr x.1 x.2) (z:=zVy) (a:=k) (fun _=>rfl) zO0 zFF zTP ?_
 refine zR fun x5=>?_
 cases hm:y9 k X with
 | some p=>
  obtain ⟨r,s⟩:=p
  have hmem:=zFC hm
  have hok:=hX _ hmem
  simp only [Option.getD_some,Option.isSome_some]
  refine qX (b:=x5) (l':=zBv r s) ?_
  refine s_t ?_
  refine qW (b:=x5) (l':=zBv r s) ?_
  refine qX (b:=t4) (l':=zBv r s) ?_
  refine qW (b:=t4) (l':=zBv r s) ?_
  refine zC (Δ:=zAI rb st mb os X O (ze st n M::Γ)) ?_
  refine hin r s hm hok fun w hw=>?_
  obtain ⟨Δ,h1⟩:=zNI hmem (hw.tail.tail)
  exact zJa h1
 | none=>
  simp only [Option.getD_none,Option.isSome_none]
  refine qX (b:=x5) (l':=zBv zVy.1 zVy.2) ?_
  refine s_f ?_
  refine yD (b:=rb) (x:=some ⟨st,0,none⟩) ?_
  refine zQ st ?_
  refine zAM (k:=bs k) (by simpa [ByteArray.size] using hk) fun s hok=>?_
  refine qX (b:=t4) (l':=zBv (vo n M (bs k)) s) ?_
  refine qW (b:=t4) (l':=zBv (vo n M (bs k)) s) ?_
  exact zC (hout hm s hok)
theorem zJb {Q:K} {has:Bool} {val:List UInt8} {vs:Sl} (hk:k.length < 1000000000000) (hX:∀ p ∈ X,p.2.1.ok) (hv:val.length ≤ 1000000000) (hr:∀ w,Holds B (zAI rb st mb os X O (ze st n M::Γ)) w→RdB w vs val)
  (h:∀ s,({ xV n M (qV X) k with has:=has,val:=val }:Rec).ok→HG B (zAI rb st mb os (vL k ({ xV n M (qV X) k with has:=has,val:=val },s) X) O (ze st n M::Γ)) Q) :
  HG B (zAI rb st mb os X O (ze st n M::Γ)) (jc.call (some ⟨rb,0,none⟩) (bs k) has vs Q):=fun w hw=>by
 refine zKI _ _ _ _ _ _ ?_
 refine hg hw ?_
 clear hw w
 unfold jc
 have rest:∀ (r:Rec) (s:Sl),r = xV n M (qV X) k→r.ok→HG B (zAI rb st mb os X O (ze st n M::Γ)) (New qA [.bool false,Sl.val ⟨none,0,0⟩,.int .i64 0,.int .u64 0].toArray fun x8=>
   StN x8 4 (zIr r s) <| xu.call vs fun t14=>St x8 (.bool has) <| St (x8.add 1) (Sl.val t14) <| Dr <| Nn (some ⟨rb,0,none⟩) fun t18=>Ld (t18.add 1) Value.map fun t20=>LdN x8 4 fun t22=>
   DoU Tryz.prog (Instr.mapUpdate uN (.map t20) (.string (bs k)) (.agg t22)) Q):=fun r s hr2 hok=>by
  refine zR fun x8=>?_
  refine qX (b:=x8) (l':=zBv r s) ?_
  refine zBW (fun w hw=>hr w hw.tail) hv fun s' _=>?_
  refine zBY (b:=x8) ?_
  refine zBY (b:=x8) ?_
  refine vk ?_
  refine vg ?_
  refine yD (b:=rb) (x:=some mb) ?_
  refine qW (b:=x8) (l':=zBv { r with has:=has,val:=val } s') ?_
  refine zVc (b:=mb) (enc:=xU) (cV:=wV) (v:=(({ r with has:=has,val:=val }:Rec),s')) (cG:=Value.agg) rfl zO0 zFF ?_
  rw [hr2] at hok ⊢
  refine zC (Δ:=wB (k,(({ xV n M (qV X) k with has:=has,val:=val }:Rec),s'))::Sep.stars (X.map wB)::blk rb (.cells [.pointer (some ⟨st,0,none⟩),.map (some mb),os.val].toArray zAj (0,0))::xM xU wV mb (vL k (({ xV n M (qV X) k with has:=has,val:=val }:Rec),s') X)::SlC qH 2 os (O.flatMap oF)::Sep.stars (O.map oB)::ze st n M::Γ) ?_
  refine zVd ?_
  exact zC (h s' ⟨hok.1,hok.2.1,hv⟩)
 have hmg:y9 k (qV X) = (y9 k X).map (·.1):=zE9 _ _ _
 refine zHH hk hX (fun r s hm hok _=>?_) fun hm s hok=>?_
 ·refine rest r s ?_ hok
  unfold xV; rw [hmg,hm]; rfl
 ·refine zC (Δ:=zAI rb st mb os X O (ze st n M::Γ)) ?_
  refine rest _ s ?_ hok
  unfold xV; rw [hmg,hm]; rfl
end
def OpM.ok (o:OpM):Prop:=o.key.length < 1000000000000∧o.val.length ≤ 1000000000∧-9223372036854775808 ≤ o.n∧o.n ≤ 9223372036854775807
abbrev WM:=List (List UInt8×Rec)
abbrev OM:=List (Bool×List UInt8)
def numOf (v:List UInt8):Int:=IntKind.wrap .i64 (zQS v:Int)
abbrev valOf (n:Int):List UInt8:=zIz (uOf n) 8
def zHw (a b:Int):Bool:=decide (0 < b∧9223372036854775807 - b < a∨b < 0∧a < -9223372036854775808 - b)
def setW (n:Nat) (M:yY) (W:WM) (k:List UInt8) (has:Bool) (val:List UInt8):WM:=vL k { xV n M W k with has:=has,val:=val } W
def zFH (n:Nat) (M:yY) (W:WM) (k:List UInt8) (d:Int):WM×Int :=
 if (xV n M W k).has = true∧(xV n M W k).val.length ≠ 8 then (W,110) else
 if zHw (if (xV n M W k).has then numOf (xV n M W k).val else 0) d then (W,111) else
 (setW n M W k true (valOf ((if (xV n M W k).has then numOf (xV n M W k).val else 0) + d)),0)
def stepW (n:Nat) (M:yY) (W:WM) (O:OM) (o:OpM):WM×OM×Int :=
 if o.kind = 1 then (W,O++[((xV n M W o.key).has,(xV n M W o.key).val)],0) else
 if o.kind = 7 then (W,O++[(true,o.val)],0) else
 if o.kind = 2 then (setW n M W o.key true o.val,O,0) else
 if o.kind = 3 then (setW n M W o.key false [],O,0) else
 if o.kind = 4 then (W,O,if (xV n M W o.key).has = true∧(xV n M W o.key).val = o.val then 0 else 110) else
 if o.kind = 5 then (W,O,if (xV n M W o.key).has then 110 else 0) else
 if o.kind = 6 then ((zFH n M W o.key o.n).1,O,(zFH n M W o.key o.n).2) else (W,O,0)
theorem zLo (n:Int):-9223372036854775808 ≤ IntKind.wrap .i64 n∧IntKind.wrap .i64 n ≤ 9223372036854775807:=by
 simp only [IntKind.wrap,IntKind.signed,IntKind.bits]
 simp
 omega
theorem zUC (n:Int):(valOf n).length = 8:=zUB _ _
section
variable {B:World} {Γ Δ:List zB} {rb st mb n:Nat} {os:Sl} {X:WX} {O:OX} {M:yY} {k:List UInt8}
theorem zI0 {r:Rec} {s:Sl}:qV (vL k (r,s) X) = vL k r (qV X):=(zP9 (fun p:Rec×Sl=>p.1) k (r,s) X).symm
theorem zKu {r:Rec} {s:Sl} (hX:∀ p ∈ X,p.2.1.ok) (hr:r.ok):∀ p ∈ vL k (r,s) X,p.2.1.ok:=fun p hp=>by
 rcases zE7 k X with ⟨_,h2,_,_⟩ | ⟨j,x,hj,h0,_,_,h2,_⟩
 ·rw [h2] at hp
  rcases List.mem_append.1 hp with hp | hp
  ·exact hX p hp
  ·rw [List.mem_singleton.1 hp]; exact hr
 ·rw [h2] at hp
  rcases List.mem_or_eq_of_mem_set hp with hp | rfl
  ·exact hX p hp
  ·exact hr
theorem zUD {Q:Int→K} {o:OpM} {osl:Sl} (ho:o.ok) (hX:∀ p ∈ X,p.2.1.ok)
  (h:∀ X',qV X' = (zFH n M (qV X) o.key o.n).1→(∀ p ∈ X',p.2.1.ok)→HG B (zAI rb st mb os X' O (ze st n M::Γ)) (Q (zFH n M (qV X) o.key o.n).2)) :
  HG B (zAI rb st mb os X O (ze st n M::Γ)) (qC.call (some ⟨rb,0,none⟩) (opF (o,osl)).toArray Q):=fun w hw=>by
 refine zKJ _ _ _ _ ?_
 refine hg hw ?_
 clear hw w
 obtain ⟨hk,hv,hn1,hn2⟩:=ho
 have hmg:y9 o.key (qV X) = (y9 o.key X).map (·.1):=zE9 _ _ _
 unfold qC
 refine zR fun o3=>?_
 refine yD (b:=o3) (x:=bs o.key) ?_
 have sum:∀ (a:Int) (E:zB),-9223372036854775808 ≤ a→a ≤ 9223372036854775807→¬ ((xV n M (qV X) o.key).has = true∧(xV n M (qV X) o.key).val.length ≠ 8)→a = (if (xV n M (qV X) o.key).has then numOf (xV n M (qV X) o.key).val else 0) →
   HG B (blk o3 (.cells (opF (o,osl)).toArray qw (0,0))::zAI rb st mb os X O (ze st n M::Γ)) (qC.s1 Q (some ⟨rb,0,none⟩) ⟨o3,0,none⟩ a):=fun a E ha1 ha2 hn8 hae=>by
  have done:∀ t,t = zHw a o.n→HG B (blk o3 (.cells (opF (o,osl)).toArray qw (0,0))::zAI rb st mb os X O (ze st n M::Γ)) (qC.s2 Q (some ⟨rb,0,none⟩) ⟨o3,0,none⟩ a t):=fun t ht=>by
   unfold qC.s2
   refine zH (fun hb=>?_) fun hb=>?_
   ·have e:zFH n M (qV X) o.key o.n = (qV X,111):=by unfold zFH; rw [if_neg hn8,← hae,if_pos (by rw [← ht,hb])]
    rw [e] at h
    exact zC (h X rfl hX)
   ·have hov:¬ zHw a o.n = true:=by rw [← ht,hb]; simp
    have e:zFH n M (qV X) o.key o.n = (setW n M (qV X) o.key true (valOf (a + o.n)),0):=by unfold zFH; rw [if_neg hn8,← hae,if_neg hov]
    rw [e] at h
    refine vk ?_
    refine zMR ?_
    refine u6 (b:=o3) (x:=bs o.key) ?_
    refine u6 (b:=o3) (x:=o.n) ?_
    refine qU ?_ (by simp only [zHw,decide_eq_true_eq] at hov; omega) (by simp only [zHw,decide_eq_true_eq] at hov; omega)
    refine fun w hw=>zKN hw fun vs w hw=>?_
    refine hg hw ?_
    clear hw w
    refine zBC ?_
    refine zC (Δ:=zAI rb st mb os X O (ze st n M::Bytes yO vs (valOf (a + o.n))::Γ)) ?_
    refine zJb (val:=valOf (a + o.n)) hk hX (by rw [zUC]; omega) (fun w hw=>?_) fun s hok=>?_
    ·exact zJa (hw.drops (Δ:=Bytes yO vs (valOf (a + o.n))::Γ))
    ·refine zC (Δ:=zAI rb st mb os (vL o.key (({ xV n M (qV X) o.key with has:=true,val:=valOf (a + o.n) }:Rec),s) X) O (ze st n M::Γ)) ?_
     exact h _ zI0 (zKu hX hok)
  unfold qC.s1
  refine yD (b:=o3) (x:=o.n) ?_
  refine zH (fun hb=>?_) fun hb=>?_
  ·have hb':0 < o.n:=by simpa using hb
   refine yD (b:=o3) (x:=o.n) ?_
   refine qU ?_
   refine zH (fun hc=>?_) fun hc=>?_
   ·refine done _ ?_
    have:9223372036854775807 - o.n < a:=by simpa using hc
    symm; simp only [zHw,decide_eq_true_eq]; omega
   ·have hc':¬ 9223372036854775807 - o.n < a:=by simpa using hc
    refine yD (b:=o3) (x:=o.n) ?_
    refine s_f ?_
    refine done _ ?_
    symm; simp only [zHw,decide_eq_false_iff_not]; omega
  ·have hb':¬ 0 < o.n:=by simpa using hb
   refine yD (b:=o3) (x:=o.n) ?_
   refine zH (fun hc=>?_) fun hc=>?_
   ·have hc':o.n < 0:=by simpa using hc
    refine yD (b:=o3) (x:=o.n) ?_
    refine qU ?_
    refine done _ ?_
    simp only [zHw,hb',hc',false_and,true_and,false_or]
   ·have hc':¬ o.n < 0:=by simpa using hc
    refine done _ ?_
    simp only [zHw,hb',hc',false_and,or_self,decide_false]
 have rest:∀ (r:Rec) (s:Sl) (A:zB),r = xV n M (qV X) o.key→(∀ w,Holds B (A::blk o3 (.cells (opF (o,osl)).toArray qw (0,0))::zAI rb st mb os X O (ze st n M::Γ)) w→RdB w s r.val) →
   HG B (A::blk o3 (.cells (opF (o,osl)).toArray qw (0,0))::zAI rb st mb os X O (ze st n M::Γ)) (New qA [.bool false,Sl.val ⟨none,0,0⟩,.int .i64 0,.int .u64 0].toArray fun x5=>StN x5 4 (zIr r s) <| Ld x5 Value.bool fun t13=>Ite t13
    (Ld (x5.add 1) Sl.val fun t16=>jh.call t16 fun t17x0 t17x1=>Ite (!t17x1) (Q 110) (qC.s1 Q (some ⟨rb,0,none⟩) ⟨o3,0,none⟩ t17x0)) (qC.s1 Q (some ⟨rb,0,none⟩) ⟨o3,0,none⟩ 0)):=fun r s A hr hrd=>by
  subst hr
  refine zR fun x5=>?_
  refine qX (b:=x5) (l':=zBv (xV n M (qV X) o.key) s) ?_
  refine yD (b:=x5) (x:=(xV n M (qV X) o.key).has) ?_
  refine zH (fun hb=>?_) fun hb=>?_
  ·refine yD (b:=x5) (x:=s) ?_
   refine fun w hw=>zJZ (hrd w hw.tail) ?_
   refine hg hw ?_
   clear hw w
   refine zH (fun hc=>?_) fun hc=>?_
   ·have hc':(xV n M (qV X) o.key).val.length ≠ 8:=by simpa using hc
    have e:zFH n M (qV X) o.key o.n = (qV X,110):=by unfold zFH; rw [if_pos ⟨hb,hc'⟩]
    rw [e] at h
    exact zC (h X rfl hX)
   ·have hc':(xV n M (qV X) o.key).val.length = 8:=by simpa using hc
    rw [if_pos hc']
    refine zC (Δ:=blk o3 (.cells (opF (o,osl)).toArray qw (0,0))::zAI rb st mb os X O (ze st n M::Γ)) ?_
    refine sum _ A (zLo _).1 (zLo _).2 (fun h5=>h5.2 hc') ?_
    rw [if_pos hb]; rfl
  ·refine zC (Δ:=blk o3 (.cells (opF (o,osl)).toArray qw (0,0))::zAI rb st mb os X O (ze st n M::Γ)) ?_
   refine sum _ A (by omega) (by omega) (fun h5=>by rw [hb] at h5; exact absurd h5.1 (by simp)) ?_
   rw [hb]; rfl
 refine zC (Δ:=zAI rb st mb os X O (ze st n M::blk o3 (.cells (opF (o,osl)).toArray qw (0,0))::Γ)) ?_
 refine zHH hk hX (fun r s hm hok hrd=>?_) fun hm s hok=>?_
 ·refine fun w hw=>?_
  refine hg (show Holds B (pur True::_) w from Holds.pur.2 ⟨trivial,hw⟩) ?_
  clear hw w
  refine zC (Δ:=pur True::blk o3 (.cells (opF (o,osl)).toArray qw (0,0))::zAI rb st mb os X O (ze st n M::Γ)) ?_
  refine rest r s _ ?_ fun w hw=>hrd w hw.drops
  unfold xV; rw [hmg,hm]; rfl
 ·refine zC (Δ:=Bytes yO s (vo n M (bs o.key)).val::blk o3 (.cells (opF (o,osl)).toArray qw (0,0))::zAI rb st mb os X O (ze st n M::Γ)) ?_
  refine rest _ s _ ?_ fun w hw=>zJa hw
  unfold xV; rw [hmg,hm]; rfl
theorem zMc {a b:Sl} {xs ys:List UInt8} {q:Bool→K} (ha:∀ w,Holds B Γ w→RdB w a xs) (hb:∀ w,Holds B Γ w→RdB w b ys) (h:HG B Γ (q (decide (xs = ys)))):HG B Γ (bytes_Equal.call a b q):=fun w hw=>by
 refine zLV _ _ _ _ ?_
 unfold bytes_Equal
 refine zVK (by kernel_rfl) (ha w hw) ?_
 refine zVK (by kernel_rfl) (hb w hw) ?_
 have e:((bs xs).toList == (bs ys).toList) = decide (xs = ys):=by rw [uU,uU]; by_cases h:xs = ys <;> simp [h]
 show q ((bs xs).toList == (bs ys).toList) w
 rw [e]
 exact h w hw
theorem zUE {x:(Bool×List UInt8)×Sl} {q:K} (h:HG B (Sep.stars ((O++[x]).map oB)::Γ) q):HG B (oB x::Sep.stars (O.map oB)::Γ) q:=by
 have:=zAG (F:=oB) (A:=O) (C:=[]) (x:=x) h
 rwa [List.append_nil] at this
theorem zNJ {os':Sl} {x:(Bool×List UInt8)×Sl} {q:K} (h:HG B (zAI rb st mb os' X (O++[x]) Γ) q) :
  HG B (oB x::Sep.stars (O.map oB)::SlC qH 2 os' (O.flatMap oF++oF x)::blk rb (.cells [.pointer (some ⟨st,0,none⟩),.map (some mb),os'.val].toArray zAj (0,0))::xM xU wV mb X::Sep.stars (X.map wB)::Γ) q:=by
 refine zUE ?_
 have e:O.flatMap oF++oF x = (O++[x]).flatMap oF:=by simp
 rw [e]
 exact zC h
theorem zRX {Q:Int→K} {o:OpM} {osl:Sl} (ho:o.ok) (hX:∀ p ∈ X,p.2.1.ok) (hO:O.length < 1000000) (hv:∀ w,Holds B Γ w→RdB w osl o.val)
  (h:∀ os' X' O',qV X' = (stepW n M (qV X) (O.map Prod.fst) o).1→O'.map Prod.fst = (stepW n M (qV X) (O.map Prod.fst) o).2.1→(∀ p ∈ X',p.2.1.ok)→HG B (zAI rb st mb os' X' O' (ze st n M::Γ)) (Q (stepW n M (qV X) (O.map Prod.fst) o).2.2)) :
  HG B (zAI rb st mb os X O (ze st n M::Γ)) (yF.call (some ⟨rb,0,none⟩) (opF (o,osl)).toArray Q):=fun w hw=>by
 refine zJV _ _ _ _ ?_
 refine hg hw ?_
 clear hw w
 have hk:=ho.1
 have hvl:=ho.2.1
 have hmg:y9 o.key (qV X) = (y9 o.key X).map (·.1):=zE9 _ _ _
 unfold yF
 refine zR fun o3=>?_
 refine yD (b:=o3) (x:=bs o.key) ?_
 have rest:∀ (r:Rec) (s:Sl) (A:zB),r = xV n M (qV X) o.key→r.ok→(∀ w,Holds B (A::blk o3 (.cells (opF (o,osl)).toArray qw (0,0))::zAI rb st mb os X O (ze st n M::Γ)) w→RdB w s r.val) →
   HG B (A::blk o3 (.cells (opF (o,osl)).toArray qw (0,0))::zAI rb st mb os X O (ze st n M::Γ)) ((fun t9=>New qA [.bool false,Sl.val ⟨none,0,0⟩,.int .i64 0,.int .u64 0].toArray fun x5=>StN x5 4 t9<|
 Ld (⟨o3,0,none⟩:Addr) (Value.int .i64) fun t11=>
 Ite (decide (t11 = 1))
  (Dr <| yZ fun S=>
  Nn (some ⟨rb,0,none⟩) fun t16=>
  LdS S (t16.add 2) Sl.val fun t18=>
  LdS S x5 Value.bool fun t20=>
  LdS S (x5.add 1) Sl.val fun t22=>
  xu.call t22 fun t23=>
  Sv S<|
  Bld #[(.bool false),(Sl.val ⟨none,0,0⟩)] (fun i=>some (i * 2,2)) [(0,(.agg #[(.bool t20),(Sl.val t23)]))] fun ct25=>
  New qH ct25 fun t25=>
  Sv S<|
  Do Tryz.prog (Builtin.append_ #[zB0,zB0] zB0 #[(Sl.val t18),(Sl.val (Sl.mk (some t25) 1 1))]) Sl.val fun t26=>
  St (t16.add 2) (Sl.val t26)<|
  yF.s1 Q)
  (Ite (decide (t11 = 7))
   (Dr <| yZ fun S=>
   Nn (some ⟨rb,0,none⟩) fun t33=>
   LdS S (t33.add 2) Sl.val fun t35=>
   LdS S ((⟨o3,0,none⟩:Addr).add 2) Sl.val fun t37=>
   xu.call t37 fun t38=>
   Sv S<|
   Bld #[(.bool false),(Sl.val ⟨none,0,0⟩)] (fun i=>some (i * 2,2)) [(0,(.agg #[(.bool true),(Sl.val t38)]))] fun ct40=>
   New qH ct40 fun t40=>
   Sv S<|
   Do Tryz.prog (Builtin.append_ #[zB0,zB0] zB0 #[(Sl.val t35),(Sl.val (Sl.mk (some t40) 1 1))]) Sl.val fun t41=>
   St (t33.add 2) (Sl.val t41)<|
   yF.s1 Q)
   (Ite (decide (t11 = 2))
    (Ld ((⟨o3,0,none⟩:Addr).add 1) Value.string fun t48=>
    Ld ((⟨o3,0,none⟩:Addr).add 2) Sl.val fun t50=>
    jc.call (some ⟨rb,0,none⟩) t48 true t50<|
    yF.s1 Q)
    (Ite (decide (t11 = 3))
     (Ld ((⟨o3,0,none⟩:Addr).add 1) Value.string fun t56=>
     jc.call (some ⟨rb,0,none⟩) t56 false (Sl.mk none 0 0)<|
     yF.s1 Q)
     (Ite (decide (t11 = 4))
      (Ld x5 Value.bool fun t61=>
      Ite (!t61)
       (yF.s2 Q true)
       (Ld (x5.add 1) Sl.val fun t65=>
       Ld ((⟨o3,0,none⟩:Addr).add 2) Sl.val fun t67=>
       bytes_Equal.call t65 t67 fun t68=>
       yF.s2 Q (!t68)))
      (Ite (decide (t11 = 5))
       (Ld x5 Value.bool fun t74=>
       Ite t74
        (Q 110)
        (yF.s1 Q))
       (Ite (decide (t11 = 6))
        (LdN (⟨o3,0,none⟩:Addr) 4 fun t78=>
        qC.call (some ⟨rb,0,none⟩) t78 fun t79=>
        Q t79)
        (yF.s1 Q)))))))) (zIr r s)):=fun r s A hr hok hrd=>by
  subst hr
  dsimp only
  refine zR fun x5=>?_
  refine qX (b:=x5) (l':=zBv (xV n M (qV X) o.key) s) ?_
  refine yD (b:=o3) (x:=o.kind) ?_
  refine yS os fun a1 a2 a3 a4=>?_
  rw [zn _ 2 zIA] at a1
  refine zH (fun hb=>?_) fun hb1=>?_
  ·have hb':o.kind = 1:=by simpa using hb
   have e:stepW n M (qV X) (O.map Prod.fst) o = (qV X,O.map Prod.fst++[((xV n M (qV X) o.key).has,(xV n M (qV X) o.key).val)],0):=by unfold stepW; rw [if_pos hb']
   rw [e] at h
   refine vk ?_
   refine zMR ?_
   refine vg ?_
   refine u6 (b:=rb) (x:=os) ?_
   refine u6 (b:=x5) (x:=(xV n M (qV X) o.key).has) ?_
   refine u6 (b:=x5) (x:=s) ?_
   refine zBW (fun w hw=>hrd w hw.tail) hok.2.2 fun s' _=>?_
   refine zBC ?_
   refine zBp (cs:=oF (((xV n M (qV X) o.key).has,(xV n M (qV X) o.key).val),s')) ?_
   refine zR fun t=>?_
   refine zBC ?_
   refine xR (esz:=2) (s:=os) (x:=⟨some ⟨t,0,none⟩,1,1⟩) (us:=oF (((xV n M (qV X) o.key).has,(xV n M (qV X) o.key).val),s')) (zAX rfl) (by simp [oF,yX]) (by simp only; omega) fun os' hos'=>?_
   refine zBY (b:=rb) ?_
   unfold yF.s1
   refine zC (Δ:=oB (((xV n M (qV X) o.key).has,(xV n M (qV X) o.key).val),s')::Sep.stars (O.map oB)::SlC qH 2 os' (O.flatMap oF++oF (((xV n M (qV X) o.key).has,(xV n M (qV X) o.key).val),s'))::blk rb (.cells [.pointer (some ⟨st,0,none⟩),.map (some mb),os'.val].toArray zAj (0,0))::xM xU wV mb X::Sep.stars (X.map wB)::ze st n M::Γ) ?_
   refine zNJ ?_
   exact h os' X _ rfl (by simp) hX
  have hb1':¬ o.kind = 1:=by simpa using hb1
  refine zH (fun hb=>?_) fun hb7=>?_
  ·have hb':o.kind = 7:=by simpa using hb
   have e:stepW n M (qV X) (O.map Prod.fst) o = (qV X,O.map Prod.fst++[(true,o.val)],0):=by unfold stepW; rw [if_neg hb1',if_pos hb']
   rw [e] at h
   refine vk ?_
   refine zMR ?_
   refine vg ?_
   refine u6 (b:=rb) (x:=os) ?_
   refine u6 (b:=o3) (x:=osl) ?_
   refine zBW (fun w hw=>hv w hw.drops) hvl fun s' _=>?_
   refine zBC ?_
   refine zBp (cs:=oF ((true,o.val),s')) ?_
   refine zR fun t=>?_
   refine zBC ?_
   refine xR (esz:=2) (s:=os) (x:=⟨some ⟨t,0,none⟩,1,1⟩) (us:=oF ((true,o.val),s')) (zAX rfl) (by simp [oF,yX]) (by simp only; omega) fun os' hos'=>?_
   refine zBY (b:=rb) ?_
   unfold yF.s1
   refine zC (Δ:=oB ((true,o.val),s')::Sep.stars (O.map oB)::SlC qH 2 os' (O.flatMap oF++oF ((true,o.val),s'))::blk rb (.cells [.pointer (some ⟨st,0,none⟩),.map (some mb),os'.val].toArray zAj (0,0))::xM xU wV mb X::Sep.stars (X.map wB)::ze st n M::Γ) ?_
   refine zNJ ?_
   exact h os' X _ rfl (by simp) hX
  have hb7':¬ o.kind = 7:=by simpa using hb7
  refine zH (fun hb=>?_) fun hb2=>?_
  ·have hb':o.kind = 2:=by simpa using hb
   have e:stepW n M (qV X) (O.map Prod.fst) o = (setW n M (qV X) o.key true o.val,O.map Prod.fst,0):=by unfold stepW; rw [if_neg hb1',if_neg hb7',if_pos hb']
   rw [e] at h
   refine yD (b:=o3) (x:=bs o.key) ?_
   refine yD (b:=o3) (x:=osl) ?_
   refine zC (Δ:=zAI rb st mb os X O (ze st n M::Γ)) ?_
   refine zJb hk hX hvl (fun w hw=>hv w hw.drops) fun s hok=>?_
   exact h os _ O zI0 rfl (zKu hX hok)
  have hb2':¬ o.kind = 2:=by simpa using hb2
  refine zH (fun hb=>?_) fun hb3=>?_
  ·have hb':o.kind = 3:=by simpa using hb
   have e:stepW n M (qV X) (O.map Prod.fst) o = (setW n M (qV X) o.key false [],O.map Prod.fst,0):=by unfold stepW; rw [if_neg hb1',if_neg hb7',if_neg hb2',if_pos hb']
   rw [e] at h
   refine yD (b:=o3) (x:=bs o.key) ?_
   refine zC (Δ:=zAI rb st mb os X O (ze st n M::Γ)) ?_
   refine zJb (val:=[]) hk hX (by simp) (fun w hw=>RdC.none') fun s hok=>?_
   exact h os _ O zI0 rfl (zKu hX hok)
  have hb3':¬ o.kind = 3:=by simpa using hb3
  refine zH (fun hb=>?_) fun hb4=>?_
  ·have hb':o.kind = 4:=by simpa using hb
   have e:stepW n M (qV X) (O.map Prod.fst) o = (qV X,O.map Prod.fst,if (xV n M (qV X) o.key).has = true∧(xV n M (qV X) o.key).val = o.val then 0 else 110):=by unfold stepW; rw [if_neg hb1',if_neg hb7',if_neg hb2',if_neg hb3',if_pos hb']
   rw [e] at h
   have fin:=h os X O rfl rfl hX
   refine yD (b:=x5) (x:=(xV n M (qV X) o.key).has) ?_
   refine zH (fun hc=>?_) fun hc=>?_
   ·have hc':(xV n M (qV X) o.key).has = false:=by simpa using hc
    rw [if_neg (by rw [hc']; simp)] at fin
    unfold yF.s2
    refine s_t ?_
    exact zC fin
   ·have hc':(xV n M (qV X) o.key).has = true:=by simpa using hc
    refine yD (b:=x5) (x:=s) ?_
    refine yD (b:=o3) (x:=osl) ?_
    refine zMc (fun w hw=>hrd w hw.tail) (fun w hw=>hv w hw.drops) ?_
    unfold yF.s2
    refine zH (fun hd=>?_) fun hd=>?_
    ·have hd':¬ (xV n M (qV X) o.key).val = o.val:=by simpa using hd
     rw [if_neg fun x=>hd' x.2] at fin
     exact zC fin
    ·have hd':(xV n M (qV X) o.key).val = o.val:=by simpa using hd
     rw [if_pos ⟨hc',hd'⟩] at fin
     exact zC fin
  have hb4':¬ o.kind = 4:=by simpa using hb4
  refine zH (fun hb=>?_) fun hb5=>?_
  ·have hb':o.kind = 5:=by simpa using hb
   have e:stepW n M (qV X) (O.map Prod.fst) o = (qV X,O.map Prod.fst,if (xV n M (qV X) o.key).has then 110 else 0):=by unfold stepW; rw [if_neg hb1',if_neg hb7',if_neg hb2',if_neg hb3',if_neg hb4',if_pos hb']
   rw [e] at h
   have fin:=h os X O rfl rfl hX
   refine yD (b:=x5) (x:=(xV n M (qV X) o.key).has) ?_
   refine zH (fun hc=>?_) fun hc=>?_
   ·simp only [hc,if_true] at fin
    exact zC fin
   ·simp only [hc,Bool.false_eq_true,if_false] at fin
    exact zC fin
  have hb5':¬ o.kind = 5:=by simpa using hb5
  refine zH (fun hb=>?_) fun hb6=>?_
  ·have hb':o.kind = 6:=by simpa using hb
   have e:stepW n M (qV X) (O.map Prod.fst) o = ((zFH n M (qV X) o.key o.n).1,O.map Prod.fst,(zFH n M (qV X) o.key o.n).2):=by unfold stepW; rw [if_neg hb1',if_neg hb7',if_neg hb2',if_neg hb3',if_neg hb4',if_neg hb5',if_pos hb']
   rw [e] at h
   refine qW (b:=o3) (l':=opF (o,osl)) ?_
   refine zC (Δ:=zAI rb st mb os X O (ze st n M::Γ)) ?_
   exact zUD ho hX fun X' h1 h2=>h os X' O h1 rfl h2
  ·have hb6':¬ o.kind = 6:=by simpa using hb6
   have e:stepW n M (qV X) (O.map Prod.fst) o = (qV X,O.map Prod.fst,0):=by unfold stepW; rw [if_neg hb1',if_neg hb7',if_neg hb2',if_neg hb3',if_neg hb4',if_neg hb5',if_neg hb6']
   rw [e] at h
   exact zC (h os X O rfl rfl hX)
 refine zC (Δ:=zAI rb st mb os X O (ze st n M::blk o3 (.cells (opF (o,osl)).toArray qw (0,0))::Γ)) ?_
 refine zHH hk hX (fun r s hm hok hrd=>?_) fun hm s hok=>?_
 ·refine fun w hw=>?_
  refine hg (show Holds B (pur True::_) w from Holds.pur.2 ⟨trivial,hw⟩) ?_
  clear hw w
  refine zC (Δ:=pur True::blk o3 (.cells (opF (o,osl)).toArray qw (0,0))::zAI rb st mb os X O (ze st n M::Γ)) ?_
  refine rest r s _ ?_ hok fun w hw=>hrd w hw.drops
  unfold xV; rw [hmg,hm]; rfl
 ·refine zC (Δ:=Bytes yO s (vo n M (bs o.key)).val::blk o3 (.cells (opF (o,osl)).toArray qw (0,0))::zAI rb st mb os X O (ze st n M::Γ)) ?_
  refine rest _ s _ ?_ hok fun w hw=>zJa hw
  unfold xV; rw [hmg,hm]; rfl
end
end
section
open Go Go.Sep Go.Sep.Bt
def zZa (t:TxX):Prop:=(∀ k ∈ t.writes,k.length < 1000000000000)∧(∀ x ∈ t.ops,x.1.ok)∧t.ops.length < 1000000∧t.writes.length < 1000000∧t.reads.length < 1000000∧∀ k ∈ t.reads,k.length < 1000000000000
def zEZ (n:Nat) (M:yY) (to:Int):List (List UInt8)→WM→WM×Int
 | [],W=>(W,0)
 | k::ks,W=>if (xV n M W k).cnt = 18446744073709551615 then (W,111) else zEZ n M to ks (vL k { xV n M W k with home:=to,cnt:=(xV n M W k).cnt + 1 } W)
theorem zFd {n:Nat} {M:yY} {to:Int} {k:List UInt8} {ks:List (List UInt8)} {W:WM}:zEZ n M to (k::ks) W = if (xV n M W k).cnt = 18446744073709551615 then (W,111) else zEZ n M to ks (vL k { xV n M W k with home:=to,cnt:=(xV n M W k).cnt + 1 } W):=rfl
theorem zNK {n:Nat} {M:yY} {to:Int} {W:WM}:zEZ n M to [] W = (W,0):=rfl
def zFI (n:Nat) (M:yY):List OpX→WM→OM→WM×OM×Int
 | [],W,O=>(W,O,0)
 | x::xs,W,O=>if (stepW n M W O x.1).2.2 ≠ 0 then stepW n M W O x.1 else zFI n M xs (stepW n M W O x.1).1 (stepW n M W O x.1).2.1
def jJ (n:Nat) (M:yY) (t:TxX):WM×OM×Int :=
 if t.kind = 2 then ((zEZ n M t.to t.writes []).1,[],(zEZ n M t.to t.writes []).2) else zFI n M t.ops [] []
section
variable {B:World} {Γ Δ:List zB} {rb st mb n:Nat} {os:Sl} {X:WX} {O:OX} {M:yY} {k:List UInt8}
theorem zHI {r r':Rec} {s:Sl} (hm:y9 k X = some (r,s)) (hv:r'.val = r.val):(vL k (r',s) X).map wB = X.map wB:=by
 rcases zE7 k X with ⟨h1,_⟩ | ⟨j,x,hj,h0,_,h1,h2,_⟩
 ·rw [h1] at hm; cases hm
 ·rw [h1] at hm
  injection hm with hm
  subst hm
  rw [h2,List.map_set]
  apply List.ext_getElem?
  intro i
  rw [List.getElem?_set]
  split
  ·rename_i h3
   subst h3
   simp only [List.getElem?_map,h0,Option.map_some,List.length_map,hj,if_true]
   show some (Bytes yO s r'.val) = some (Bytes yO s r.val)
   rw [hv]
  ·rfl
theorem zRY {Q:Int→K} {t:TxX} (hX:∀ p ∈ X,p.2.1.ok) (htx:zZa t) (ht:∀ w,Holds B Γ w→RdC w t.ws 1 (t.writes.map xU))
  (h:∀ X',qV X' = (zEZ n M t.to t.writes (qV X)).1→(∀ p ∈ X',p.2.1.ok)→HG B (zAI rb st mb os X' O (ze st n M::Γ)) (Q (zEZ n M t.to t.writes (qV X)).2)) :
  HG B (zAI rb st mb os X O (ze st n M::Γ)) (jC.call (some ⟨rb,0,none⟩) (txL t).toArray Q):=fun w hw=>by
 refine zJU _ _ _ _ ?_
 have hlen:t.ws.n = t.writes.length:=by have:=(ht w hw.drops).len; simpa using this.symm
 refine hg hw ?_
 clear hw w
 unfold jC
 refine zR fun t3=>?_
 refine yD (b:=t3) (x:=t.ws) ?_
 refine zC (Δ:=zAI rb st mb os X O (ze st n M::blk t3 (.cells (txL t).toArray yg (0,0))::Γ)) ?_
 refine vQ (α:=Int) (ι:=WX×Nat) (fun x i=>x = (i.2:Int)∧i.2 ≤ t.writes.length∧(∀ p ∈ i.1,p.2.1.ok)∧zEZ n M t.to (t.writes.drop i.2) (qV i.1) = zEZ n M t.to t.writes (qV X))
  (fun x i=>zAI rb st mb os i.1 O (ze st n M::blk t3 (.cells (txL t).toArray yg (0,0))::Γ)) (fun x i=>t.writes.length - i.2) (X,0) ⟨rfl,Nat.zero_le _,hX,rfl⟩ ?_
 rintro k' _ ⟨X1,j⟩ ⟨rfl,hj,hX1,he⟩ hk'
 simp only at hj hX1 he hk' ⊢
 unfold jC.b1
 refine zH (fun hb=>?_) fun hb=>?_
 ·have hjl:j < t.writes.length:=by simp only [decide_eq_true_eq] at hb; omega
  have hd:t.writes.drop j = t.writes[j]::t.writes.drop (j + 1):=List.drop_eq_getElem_cons hjl
  have hkl:t.writes[j].length < 1000000000000:=htx.1 _ (List.getElem_mem hjl)
  have hge:t.writes[j]? = some t.writes[j]:=List.getElem?_eq_getElem hjl
  rw [hd] at he
  generalize t.writes[j] = key at he hkl hge
  refine zAa (L:=t.writes) (fun w hw=>ht w hw.drops) hge ?_
  have hmg:y9 key (qV X1) = (y9 key X1).map (·.1):=zE9 _ _ _
  rw [zFd] at he
  have rest:∀ (r:Rec) (s:Sl) (A:zB),r = xV n M (qV X1) key→r.ok→(∀ r':Rec,r'.val = r.val→∀ q:K,HG B (Sep.stars ((vL key (r',s) X1).map wB)::blk rb (.cells [.pointer (some ⟨st,0,none⟩),.map (some mb),os.val].toArray zAj (0,0))::xM xU wV mb (vL key (r',s) X1)::SlC qH 2 os (O.flatMap oF)::Sep.stars (O.map oB)::ze st n M::blk t3 (.cells (txL t).toArray yg (0,0))::Γ) q→HG B (A::Sep.stars (X1.map wB)::blk rb (.cells [.pointer (some ⟨st,0,none⟩),.map (some mb),os.val].toArray zAj (0,0))::xM xU wV mb (vL key (r',s) X1)::SlC qH 2 os (O.flatMap oF)::Sep.stars (O.map oB)::ze st n M::blk t3 (.cells (txL t).toArray yg (0,0))::Γ) q) →
    HG B (A::zAI rb st mb os X1 O (ze st n M::blk t3 (.cells (txL t).toArray yg (0,0))::Γ)) ((fun t17=>New qA [.bool false,Sl.val ⟨none,0,0⟩,.int .i64 0,.int .u64 0].toArray fun x7=>
  StN x7 4 t17<|
  Ld (x7.add 3) (Value.int .u64) fun t19=>
  Ite (decide (t19 = 18446744073709551615))
   (Q 111)
   (Ld ((⟨t3,0,none⟩:Addr).add 4) (Value.int .i64) fun t22=>
   St (x7.add 2) (.int .i64 t22)<|
   Ld (x7.add 3) (Value.int .u64) fun t25=>
   Ar (IntKind.wrap .u64 (t25 + 1)) fun t26=>
   St (x7.add 3) (.int .u64 t26)<|
   Dr<|
   Nn (some ⟨rb,0,none⟩) fun t29=>
   Ld (t29.add 1) Value.map fun t31=>
   LdN x7 4 fun t33=>
   DoU Tryz.prog (Instr.mapUpdate uN (.map t31) (.string (bs key)) (.agg t33))<|
   Ar (IntKind.wrap .i64 ((j:Int) + 1)) fun t34=>
   k' t34)) (zIr r s)):=fun r s A hr hok hA=>by
   subst hr
   dsimp only
   refine zR fun x7=>?_
   refine qX (b:=x7) (l':=zBv (xV n M (qV X1) key) s) ?_
   refine yD (b:=x7) (x:=(xV n M (qV X1) key).cnt) ?_
   refine zH (fun hc=>?_) fun hc=>?_
   ·rw [if_pos (by simpa using hc)] at he
    have:=h X1 (by rw [← he]) hX1
    rw [← he] at this
    exact zC this
   ·have hc':¬ (xV n M (qV X1) key).cnt = 18446744073709551615:=by simpa using hc
    rw [if_neg hc'] at he
    refine yD (b:=t3) (x:=t.to) ?_
    refine zBY (b:=x7) ?_
    refine yD (b:=x7) (x:=(xV n M (qV X1) key).cnt) ?_
    obtain ⟨o1,o2,o3⟩:=hok
    refine zBK (zDg (by omega) (by omega)) ?_
    refine zBY (b:=x7) ?_
    refine vk ?_
    refine vg ?_
    refine yD (b:=rb) (x:=some mb) ?_
    refine qW (b:=x7) (l':=zBv { xV n M (qV X1) key with home:=t.to,cnt:=(xV n M (qV X1) key).cnt + 1 } s) ?_
    refine zVc (b:=mb) (enc:=xU) (cV:=wV) (v:=(({ xV n M (qV X1) key with home:=t.to,cnt:=(xV n M (qV X1) key).cnt + 1 }:Rec),s)) (cG:=Value.agg) rfl zO0 zFF ?_
    have hwl:=htx.2.2.2.1
    refine qU ?_
    refine zC (Δ:=A::Sep.stars (X1.map wB)::blk rb (.cells [.pointer (some ⟨st,0,none⟩),.map (some mb),os.val].toArray zAj (0,0))::xM xU wV mb (vL key ({ xV n M (qV X1) key with home:=t.to,cnt:=(xV n M (qV X1) key).cnt + 1 },s) X1)::SlC qH 2 os (O.flatMap oF)::Sep.stars (O.map oB)::ze st n M::blk t3 (.cells (txL t).toArray yg (0,0))::Γ) ?_
    refine hA { xV n M (qV X1) key with home:=t.to,cnt:=(xV n M (qV X1) key).cnt + 1 } rfl _ ?_
    refine zC (Δ:=zAI rb st mb os (vL key ({ xV n M (qV X1) key with home:=t.to,cnt:=(xV n M (qV X1) key).cnt + 1 },s) X1) O (ze st n M::blk t3 (.cells (txL t).toArray yg (0,0))::Γ)) ?_
    refine hk' _ (vL key ({ xV n M (qV X1) key with home:=t.to,cnt:=(xV n M (qV X1) key).cnt + 1 },s) X1,j + 1) ⟨by simp,hjl,zKu hX1 ⟨by simp only; omega,by simp only; omega,o3⟩,?_⟩ (by simp only; omega)
    simp only
    rw [zI0]
    exact he
  refine zHH hkl hX1 (fun r s hm hok hrd=>?_) fun hm s hok=>?_
  ·refine fun w hw=>?_
   refine hg (show Holds B (pur True::_) w from Holds.pur.2 ⟨trivial,hw⟩) ?_
   clear hw w
   refine rest r s _ (by unfold xV; rw [hmg,hm]; rfl) hok fun r' hr' q hq=>?_
   rw [zHI hm hr'] at hq
   exact zC hq
  ·refine rest _ s _ (by unfold xV; rw [hmg,hm]; rfl) hok fun r' hr' q hq=>?_
   rw [show Bytes yO s (vo n M (bs key)).val = wB (key,(r',s)) by show _ = Bytes yO s r'.val; rw [hr']]
   exact zVd hq
 ·have hjl:j = t.writes.length:=by simp only [decide_eq_false_iff_not] at hb; omega
  rw [hjl,List.drop_length,zNK] at he
  have:=h X1 (by rw [← he]) hX1
  rw [← he] at this
  exact zC this
end
def zHb (x:List UInt8×(Rec×Sl)):List Value:=xU x.1::zBv x.2.1 x.2.2
theorem zLp (x:List UInt8×(Rec×Sl)):(zHb x).length = 5:=rfl
def zGj {ν:Type} (W:List (List UInt8×ν)):List (List UInt8×ν):=W.mergeSort fun p q=>decide (p.1 ≤ q.1)
theorem zRZ {ν:Type} (W:List (List UInt8×ν)):(zGj W).map Prod.fst = zCl (W.map Prod.fst):=List.map_mergeSort (fun a _ b _=>rfl)
theorem zUF (X:WX):qV (zGj X) = zGj (qV X):=List.map_mergeSort (fun a _ b _=>rfl)
theorem zDd {ν:Type} (W:List (List UInt8×ν)):(zGj W).Perm W:=List.mergeSort_perm _ _
abbrev zAD {ν:Type} (W:List (List UInt8×ν)):Prop:=(W.map Prod.fst).Nodup
theorem zJc {ν:Type} {W:List (List UInt8×ν)} {k:List UInt8} {v:ν} (h:zAD W):zAD (vL k v W):=by
 unfold zAD
 rw [zFB]
 split
 ·exact h
 ·rename_i hk
  refine List.nodup_append.2 ⟨h,by simp,fun a ha b hb=>?_⟩
  rw [List.mem_singleton.1 hb]
  exact fun e=>hk (e ▸ ha)
theorem zVz {ν:Type} {W:List (List UInt8×ν)} {k:List UInt8} {v:ν} (h:zAD W) (hm:(k,v) ∈ W):y9 k W = some v:=by
 induction W with
 | nil=>cases hm
 | cons p W ih=>
  have h1:=List.nodup_cons.1 (show (p.1::W.map Prod.fst).Nodup from h)
  unfold y9
  rcases List.mem_cons.1 hm with rfl | hm
  ·rw [if_pos rfl]
  ·rw [if_neg (show ¬ k = p.1 from fun e=>h1.1 (by rw [← e]; exact List.mem_map.2 ⟨_,hm,rfl⟩))]
   exact ih h1.2 hm
theorem zNL {n:Nat} {M:yY} {W:WM} {O:OM} {o:OpM} (h:zAD W):zAD (stepW n M W O o).1:=by
 unfold stepW setW
 repeat' split
 all_goals first | exact h | exact zJc h | skip
 unfold zFH setW
 repeat' split
 all_goals first | exact h | exact zJc h
theorem zV0 {n:Nat} {M:yY} {W:WM} {O:OM} {o:OpM}:(stepW n M W O o).2.1.length ≤ O.length + 1:=by
 unfold stepW
 repeat' split
 all_goals simp
theorem zQT {n:Nat} {M:yY}:∀ {xs:List OpX} {W:WM} {O:OM},zAD W→zAD (zFI n M xs W O).1
 | [],_,_,h=>h
 | x::xs,W,O,h=>by
  unfold zFI
  split
  ·exact zNL h
  ·exact zQT (zNL h)
theorem zNM {n:Nat} {M:yY} {to:Int}:∀ {ks:List (List UInt8)} {W:WM},zAD W→zAD (zEZ n M to ks W).1
 | [],_,h=>h
 | k::ks,W,h=>by
  rw [zFd]
  split
  ·exact h
  ·exact zNM (zJc h)
theorem zV1 {n:Nat} {M:yY} {t:TxX}:zAD (jJ n M t).1:=by
 unfold jJ
 split
 ·exact zNM (by simp [zAD])
 ·exact zQT (by simp [zAD])
theorem zFJ {n:Nat} {M:yY} {x:OpX} {xs:List OpX} {W:WM} {O:OM}:zFI n M (x::xs) W O = if (stepW n M W O x.1).2.2 ≠ 0 then stepW n M W O x.1 else zFI n M xs (stepW n M W O x.1).1 (stepW n M W O x.1).2.1:=rfl
theorem zQU {n:Nat} {M:yY} {W:WM} {O:OM}:zFI n M [] W O = (W,O,0):=rfl
section
variable {B:World} {Γ Δ:List zB} {rb st mb n t4:Nat} {os:Sl} {X:WX} {O:OX} {M:yY} {k:List UInt8}
theorem zUG {Q:Array Value→Sl→K} {e:Int} (hX:zAD X) (hXl:X.length ≤ 1000000)
  (hbad:e ≠ 0→HG B Γ (Q #[.int .i64 e,Sl.val ⟨none,0,0⟩] ⟨none,0,0⟩))
  (hgood:e = 0→∀ rows,HG B (SlC qH 2 os (O.flatMap oF)::Sep.stars (O.map oB)::SlC xX 5 rows ((zGj X).flatMap zHb)::Sep.stars ((zGj X).map wB)::Γ) (Q #[.int .i64 0,os.val] rows)) :
  HG B (blk t4 (.cells [.int .i64 0,Sl.val ⟨none,0,0⟩].toArray xG (0,0))::zAI rb st mb os X O Γ) (vJ.s1 Q ⟨t4,0,none⟩ ⟨rb,0,none⟩ e):=by
 unfold vJ.s1
 refine zH (fun hb=>?_) fun hb=>?_
 ·refine qX (b:=t4) (l':=[.int .i64 e,Sl.val ⟨none,0,0⟩]) ?_
  refine qW (b:=t4) (l':=[.int .i64 e,Sl.val ⟨none,0,0⟩]) ?_
  exact zC (hbad (by simpa using hb))
 have h0:e = 0:=by simpa using hb
 have hgood:=hgood h0
 refine yD (b:=rb) (x:=some mb) ?_
 refine zQ mb ?_
 refine fun w hw=>zIy hXl hw fun ks w hw=>?_
 refine hg hw ?_
 clear hw w
 rw [← zRZ]
 generalize hR:zGj X = R at *
 have hRm:∀ x ∈ R,y9 x.1 X = some x.2:=fun x hx=>zVz hX (by rw [← hR] at hx; exact (zDd X).subset hx)
 have hRl:R.length ≤ 1000000:=by rw [← hR,(zDd X).length_eq]; exact hXl
 have hperm:(R.map wB).Perm (X.map wB):=by rw [← hR]; exact (zDd X).map _
 refine yS ks fun c1 c2 c3 c4=>?_
 have hkn:ks.n = R.length:=by simpa using c1.symm
 refine fun w hw=>?_
 refine hg (show Holds B (SlC xX 5 ⟨none,0,0⟩ []::_) w from hw.zAk _ _) ?_
 clear hw w
 refine vQ (α:=Sl×Int) (ι:=Nat) (fun x i=>x.2 = (i:Int)∧i ≤ R.length)
  (fun x i=>SlC xX 5 x.1 ((R.take i).flatMap zHb)::SlS ks (R.map Prod.fst)::xM xU wV mb X::blk t4 (.cells [.int .i64 0,Sl.val ⟨none,0,0⟩].toArray xG (0,0))::blk rb (.cells [.pointer (some ⟨st,0,none⟩),.map (some mb),os.val].toArray zAj (0,0))::Sep.stars (X.map wB)::SlC qH 2 os (O.flatMap oF)::Sep.stars (O.map oB)::Γ) (fun x i=>R.length - i) 0 ⟨rfl,Nat.zero_le _⟩ ?_
 rintro k' ⟨rows,jj⟩ j ⟨hj,hjl⟩ hk'
 simp only at hj hjl hk' ⊢
 subst hj
 unfold vJ.b2
 refine yS rows fun d1 d2 d3 d4=>?_
 rw [zn _ 5 zLp,List.length_take,Nat.min_eq_left hjl] at d1
 refine zH (fun hb2=>?_) fun hb2=>?_
 ·have hjl2:j < R.length:=by simp only [decide_eq_true_eq] at hb2; omega
  have hge:(R.map Prod.fst)[j]? = some R[j].1:=by rw [List.getElem?_map,List.getElem?_eq_getElem hjl2]; rfl
  have hmx:=hRm _ (List.getElem_mem hjl2)
  have htk:R.take (j + 1) = R.take j++[R[j]]:=List.take_succ_eq_append_getElem hjl2
  generalize R[j] = x at hge hmx htk
  refine zAa (L:=R.map Prod.fst) (fun w hw=>(yh (s:=ks) hw).1) hge ?_
  refine yD (b:=rb) (x:=some mb) ?_
  refine zXb (b:=mb) (enc:=xU) (cV:=wV) (cG:=Value.agg) (g:=fun x=>zIr x.1 x.2) (z:=zVy) (a:=x.1) (fun _=>rfl) zO0 zFF zTP ?_
  rw [hmx]
  refine zYm (cs:=zHb x) ?_ rfl
  refine zBp (cs:=zHb x) ?_
  refine zOZ (s:=rows) (m:=1) (us:=zHb x) (fun rows' hrows'=>?_)
  refine qU ?_
  have e1:(R.take j).flatMap zHb++zHb x = (R.take (j + 1)).flatMap zHb:=by rw [htk]; simp
  rw [e1]
  exact hk' (rows',(j:Int) + 1) (j + 1) ⟨by simp,hjl2⟩ (by omega)
 ·have hjl2:j = R.length:=by simp only [decide_eq_false_iff_not] at hb2; omega
  refine yD (b:=rb) (x:=os) ?_
  refine qX (b:=t4) (l':=[.int .i64 0,os.val]) ?_
  refine qW (b:=t4) (l':=[.int .i64 0,os.val]) ?_
  rw [hjl2,List.take_length]
  refine zX (Sep.stars (X.map wB)) ?_
  refine fun w hw=>?_
  refine hg (show Holds B (Sep.stars (R.map wB)::_) w from Holds.flat.2 ((Holds.flat.1 hw).perm (hperm.symm.append_right _))) ?_
  exact zC (hgood rows)
theorem zV2 (X:WX):(qV X).map Prod.fst = X.map Prod.fst:=by simp [qV,Function.comp_def]
theorem zLq {ν:Type} (W:List (List UInt8×ν)) (k:List UInt8) (v:ν):(vL k v W).length ≤ W.length + 1:=by
 have h:=congrArg List.length (zFB W k v)
 rw [List.length_map] at h
 rw [h]
 split
 ·simp
 ·simp
theorem zUH {n:Nat} {M:yY} {W:WM} {O:OM} {o:OpM}:(stepW n M W O o).1.length ≤ W.length + 1:=by
 unfold stepW setW
 repeat' split
 all_goals first | exact zLq _ _ _ | (simp only; omega) | skip
 unfold zFH setW
 repeat' split
 all_goals first | exact zLq _ _ _ | (simp only; omega)
theorem zLr {n:Nat} {M:yY}:∀ {xs:List OpX} {W:WM} {O:OM},(zFI n M xs W O).1.length ≤ W.length + xs.length
 | [],_,_=>by simp [zFI]
 | x::xs,W,O=>by
  rw [zFJ]
  have:=zUH (n:=n) (M:=M) (W:=W) (O:=O) (o:=x.1)
  split
  ·simp only [List.length_cons]; omega
  ·have h2:=zLr (n:=n) (M:=M) (xs:=xs) (W:=(stepW n M W O x.1).1) (O:=(stepW n M W O x.1).2.1)
   simp only [List.length_cons]; omega
theorem zJd {n:Nat} {M:yY} {to:Int}:∀ {ks:List (List UInt8)} {W:WM},(zEZ n M to ks W).1.length ≤ W.length + ks.length
 | [],_=>by simp [zEZ]
 | k::ks,W=>by
  rw [zFd]
  split
  ·simp only [List.length_cons]; omega
  ·exact Nat.le_trans zJd (Nat.le_trans (Nat.add_le_add_right (zLq _ _ _) _) (by simp only [List.length_cons]; omega))
theorem zQV {Q:Array Value→Sl→K} {t:TxX} (htx:zZa t) (ht:∀ w,Holds B Γ w→zCs w t)
  (hbad:(jJ n M t).2.2 ≠ 0→HG B (ze st n M::Γ) (Q #[.int .i64 (jJ n M t).2.2,Sl.val ⟨none,0,0⟩] ⟨none,0,0⟩))
  (hgood:(jJ n M t).2.2 = 0→∀ (os:Sl) (O:OX) (rows:Sl) (R:WX),O.map Prod.fst = (jJ n M t).2.1→qV R = zGj (jJ n M t).1→(∀ p ∈ R,p.2.1.ok)→HG B (SlC qH 2 os (O.flatMap oF)::Sep.stars (O.map oB)::SlC xX 5 rows (R.flatMap zHb)::Sep.stars (R.map wB)::ze st n M::Γ) (Q #[.int .i64 0,os.val] rows)) :
  HG B (ze st n M::Γ) (vJ.call (some ⟨st,0,none⟩) (txL t).toArray Q):=fun w hw=>by
 refine zQP _ _ _ _ ?_
 have hon:t.os.n = t.ops.length:=zAb zBL (by omega) (ht w hw.drops).2.2.1
 refine hg hw ?_
 clear hw w
 unfold vJ
 refine zR fun t3=>?_
 refine zR fun t4=>?_
 refine zKs (enc:=xU) (cV:=wV) fun mb=>?_
 refine zR fun rb=>?_
 refine yD (b:=t3) (x:=t.kind) ?_
 refine fun w hw=>?_
 refine hg (show Holds B (Sep.stars (([]:WX).map wB)::_) w from Holds.flat.2 hw) ?_
 clear hw w
 refine fun w hw=>?_
 refine hg (show Holds B (Sep.stars (([]:OX).map oB)::_) w from Holds.flat.2 hw) ?_
 clear hw w
 refine fun w hw=>?_
 refine hg (show Holds B (SlC qH 2 ⟨none,0,0⟩ (([]:OX).flatMap oF)::_) w from hw.zAk _ _) ?_
 clear hw w
 have fin:∀ (os:Sl) (X:WX) (O:OX) (e:Int),qV X = (jJ n M t).1→O.map Prod.fst = (jJ n M t).2.1→e = (jJ n M t).2.2→(∀ p ∈ X,p.2.1.ok)→HG B (blk t4 (.cells [.int .i64 0,Sl.val ⟨none,0,0⟩].toArray xG (0,0))::zAI rb st mb os X O (ze st n M::Γ)) (vJ.s1 Q ⟨t4,0,none⟩ ⟨rb,0,none⟩ e):=fun os X O e h1 h2 h3 h4=>by
  have hko:zAD X:=by unfold zAD; rw [← zV2,h1]; exact zV1
  have hwl:X.length ≤ 1000000:=by
   have e1:X.length = (qV X).length:=by simp
   rw [e1,h1]
   unfold jJ
   have:=htx.2.2
   split
   ·have h5:=zJd (n:=n) (M:=M) (to:=t.to) (ks:=t.writes) (W:=[])
    simp only [List.length_nil] at h5
    simp only; omega
   ·have h5:=zLr (n:=n) (M:=M) (xs:=t.ops) (W:=[]) (O:=[])
    simp only [List.length_nil] at h5
    omega
  refine zUG hko hwl (fun h5=>?_) fun h5 rows=>?_
  ·rw [h3]; exact hbad (by rw [← h3]; exact h5)
  ·refine hgood (by rw [← h3]; exact h5) os O rows (zGj X) h2 (by rw [zUF,h1]) fun p hp=>h4 p ((zDd X).subset hp)
 refine zH (fun hb=>?_) fun hb=>?_
 ·have hk2:t.kind = 2:=by simpa using hb
  have hr:jJ n M t = ((zEZ n M t.to t.writes []).1,[],(zEZ n M t.to t.writes []).2):=by unfold jJ; rw [if_pos hk2]
  refine qW (b:=t3) (l':=txL t) ?_
  refine zC (Δ:=zAI rb st mb ⟨none,0,0⟩ [] [] (ze st n M::blk t4 (.cells [.int .i64 0,Sl.val ⟨none,0,0⟩].toArray xG (0,0))::Γ)) ?_
  refine zRY (by simp) htx (fun w hw=>(ht w hw.tail).2.1) fun X' h1 h2=>?_
  refine zC (Δ:=blk t4 (.cells [.int .i64 0,Sl.val ⟨none,0,0⟩].toArray xG (0,0))::zAI rb st mb ⟨none,0,0⟩ X' [] (ze st n M::Γ)) ?_
  exact fin _ X' [] _ (by rw [hr]; exact h1) (by rw [hr]; rfl) (by rw [hr]; rfl) h2
 ·have hk2:¬ t.kind = 2:=by simpa using hb
  have hr:jJ n M t = zFI n M t.ops [] []:=by unfold jJ; rw [if_neg hk2]
  refine yD (b:=t3) (x:=t.os) ?_
  refine zC (Δ:=zAI rb st mb ⟨none,0,0⟩ [] [] (ze st n M::blk t4 (.cells [.int .i64 0,Sl.val ⟨none,0,0⟩].toArray xG (0,0))::Γ)) ?_
  refine vQ (α:=Int×Int) (ι:=Sl×WX×OX×Nat) (fun x i=>x.1 = 0∧x.2 = (i.2.2.2:Int)∧i.2.2.2 ≤ t.ops.length∧(∀ p ∈ i.2.1,p.2.1.ok)∧i.2.2.1.length ≤ i.2.2.2∧zFI n M (t.ops.drop i.2.2.2) (qV i.2.1) (i.2.2.1.map Prod.fst) = zFI n M t.ops [] [])
   (fun x i=>zAI rb st mb i.1 i.2.1 i.2.2.1 (ze st n M::blk t4 (.cells [.int .i64 0,Sl.val ⟨none,0,0⟩].toArray xG (0,0))::Γ)) (fun x i=>t.ops.length - i.2.2.2) (⟨none,0,0⟩,[],[],0) ⟨rfl,rfl,Nat.zero_le _,by simp,Nat.le_refl _,rfl⟩ ?_
  rintro k' ⟨_,_⟩ ⟨os1,X1,O1,j⟩ ⟨rfl,rfl,hjl,hX1,hO1,he⟩ hk'
  simp only at hjl hX1 hO1 he hk' ⊢
  unfold vJ.b3
  refine zH (fun hb2=>?_) fun hb2=>?_
  ·have hjl2:j < t.ops.length:=by simp only [decide_eq_true_eq] at hb2; omega
   have hge:t.ops[j]? = some t.ops[j]:=List.getElem?_eq_getElem hjl2
   have hmem:t.ops[j] ∈ t.ops:=List.getElem_mem hjl2
   rw [List.drop_eq_getElem_cons hjl2] at he
   generalize t.ops[j] = x at hge hmem he
   obtain ⟨o,osl⟩:=x
   refine zAw opF zBL (fun w hw=>(ht w hw.drops).2.2.1) hge ?_
   refine zR fun o9=>?_
   refine qX (b:=o9) (l':=opF (o,osl)) ?_
   refine qW (b:=o9) (l':=opF (o,osl)) ?_
   refine zC (Δ:=zAI rb st mb os1 X1 O1 (ze st n M::blk t4 (.cells [.int .i64 0,Sl.val ⟨none,0,0⟩].toArray xG (0,0))::Γ)) ?_
   have hol:=htx.2.2.1
   refine zRX (htx.2.1 _ hmem) hX1 (by omega) (fun w hw=>(ht w hw.tail).2.2.2 _ hmem) fun os2 X2 O2 h1 h2 h3=>?_
   rw [zFJ] at he
   refine zH (fun hc=>?_) fun hc=>?_
   ·have hc':(stepW n M (qV X1) (O1.map Prod.fst) o).2.2 ≠ 0:=by simpa using hc
    rw [if_pos hc'] at he
    refine zC (Δ:=blk t4 (.cells [.int .i64 0,Sl.val ⟨none,0,0⟩].toArray xG (0,0))::zAI rb st mb os2 X2 O2 (ze st n M::Γ)) ?_
    exact fin os2 X2 O2 _ (by rw [hr,← he,h1]) (by rw [hr,← he,h2]) (by rw [hr,← he]) h3
   ·have hc':(stepW n M (qV X1) (O1.map Prod.fst) o).2.2 = 0:=by simpa using hc
    rw [if_neg (by simp [hc'])] at he
    refine qU ?_
    rw [hc']
    refine hk' (0,(j:Int) + 1) (os2,X2,O2,j + 1) ⟨rfl,by simp,hjl2,h3,?_,?_⟩ (by simp only; omega)
    ·have e1:=congrArg List.length h2
     have e2:=zV0 (n:=n) (M:=M) (W:=qV X1) (O:=O1.map Prod.fst) (o:=o)
     simp only [List.length_map] at e1 e2
     simp only; omega
    ·simp only
     rw [h1,h2]; exact he
  ·have hjl2:j = t.ops.length:=by simp only [decide_eq_false_iff_not] at hb2; omega
   rw [hjl2,List.drop_length,zQU] at he
   refine zC (Δ:=blk t4 (.cells [.int .i64 0,Sl.val ⟨none,0,0⟩].toArray xG (0,0))::zAI rb st mb os1 X1 O1 (ze st n M::Γ)) ?_
   exact fin os1 X1 O1 _ (by rw [hr,← he]) (by rw [hr,← he]) (by rw [hr,← he]) hX1
end
end
end Go.Proofs.YtdemfamgieonbaaGreat
namespace Go.Sep
section
open Go Go.RowKit
namespace Bt
section
variable {κ:Type} {G:BtT κ} {c:κ→κ→Int} {B:World} {Γ Δ:List zB}
def wv:List G.It→List (Kid G)→List G.It
 | its,[]=>its
 | [],q::_=>q.2
 | x::its,q::ks=>q.2++x::wv its ks
theorem zJ4 (q0:Kid G):∀ (ps:List (G.It×Kid G)),wv (ps.map Prod.fst) (q0::ps.map Prod.snd) = psL q0 ps
 | []=>by simp [wv,psL]
 | (x,q)::ps=>by
  have e:psL q0 ((x,q)::ps) = q0.2++x::psL q ps:=by simp [psL]
  rw [e,← zJ4 q ps]; rfl
def Fit (d:Nat) (its:List G.It) (ks:List (Kid G)):Prop:=match d with
 | 0=>ks = []
 | _ + 1=>ks.length = its.length + 1
def u7 (G:BtT κ):Nat→List (Kid G)→zB
 | 0,_=>Sep.stars []
 | d + 1,ks=>qN G d ks
abbrev zI1 (G:BtT κ) (d b:Nat) (s kd:Sl) (its:List G.It) (ks:List (Kid G)) (Γ:List zB):List zB:=y7 G b s kd::vC G s its::vD G kd (ks.map ptr)::u7 G d ks::Γ
theorem zNN {d m b:Nat} {L:List G.It} {k:K} (h:∀ s kd its ks,Fit d its ks→its.length ≤ 5→(m = 2→its ≠ [])→L = wv its ks→HG B (zI1 G d b s kd its ks Γ) k):HG B (yE G d m b L::Γ) k:=by
 cases d with
 | zero=>
  refine zHC fun s kd h1 h2=>?_
  refine fun w hw=>?_
  refine hg (show Holds B (u7 G 0 []::_) w from Holds.flat.2 hw) ?_
  have:=h s kd L [] rfl h2 h1 (by cases L <;> rfl)
  refine zC (Δ:=y7 G b s kd::vC G s L::vD G kd []::u7 G 0 []::Γ) ?_
  exact this
 | succ d=>
  refine zIp fun s kd q0 ps h1 h2 h3=>?_
  exact h s kd (ps.map Prod.fst) (q0::ps.map Prod.snd) (by simp [Fit]) (by simpa using h2) (fun hm=>by simpa using h1 (by omega)) (by rw [h3,zJ4])
theorem zRa {its:List G.It} {ks:List (Kid G)} (h:ks.length = its.length + 1):∃ (q0:Kid G) (ps:List (G.It×Kid G)),its = ps.map Prod.fst∧ks = q0::ps.map Prod.snd:=by
 cases ks with
 | nil=>simp at h
 | cons q0 ks=>
  refine ⟨q0,its.zip ks,?_,?_⟩
  ·rw [List.map_fst_zip (by simp at h; omega)]
  ·rw [List.map_snd_zip (by simp at h; omega)]
theorem zDi {d m b:Nat} {s kd:Sl} {its:List G.It} {ks:List (Kid G)} {k:K} (hf:Fit d its ks) (hl:its.length ≤ 5) (hm:1 ≤ m→(d = 0∧m = 1)∨its ≠ []) (h:HG B (yE G d m b (wv its ks)::Γ) k):HG B (zI1 G d b s kd its ks Γ) k:=by
 cases d with
 | zero=>
  have hk:ks = []:=hf
  subst hk
  have e:wv its [] = its:=by cases its <;> rfl
  rw [e] at h
  show HG B (y7 G b s kd::vC G s its::vD G kd []::u7 G 0 []::Γ) k
  refine zC (Δ:=y7 G b s kd::vC G s its::vD G kd []::Γ) ?_
  exact zE3 (fun h2=>by
               rcases hm (by omega) with h3 | h3
               ·omega
               ·exact h3) hl h
 | succ d=>
  obtain ⟨q0,ps,rfl,rfl⟩:=zRa hf
  rw [zJ4] at h
  exact zGX (fun h2=>by
               rcases hm h2 with h3 | h3
               ·omega
               ·simpa using h3) (by simpa using hl) h
end
end Bt
end
section
open Go Go.RowKit
namespace Bt
structure BtD (κ:Type) extends BtT κ where
 delIC:Sl→Int→Int→(Sl→K)→K
 delKC:Sl→Int→Int→(Sl→K)→K
 ntakeC:Option Addr→κ→(Array Value→Bool→K)→K
 nlastC:Option Addr→(Array Value→K)→K
 nmendC:Option Addr→Int→K→K
section
variable {κ:Type}
def zFK (G:BtD κ) (Q:K)  (n0_2:Addr) (i1_2:Int) (kid4_2:Addr) (t202_2:Bool):K :=
 Ite t202_2
  (Ld (n0_2.add 1) Sl.val fun t229=>
  Ar (IntKind.wrap .i64 (i1_2 + 1)) fun t231=>
  Idx t229 t231 1 fun t232=>
  Ld t232 Value.pointer fun t233=>
  Dr <| yZ fun S=>
  LdS S kid4_2 Sl.val fun t238=>
  LdS S n0_2 Sl.val fun t242=>
  Idx t242 i1_2 (G.nv + 1) fun t244=>
  vG S t244 (G.nv + 1) fun t245=>
  Bld (G.kz::G.vz).toArray (fun i=>some (i * (G.nv + 1),(G.nv + 1))) [(0,(.agg t245))] fun ct246=>
  New G.tI ct246 fun t246=>
  Sv S<|
  Do G.P (Builtin.append_ #[G.tSI,G.tSI] G.tSI #[(Sl.val t238),(Sl.val (Sl.mk (some t246) 1 1))]) Sl.val fun t247=>
  St kid4_2 (Sl.val t247)<|
  Dr<|
  Nn t233 fun t256=>
  Ld n0_2 Sl.val fun t253=>
  Ld t256 Sl.val fun t258=>
  Idx t258 0 (G.nv + 1) fun t259=>
  LdN t259 (G.nv + 1) fun t260=>
  Idx t253 i1_2 (G.nv + 1) fun t261=>
  StN t261 (G.nv + 1) t260<|
  Ld t256 Sl.val fun t266=>
  G.delIC t266 0 1 fun t267=>
  St t256 (Sl.val t267)<|
  Ld (t256.add 1) Sl.val fun t273=>
  Ite (decide ((0:Int) < (t273.n:Int)))
   (Dr <| yZ fun S=>
   LdS S (kid4_2.add 1) Sl.val fun t280=>
   LdS S (t256.add 1) Sl.val fun t284=>
   Idx t284 0 1 fun t285=>
   LdS S t285 Value.pointer fun t286=>
   New G.tK #[(.pointer t286)] fun t287=>
   Sv S<|
   Do G.P (Builtin.append_ #[G.tSK,G.tSK] G.tSK #[(Sl.val t280),(Sl.val (Sl.mk (some t287) 1 1))]) Sl.val fun t288=>
   St (kid4_2.add 1) (Sl.val t288)<|
   Ld (t256.add 1) Sl.val fun t295=>
   G.delKC t295 0 1 fun t296=>
   St (t256.add 1) (Sl.val t296)<|
   Q)
   (Q))
  (Ar (if (1:Int) > i1_2 then 1 else i1_2) fun t18=>
  Dr<|
  Ld (n0_2.add 1) Sl.val fun t22=>
  Ar (IntKind.wrap .i64 (t18 - 1)) fun t24=>
  Idx t22 t24 1 fun t25=>
  Ld t25 Value.pointer fun t26=>
  Ld (n0_2.add 1) Sl.val fun t30=>
  Idx t30 t18 1 fun t32=>
  Ld t32 Value.pointer fun t33=>
  Dr <| yZ fun S=>
  Nn t26 fun t36=>
  Ar (IntKind.wrap .i64 (t18 - 1)) fun t44=>
  Nn t33 fun t50=>
  LdS S t36 Sl.val fun t38=>
  LdS S n0_2 Sl.val fun t42=>
  Idx t42 t44 (G.nv + 1) fun t45=>
  vG S t45 (G.nv + 1) fun t46=>
  LdS S t50 Sl.val fun t52=>
  Bld (G.kz::G.vz).toArray (fun i=>some (i * (G.nv + 1),(G.nv + 1))) [(0,(.agg t46))] fun ct47=>
  New G.tI ct47 fun t47=>
  Sv S<|
  Do G.P (Builtin.append_ #[G.tSI,G.tSI] G.tSI #[(Sl.val t38),(Sl.val (Sl.mk (some t47) 1 1))]) Sl.val fun t48=>
  Sv S<|
  Do G.P (Builtin.append_ #[G.tSI,G.tSI] G.tSI #[(Sl.val t48),(Sl.val t52)]) Sl.val fun t53=>
  St t36 (Sl.val t53)<|
  Dr<|
  Ld (t36.add 1) Sl.val fun t60=>
  Ld (t50.add 1) Sl.val fun t64=>
  Do G.P (Builtin.append_ #[G.tSK,G.tSK] G.tSK #[(Sl.val t60),(Sl.val t64)]) Sl.val fun t65=>
  St (t36.add 1) (Sl.val t65)<|
  Ld n0_2 Sl.val fun t72=>
  Ar (IntKind.wrap .i64 (t18 - 1)) fun t74=>
  G.delIC t72 t74 t18 fun t76=>
  St n0_2 (Sl.val t76)<|
  Ld (n0_2.add 1) Sl.val fun t83=>
  Ar (IntKind.wrap .i64 (t18 + 1)) fun t86=>
  G.delKC t83 t18 t86 fun t87=>
  St (n0_2.add 1) (Sl.val t87)<|
  Q)
def zFL (G:BtD κ) (Q:K)  (n0_1:Addr) (i1_1:Int) (kid4_1:Addr) (t97_1:Bool):K :=
 Ite t97_1
  (Ld (n0_1.add 1) Sl.val fun t118=>
  Ar (IntKind.wrap .i64 (i1_1 - 1)) fun t120=>
  Idx t118 t120 1 fun t121=>
  Ld t121 Value.pointer fun t122=>
  Nn t122 fun t124=>
  Ld t124 Sl.val fun t126=>
  Ar (IntKind.wrap .i64 ((t126.n:Int) - 1)) fun t128=>
  Dr <| yZ fun S=>
  Ar (IntKind.wrap .i64 (i1_1 - 1)) fun t139=>
  LdS S kid4_1 Sl.val fun t133=>
  LdS S n0_1 Sl.val fun t137=>
  Idx t137 t139 (G.nv + 1) fun t140=>
  vG S t140 (G.nv + 1) fun t141=>
  Bld (G.kz::G.vz).toArray (fun i=>some (i * (G.nv + 1),(G.nv + 1))) [(0,(.agg t141))] fun ct142=>
  New G.tI ct142 fun t142=>
  Sv S<|
  G.insIC t133 0 (Sl.mk (some t142) 1 1) fun t143=>
  St kid4_1 (Sl.val t143)<|
  Dr<|
  Ar (IntKind.wrap .i64 (i1_1 - 1)) fun t151=>
  Ld n0_1 Sl.val fun t149=>
  Ld t124 Sl.val fun t155=>
  Idx t155 t128 (G.nv + 1) fun t157=>
  LdN t157 (G.nv + 1) fun t158=>
  Idx t149 t151 (G.nv + 1) fun t159=>
  StN t159 (G.nv + 1) t158<|
  Ld t124 Sl.val fun t164=>
  Slc t164 0 t128 (t164.c:Int) (G.nv + 1) fun t166=>
  St t124 (Sl.val t166)<|
  Ld (t124.add 1) Sl.val fun t172=>
  Ite (decide ((0:Int) < (t172.n:Int)))
   (Dr <| yZ fun S=>
   Ar (IntKind.wrap .i64 (t128 + 1)) fun t185=>
   LdS S (kid4_1.add 1) Sl.val fun t179=>
   LdS S (t124.add 1) Sl.val fun t183=>
   Idx t183 t185 1 fun t186=>
   LdS S t186 Value.pointer fun t187=>
   New G.tK #[(.pointer t187)] fun t188=>
   Sv S<|
   G.insKC t179 0 (Sl.mk (some t188) 1 1) fun t189=>
   St (kid4_1.add 1) (Sl.val t189)<|
   Ld (t124.add 1) Sl.val fun t196=>
   Ar (IntKind.wrap .i64 (t128 + 1)) fun t198=>
   Slc t196 0 t198 (t196.c:Int) 1 fun t199=>
   St (t124.add 1) (Sl.val t199)<|
   Q)
   (Q))
  (Ar (IntKind.wrap .i64 (i1_1 + 1)) fun t204=>
  Ld (n0_1.add 1) Sl.val fun t208=>
  Ite (decide (t204 < (t208.n:Int)))
   (Ld (n0_1.add 1) Sl.val fun t215=>
   Ar (IntKind.wrap .i64 (i1_1 + 1)) fun t217=>
   Idx t215 t217 1 fun t218=>
   Ld t218 Value.pointer fun t219=>
   Nn t219 fun t220=>
   Ld t220 Sl.val fun t222=>
   zFK G Q n0_1 i1_1 kid4_1 (decide ((2:Int) < (t222.n:Int))))
   (zFK G Q n0_1 i1_1 kid4_1 false))
def zYu (G:BtD κ) (n0:(Option Addr)) (i1:Int) (Q:K):K :=
 Nn n0 fun t11=>
 Ld (t11.add 1) Sl.val fun t13=>
 Idx t13 i1 1 fun t15=>
 Ld t15 Value.pointer fun t16=>
 Nn t16 fun t92=>
 Ld t92 Sl.val fun t94=>
 Ite (decide ((2:Int) ≤ (t94.n:Int)))
  (Q)
  (Ite (decide ((0:Int) < i1))
   (Ld (t11.add 1) Sl.val fun t104=>
   Ar (IntKind.wrap .i64 (i1 - 1)) fun t106=>
   Idx t104 t106 1 fun t107=>
   Ld t107 Value.pointer fun t108=>
   Nn t108 fun t109=>
   Ld t109 Sl.val fun t111=>
   zFL G Q t11 i1 t92 (decide ((2:Int) < (t111.n:Int))))
   (zFL G Q t11 i1 t92 false))
def zV3 (G:BtD κ) (n0:(Option Addr)) (Q:(Array Value)→K):K :=
 New G.tI (G.kz::G.vz).toArray fun t2=>
 Nn n0 fun t7=>
 Ld (t7.add 1) Sl.val fun t9=>
 Ar (IntKind.wrap .i64 ((t9.n:Int) - 1)) fun t11=>
 Ite (decide ((0:Int) ≤ t11))
  (Ld (t7.add 1) Sl.val fun t17=>
  Idx t17 t11 1 fun t19=>
  Ld t19 Value.pointer fun t20=>
  G.nlastC t20 fun t21=>
  New G.tI (G.kz::G.vz).toArray fun x4=>
  StN x4 (G.nv + 1) t21<|
  G.nmendC (some t7) t11<|
  LdN x4 (G.nv + 1) fun t25=>
  StN t2 (G.nv + 1) t25<|
  LdN t2 (G.nv + 1) fun r0=>
  Q r0)
  (Dr <| yZ fun S=>
  LdS S t7 Sl.val fun t29=>
  LdS S t7 Sl.val fun t33=>
  Ar (IntKind.wrap .i64 ((t33.n:Int) - 1)) fun t35=>
  Idx t29 t35 (G.nv + 1) fun t36=>
  vG S t36 (G.nv + 1) fun t37=>
  New G.tI (G.kz::G.vz).toArray fun x5=>
  Sv S<|
  StN x5 (G.nv + 1) t37<|
  Dr<|
  Ld t7 Sl.val fun t42=>
  Ld t7 Sl.val fun t46=>
  Ar (IntKind.wrap .i64 ((t46.n:Int) - 1)) fun t48=>
  Slc t42 0 t48 (t42.c:Int) (G.nv + 1) fun t49=>
  St t7 (Sl.val t49)<|
  LdN x5 (G.nv + 1) fun t52=>
  StN t2 (G.nv + 1) t52<|
  LdN t2 (G.nv + 1) fun r0=>
  Q r0)
def zI2 (G:BtD κ) (Q:(Array Value)→Bool→K)  (value4_1:Addr) (ok5_1:Bool):K :=
 LdN value4_1 G.nv fun t94=>
 StN value4_1 G.nv t94<|
 LdN value4_1 G.nv fun r0=>
 Q r0 ok5_1
def zFM (G:BtD κ) (Q:(Array Value)→Bool→K)  (n0_2:(Option Addr)) (key1_2:κ) (value4_2:Addr) (i6_2:Int) (found7_2:Bool) (t14_2:Bool):K :=
 Ite t14_2
  (Nn n0_2 fun t25=>
  Ld t25 Sl.val fun t27=>
  Idx t27 i6_2 (G.nv + 1) fun t29=>
  LdN (t29.add 1) G.nv fun t31=>
  StN value4_2 G.nv t31<|
  Ld t25 Sl.val fun t36=>
  Ar (IntKind.wrap .i64 (i6_2 + 1)) fun t39=>
  G.delIC t36 i6_2 t39 fun t40=>
  St t25 (Sl.val t40)<|
  LdN value4_2 G.nv fun t43=>
  StN value4_2 G.nv t43<|
  LdN value4_2 G.nv fun r0=>
  Q r0 true)
  (Ite found7_2
   (Nn n0_2 fun t47=>
   Ld t47 Sl.val fun t49=>
   Idx t49 i6_2 (G.nv + 1) fun t51=>
   LdN (t51.add 1) G.nv fun t53=>
   StN value4_2 G.nv t53<|
   Dr <| yZ fun S=>
   LdS S t47 Sl.val fun t57=>
   LdS S (t47.add 1) Sl.val fun t62=>
   Idx t62 i6_2 1 fun t64=>
   LdS S t64 Value.pointer fun t65=>
   G.nlastC t65 fun t66=>
   Sv S<|
   Idx t57 i6_2 (G.nv + 1) fun t67=>
   StN t67 (G.nv + 1) t66<|
   G.nmendC (some t47) i6_2<|
   LdN value4_2 G.nv fun t71=>
   StN value4_2 G.nv t71<|
   LdN value4_2 G.nv fun r0=>
   Q r0 true)
   (Nn n0_2 fun t74=>
   Ld (t74.add 1) Sl.val fun t76=>
   Ite (decide ((0:Int) < (t76.n:Int)))
    (Ld (t74.add 1) Sl.val fun t83=>
    Idx t83 i6_2 1 fun t85=>
    Ld t85 Value.pointer fun t86=>
    G.ntakeC t86 key1_2 fun t88x0 t88x1=>
    StN value4_2 G.nv t88x0<|
    G.nmendC (some t74) i6_2<|
    zI2 G Q value4_2 t88x1)
    (zI2 G Q value4_2 false)))
def zV4 (G:BtD κ) (n0:(Option Addr)) (key1:κ) (Q:(Array Value)→Bool→K):K :=
 New G.tV G.vz.toArray fun value4=>
 G.nsearchC n0 key1 fun t11x0 t11x1=>
 Ite t11x1
  (Nn n0 fun t18=>
  Ld (t18.add 1) Sl.val fun t20=>
  zFM G Q (some t18) key1 value4 t11x0 true (decide ((t20.n:Int) = 0)))
  (zFM G Q n0 key1 value4 t11x0 false false)
def zKv (G:BtD κ) (Q:(Array Value)→Bool→K)  (value4_2:Addr) (ok5_2:Bool):K :=
 LdN value4_2 G.nv fun t55=>
 StN value4_2 G.nv t55<|
 LdN value4_2 G.nv fun r0=>
 Q r0 ok5_2
def zKw (G:BtD κ) (Q:(Array Value)→Bool→K)  (t0_1:Addr) (value4_1:Addr) (ok5_1:Bool):K :=
 Ite ok5_1
  (Ld (t0_1.add 1) (Value.int .i64) fun t51=>
  Ar (IntKind.wrap .i64 (t51 - 1)) fun t52=>
  St (t0_1.add 1) (.int .i64 t52)<|
  zKv G Q value4_1 ok5_1)
  (zKv G Q value4_1 ok5_1)
def zI3 (G:BtD κ) (Q:(Array Value)→Bool→K)  (t0_3:Addr) (value4_3:Addr) (ok5_3:Bool) (t34_3:Bool):K :=
 Ite t34_3
  (Ld t0_3 Value.pointer fun t39=>
  Nn t39 fun t40=>
  Ld (t40.add 1) Sl.val fun t42=>
  Idx t42 0 1 fun t43=>
  Ld t43 Value.pointer fun t44=>
  St t0_3 (.pointer t44)<|
  zKw G Q t0_3 value4_3 ok5_3)
  (zKw G Q t0_3 value4_3 ok5_3)
def zZb (G:BtD κ) (t0:(Option Addr)) (key1:κ) (Q:(Array Value)→Bool→K):K :=
 New G.tV G.vz.toArray fun value4=>
 Nn t0 fun t8=>
 Ld t8 Value.pointer fun t10=>
 G.ntakeC t10 key1 fun t12x0 t12x1=>
 StN value4 G.nv t12x0<|
 Ld t8 Value.pointer fun t18=>
 Nn t18 fun t19=>
 Ld t19 Sl.val fun t21=>
 Ite (decide ((t21.n:Int) = 0))
  (Ld t8 Value.pointer fun t28=>
  Nn t28 fun t29=>
  Ld (t29.add 1) Sl.val fun t31=>
  zI3 G Q t8 value4 t12x1 (decide ((t31.n:Int) = 1)))
  (zI3 G Q t8 value4 t12x1 false)
end
structure zI4 {κ:Type} (G:BtD κ) (c:κ→κ→Int):Prop extends BtOk G.toBtT c where
 delI:∃ Z,∀ s i j Q w,zOe G.P G.tSI Z (G.nv + 1) s i j Q w→G.delIC s i j Q w
 zOe:∃ Z,∀ s i j Q w,zOe G.P G.tSK Z 1 s i j Q w→G.delKC s i j Q w
 take:∀ n k Q w,zV4 G n k Q w→G.ntakeC n k Q w
 last:∀ n Q w,zV3 G n Q w→G.nlastC n Q w
 mend:∀ n i Q w,zYu G n i Q w→G.nmendC n i Q w
end Bt
end
section
open Go Go.RowKit
namespace Bt
section
variable {κ:Type} {B:World} {Γ Γ0 Δ:List zB}
theorem zKx {α:Type} {f:α→List Value} {esz E:Nat} {s:Sl} {L:List α} {i:Nat} {x:α} {k:Array Value→K} (hf:∀ x,(f x).length = esz) (hx:L[i]? = some x) (h:HG B Γ (k (f x).toArray)) [o:zBg s Γ0 (SlC E esz s (L.flatMap f)) Δ]:HG B Γ (vG (Holds B Γ0) (elA s i esz) esz k):=fun w hw=>by
 refine ⟨(f x).toArray,by simp [hf],fun w' hw'=>?_,h w hw⟩
 obtain ⟨cs,hcs,hrd,hk⟩:=zOf (s:=s) (i:=i) (k:=fun cs _=>cs = (f x).toArray) (E:=E) (Γ:=Γ0) (B:=B) hf hx (fun _ _=>rfl) w' hw'
 rw [← hk]; exact hrd
theorem zO1 {α:Type} {c:α→Value} {E:Nat} {s:Sl} {L:List α} {i:Nat} {x:α} {k:α→K} (hx:L[i]? = some x) (h:HG B Γ (k x)) [o:zBg s Γ0 (SlC E 1 s (L.map c)) Δ]:HG B Γ (LdS (Holds B Γ0) (elA s i 1) c k):=fun w hw=>by
 refine ⟨x,fun w' hw'=>?_,h w hw⟩
 obtain ⟨h0,h1,h2,h3,h4⟩:=yh hw' (p:=o)
 rw [← add0 (elA s i 1)]
 exact zOY (vs:=L.map c) (off:=0) h0 h3 (by simp [hx])
theorem zRb {α:Type} {f:α→List Value} {esz E:Nat} {s:Sl} {A C:List α} {x y:α} {k:K} (hf:∀ x,(f x).length = esz) (hfl:(f y).all yX = true) (h:HG B (SlC E esz s ((A++y::C).flatMap f)::Δ) k) [o:zBg s Γ (SlC E esz s ((A++x::C).flatMap f)) Δ]:HG B Γ (StN (elA s A.length esz) esz (f y).toArray k):=by
 rw [← add0 (elA s A.length esz)]
 refine zOb (s:=s) (us:=f y) ?_ (hf y) ?_ hfl
 ·have e:zC3 ((A++x::C).flatMap f) (A.length * esz + 0) (f y) = (A++y::C).flatMap f:=by
   have e1:(A++x::C).flatMap f = A.flatMap f++(f x++C.flatMap f):=by simp
   have e2:(A++y::C).flatMap f = A.flatMap f++(f y++C.flatMap f):=by simp
   rw [e1,e2,zDY (by simp [zn f esz hf]) (by rw [hf,hf])]
  rw [e]; exact h
 ·have e1:((A++x::C).flatMap f).length = (A.length + (C.length + 1)) * esz:=by rw [zn f esz hf]; simp
  rw [e1,Nat.add_mul,Nat.add_mul]; omega
variable {G:BtT κ} {c:κ→κ→Int}
theorem zZc (its:List G.It):wv its ([]:List (Kid G)) = its:=by cases its <;> rfl
theorem zLs {d:Nat} {i1 i2:List G.It} {k1 k2:List (Kid G)} {x:G.It} (h1:Fit d i1 k1) (h2:Fit d i2 k2):wv (i1++x::i2) (k1++k2) = wv i1 k1++x::wv i2 k2:=by
 cases d with
 | zero=>
  have e1:k1 = []:=h1
  have e2:k2 = []:=h2
  subst e1; subst e2
  simp only [List.append_nil,zZc]
 | succ d=>
  obtain ⟨q1,ps1,rfl,rfl⟩:=zRa h1
  obtain ⟨q2,ps2,rfl,rfl⟩:=zRa h2
  have e:wv (ps1.map Prod.fst++x::ps2.map Prod.fst) (q1::ps1.map Prod.snd++q2::ps2.map Prod.snd) = psL q1 (ps1++(x,q2)::ps2):=by
   rw [← zJ4]; simp
  rw [e,zJ4,zJ4]
  simp [psL]
theorem zO2 {d:Nat} {i1 i2:List G.It} {k1 k2:List (Kid G)} {x:G.It} (h1:Fit d i1 k1) (h2:Fit d i2 k2):Fit d (i1++x::i2) (k1++k2):=by
 cases d with
 | zero=>
  have e1:k1 = []:=h1
  have e2:k2 = []:=h2
  subst e1; subst e2; rfl
 | succ d=>
  simp only [Fit,List.length_append,List.length_cons] at h1 h2 ⊢
  omega
theorem zNO {d:Nat} {i1 i2:List G.It} {ks:List (Kid G)} {x:G.It} (h:Fit d (i1++x::i2) ks):∃ k1 k2,ks = k1++k2∧Fit d i1 k1∧Fit d i2 k2:=by
 cases d with
 | zero=>exact ⟨[],[],h,rfl,rfl⟩
 | succ d=>
  simp only [Fit,List.length_append,List.length_cons] at h
  exact ⟨ks.take (i1.length + 1),ks.drop (i1.length + 1),(List.take_append_drop _ _).symm,by simp [Fit]; omega,by simp [Fit]; omega⟩
theorem zNP {d:Nat} {A C:List (Kid G)}:∀ w,Holds B (u7 G d A::u7 G d C::Γ) w ↔ Holds B (u7 G d (A++C)::Γ) w:=fun w=>by
 cases d with
 | zero=>
  show Holds B (Sep.stars []::Sep.stars []::Γ) w ↔ Holds B (Sep.stars []::Γ) w
  exact Holds.flat (Δ:=[])
 | succ d=>
  show Holds B (qN G d A::qN G d C::Γ) w ↔ Holds B (qN G d (A++C)::Γ) w
  constructor
  ·intro h
   have h1:=Holds.flat.1 h
   have h2:=Holds.flat.1 (h1.perm (List.perm_middle (a:=qN G d C) (l₁:=A.map fun q=>yE G d 2 q.1 q.2) (l₂:=Γ)))
   refine Holds.flat.2 (h2.perm ?_)
   rw [List.map_append,List.append_assoc]
   rw [← List.append_assoc,← List.append_assoc]
   exact List.perm_append_comm.append_right Γ
  ·intro h
   have:=zIq (k:=fun w=>Holds B (qN G d A::qN G d C::Γ) w) (fun w h=>h) w h
   exact this
theorem zRc {d:Nat} {A C:List (Kid G)} {k:K} (h:HG B (u7 G d (A++C)::Γ) k):HG B (u7 G d A::u7 G d C::Γ) k:=fun w hw=>h w ((zNP w).1 hw)
theorem zV5 {d:Nat} {A C:List (Kid G)} {k:K} (h:HG B (u7 G d A::u7 G d C::Γ) k):HG B (u7 G d (A++C)::Γ) k:=fun w hw=>h w ((zNP w).2 hw)
end
end Bt
end
section
open Go Go.RowKit
namespace Bt
section
variable {κ:Type} {G:BtD κ} {c:κ→κ→Int} {B:World} {Γ Δ:List zB}
theorem zDC {s:Sl} {its:List G.It} (h:(its.flatMap G.f).length = s.n * (G.nv + 1)):s.n = its.length:=by
 rw [zn G.f _ G.qd] at h
 exact (Nat.eq_of_mul_eq_mul_right (by omega) h).symm
theorem zEa {s:Sl} {kp:List (Option Addr)} (h:(kp.map Value.pointer).length = s.n * 1):s.n = kp.length:=by rw [zOg] at h; omega
theorem zIC (ok:BtOk G.toBtT c) (x:G.It):(G.f x).all yX = true:=List.all_eq_true.2 (zGW ok x)
theorem zUI {its:List G.It} {x:G.It}:(its.flatMap G.f).take (0 * (G.nv + 1))++G.f x++(its.flatMap G.f).drop (0 * (G.nv + 1)) = (x::its).flatMap G.f:=by simp
theorem zRd {kp:List (Option Addr)} {x:Option Addr}:(kp.map Value.pointer).take (0 * 1)++[Value.pointer x]++(kp.map Value.pointer).drop (0 * 1) = (x::kp).map Value.pointer:=by simp
theorem zNQ {s:Sl} {its:List G.It} {m:Nat} {k:K} (hm:m ≤ s.n) (hc:s.n ≤ s.c) (h:HG B (vC G.toBtT ⟨s.a,m,s.c⟩ (its.take m)::Δ) k) [p:zBg s Γ (vC G.toBtT s its) Δ]:HG B Γ k:=by
 refine zCL (s:=s) (m:=m) (c':=s.c) hm (Nat.le_trans hm hc) (Nat.le_refl _) ?_
 rw [zC5 G.qd]
 exact h
theorem zUJ {s:Sl} {kp:List (Option Addr)} {m:Nat} {k:K} (hm:m ≤ s.n) (hc:s.n ≤ s.c) (h:HG B (vD G.toBtT ⟨s.a,m,s.c⟩ (kp.take m)::Δ) k) [p:zBg s Γ (vD G.toBtT s kp) Δ]:HG B Γ k:=by
 refine zCL (s:=s) (m:=m) (c':=s.c) hm (Nat.le_trans hm hc) (Nat.le_refl _) ?_
 rw [show (kp.map Value.pointer).take (m * 1) = (kp.take m).map Value.pointer by simp]
 exact h
theorem zXk (ok:zI4 G c) {d n:Nat} {s kd sp kp sq kq:Sl} {A C:List (Kid G.toBtT)} {p q:Kid G.toBtT} {IA IC ip iq:List G.It} {x y:G.It} {cp cq:List (Kid G.toBtT)} {i:Int} {Q:K}
  (hi:i = ((A.length + 1:Nat):Int)) (hA:IA.length = A.length) (hl:IA.length + IC.length ≤ 5) (hC:C.length = IC.length) (hp:2 ≤ ip.length∧ip.length ≤ 5) (hq:iq.length ≤ 1) (hfp:Fit d (ip++[y]) cp) (hfq:Fit d iq cq)
  (h:∀ P' Q',P'++y::Q' = wv (ip++[y]) cp++x::wv iq cq→∀ s' kd',HG B (y7 G.toBtT n s' kd'::vC G.toBtT s' (IA++y::IC)::vD G.toBtT kd' ((A++p::q::C).map ptr)::yE G.toBtT d 2 p.1 P'::yE G.toBtT d 2 q.1 Q'::Γ) Q) :
  HG B (y7 G.toBtT n s kd::vC G.toBtT s (IA++x::IC)::vD G.toBtT kd ((A++p::q::C).map ptr)::zI1 G.toBtT d p.1 sp kp (ip++[y]) cp (zI1 G.toBtT d q.1 sq kq iq cq Γ)) (zFL G Q ⟨n,0,none⟩ i ⟨q.1,0,none⟩ true):=by
 subst hi
 have okT:=ok.toBtOk
 obtain ⟨cp',kz,rfl,hf1,hfz⟩:=zNO (i1:=ip) (i2:=[]) hfp
 refine yS s fun a1 a2 a3 a4=>?_
 refine yS kd fun b1 b2 b3 b4=>?_
 refine yS sp fun c1 c2 c3 c4=>?_
 refine yS kp fun d1 d2 d3 d4=>?_
 refine yS sq fun e1 e2 e3 e4=>?_
 refine yS kq fun f1 f2 f3 f4=>?_
 have hsn:=zDC a1
 have hkn:=zEa b1
 have hspn:=zDC c1
 have hkpn:=zEa d1
 have hsqn:=zDC e1
 have hkqn:=zEa f1
 simp only [List.length_append,List.length_cons,List.length_nil,List.length_map] at hsn hkn hspn hkpn hsqn hkqn
 unfold zFL
 refine s_t ?_
 refine yD (b:=n) (x:=kd) ?_
 refine qU ?_
 refine vZ (s:=kd) (i:=A.length) ?_
 refine zCB (s:=kd) (x:=ptr p) (by simp) ?_
 refine vg ?_
 refine yD (b:=p.1) (x:=sp) ?_
 refine qU ?_
 refine vk ?_
 refine zMR ?_
 refine qU ?_
 refine u6 (b:=q.1) (x:=sq) ?_
 refine u6 (b:=n) (x:=s) ?_
 refine vZ (s:=s) (i:=A.length) ?_
 refine zKx (s:=s) (x:=x) G.qd (by rw [← hA]; simp) ?_
 refine zBp ?_ (by simp [okT.vz.1]) (G.qd _)
 refine zR fun t=>?_
 refine zBC ?_
 obtain ⟨R,rot,hins⟩:=okT.insI
 refine fun w hw=>hins _ _ _ _ _ ?_
 refine hg hw ?_
 clear hw w
 refine zPz (s:=sq) (i:=0) (t:=t) (by omega) (by omega) (G.qd _) (by omega) (zEJ okT _) (zGW okT _) (fun sq' hsq'=>?_) okT.TI okT.ZI
 rw [zUI]
 refine zBY (b:=q.1) ?_
 refine vk ?_
 refine qU ?_
 refine yD (b:=n) (x:=s) ?_
 refine yD (b:=p.1) (x:=sp) ?_
 refine vZ (s:=sp) (i:=ip.length) ?_
 refine zOf (s:=sp) (x:=y) G.qd (by simp) ?_
 refine vZ (s:=s) (i:=IA.length) ?_
 refine zRb (s:=s) (A:=IA) (x:=x) (y:=y) G.qd (zIC okT y) ?_
 refine yD (b:=p.1) (x:=sp) ?_
 refine zAC (lo:=0) (hi:=ip.length) (mx:=sp.c) ?_
 rw [zJJ c3]
 refine zBY (b:=p.1) ?_
 refine zNQ (s:=sp) (m:=ip.length) (by omega) c2 ?_
 rw [List.take_left]
 refine yD (b:=p.1) (x:=kp) ?_
 have fin:∀ sp2 kp2 sq2 kq2,HG B (zI1 G.toBtT d p.1 sp2 kp2 ip cp' (zI1 G.toBtT d q.1 sq2 kq2 (x::iq) (kz++cq) (y7 G.toBtT n s kd::vC G.toBtT s (IA++y::IC)::vD G.toBtT kd ((A++p::q::C).map ptr)::Γ))) Q:=fun sp2 kp2 sq2 kq2=>by
  refine zDi (m:=2) hf1 hp.2 (fun _=>.inr fun h=>by rw [h] at hp; simp at hp) ?_
  refine zC (Δ:=zI1 G.toBtT d q.1 sq2 kq2 (x::iq) (kz++cq) (yE G.toBtT d 2 p.1 (wv ip cp')::y7 G.toBtT n s kd::vC G.toBtT s (IA++y::IC)::vD G.toBtT kd ((A++p::q::C).map ptr)::Γ)) ?_
  refine zDi (m:=2) (zO2 (i1:=[]) hfz hfq) (by simp; omega) (fun _=>.inr (by simp)) ?_
  refine zC (h (wv ip cp') (wv (x::iq) (kz++cq)) ?_ s kd)
  rw [zLs hf1 hfz,show x::iq = []++x::iq from rfl,zLs hfz hfq]
  simp
 cases d with
 | zero=>
  have e1:cp' = []:=hf1
  have e2:kz = []:=hfz
  have e3:cq = []:=hfq
  subst e1; subst e2; subst e3
  refine s_f ?_ (by simp at hkpn; simp [hkpn])
  simp only [List.append_nil] at fin ⊢
  exact zC (fin ⟨sp.a,ip.length,sp.c⟩ kp sq' kq)
 | succ d=>
  obtain ⟨z,rfl⟩:∃ z,kz = [z]:=List.length_eq_one_iff.1 hfz
  have hcl:cp'.length = ip.length + 1:=hf1
  have hcql:cq.length = iq.length + 1:=hfq
  simp only [List.length_cons,List.length_nil] at hkpn
  refine s_t ?_ (by simp; omega)
  refine vk ?_
  refine zMR ?_
  refine qU ?_
  refine u6 (b:=q.1) (x:=kq) ?_
  refine u6 (b:=p.1) (x:=kp) ?_
  refine vZ (s:=kp) (i:=ip.length + 1) ?_
  refine zO1 (s:=kp) (c:=Value.pointer) (L:=(cp'++[z]).map ptr) (x:=ptr z) (by rw [← hcl]; simp) ?_
  refine zR fun t2=>?_
  refine zBC ?_
  obtain ⟨R2,rot2,hins2⟩:=okT.zPy
  refine fun w hw=>hins2 _ _ _ _ _ ?_
  refine hg hw ?_
  clear hw w
  refine zPz (s:=kq) (i:=0) (t:=t2) (us:=[Value.pointer (ptr z)]) (by omega) (by omega) rfl (by omega) (zHB _) (by simp [yX]) (fun kq' hkq'=>?_) okT.TK okT.ZK
  rw [zRd,show ptr z::cq.map ptr = ([z]++cq).map ptr from rfl]
  refine zBY (b:=q.1) ?_
  refine yD (b:=p.1) (x:=kp) ?_
  refine qU ?_
  refine zAC (lo:=0) (hi:=ip.length + 1) (mx:=kp.c) ?_
  rw [zJJ d3]
  refine zBY (b:=p.1) ?_
  refine zUJ (s:=kp) (m:=ip.length + 1) (by omega) d2 ?_
  rw [show ((cp'++[z]).map ptr).take (ip.length + 1) = cp'.map ptr by rw [List.map_append]; exact List.take_left' (by simp [hcl])]
  refine zX (u7 G.toBtT (d + 1) (cp'++[z])) ?_
  refine zV5 ?_
  refine zC (Δ:=u7 G.toBtT (d + 1) [z]::u7 G.toBtT (d + 1) cq::u7 G.toBtT (d + 1) cp'::y7 G.toBtT p.1 ⟨sp.a,ip.length,sp.c⟩ ⟨kp.a,ip.length + 1,kp.c⟩::vC G.toBtT ⟨sp.a,ip.length,sp.c⟩ ip::vD G.toBtT ⟨kp.a,ip.length + 1,kp.c⟩ (cp'.map ptr)::y7 G.toBtT q.1 sq' kq'::vC G.toBtT sq' (x::iq)::vD G.toBtT kq' (([z]++cq).map ptr)::y7 G.toBtT n s kd::vC G.toBtT s (IA++y::IC)::vD G.toBtT kd ((A++p::q::C).map ptr)::Γ) ?_
  refine zRc ?_
  exact zC (fin ⟨sp.a,ip.length,sp.c⟩ ⟨kp.a,ip.length + 1,kp.c⟩ sq' kq')
end
end Bt
end
section
open Go Go.RowKit
namespace Bt
section
variable {κ:Type} {G:BtD κ} {c:κ→κ→Int} {B:World} {Γ Δ:List zB}
theorem zI5 {L:List (Kid G.toBtT)} {i:Nat} {q:Kid G.toBtT} (h:L[i]? = some q):((L.map ptr).map Value.pointer)[i * 1]? = some (Value.pointer (ptr q)):=by simp [h]
theorem zKy {α:Type} {A C:List α} {x y:α}:(A++x::y::C)[A.length + 1]? = some y:=by
 rw [List.getElem?_append_right (by omega),show A.length + 1 - A.length = 1 by omega]; rfl
theorem zUK {x:G.It} {its:List G.It}:((x::its).flatMap G.f).take (0 * (G.nv + 1))++((x::its).flatMap G.f).drop (1 * (G.nv + 1)) = its.flatMap G.f:=by
 rw [zC4 G.qd]; simp
theorem zRe {p:Kid G.toBtT} {kp:List (Kid G.toBtT)}:(((p::kp).map ptr).map Value.pointer).take (0 * 1)++(((p::kp).map ptr).map Value.pointer).drop (1 * 1) = (kp.map ptr).map Value.pointer:=by simp
theorem zTQ {A C:List G.It} {x:G.It}:((A++x::C).flatMap G.f).take (A.length * (G.nv + 1))++((A++x::C).flatMap G.f).drop ((A.length + 1) * (G.nv + 1)) = (A++C).flatMap G.f:=by
 rw [zC5 G.qd,zC4 G.qd,List.take_left,show A++x::C = (A++[x])++C by simp,List.drop_left' (by simp)]; simp
theorem zV6 {A C:List (Kid G.toBtT)} {p q:Kid G.toBtT}:(((A++p::q::C).map ptr).map Value.pointer).take ((A.length + 1) * 1)++(((A++p::q::C).map ptr).map Value.pointer).drop ((A.length + 2) * 1) = ((A++p::C).map ptr).map Value.pointer:=by
 rw [Nat.mul_one,Nat.mul_one,← List.map_take,← List.map_take,← List.map_drop,← List.map_drop]
 rw [show A++p::q::C = (A++[p])++q::C by simp,List.take_left' (by simp),show (A++[p])++q::C = (A++[p,q])++C by simp,List.drop_left' (by simp)]
 simp
theorem zTR (ok:zI4 G c) {d n:Nat} {s kd sr kr sq kq:Sl} {A C:List (Kid G.toBtT)} {q r:Kid G.toBtT} {IA IC ir iq:List G.It} {x y:G.It} {cr cq:List (Kid G.toBtT)} {i:Int} {Q:K}
  (hi:i = (A.length:Int)) (hA:IA.length = A.length) (hl:IA.length + IC.length ≤ 5) (hC:C.length = IC.length) (hr:1 ≤ ir.length∧ir.length ≤ 5) (hq:iq.length ≤ 1) (hfr:Fit d (y::ir) cr) (hfq:Fit d iq cq)
  (h:∀ Q' R',Q'++y::R' = wv iq cq++x::wv (y::ir) cr→∀ s' kd',HG B (y7 G.toBtT n s' kd'::vC G.toBtT s' (IA++y::IC)::vD G.toBtT kd' ((A++q::r::C).map ptr)::yE G.toBtT d 2 q.1 Q'::yE G.toBtT d 2 r.1 R'::Γ) Q) :
  HG B (y7 G.toBtT n s kd::vC G.toBtT s (IA++x::IC)::vD G.toBtT kd ((A++q::r::C).map ptr)::zI1 G.toBtT d q.1 sq kq iq cq (zI1 G.toBtT d r.1 sr kr (y::ir) cr Γ)) (zFK G Q ⟨n,0,none⟩ i ⟨q.1,0,none⟩ true):=by
 subst hi
 have okT:=ok.toBtOk
 obtain ⟨cz,cr',rfl,hfz,hf2⟩:=zNO (i1:=[]) (x:=y) (i2:=ir) hfr
 refine yS s fun a1 a2 a3 a4=>?_
 refine yS kd fun b1 b2 b3 b4=>?_
 refine yS sr fun c1 c2 c3 c4=>?_
 refine yS kr fun d1 d2 d3 d4=>?_
 refine yS sq fun e1 e2 e3 e4=>?_
 refine yS kq fun f1 f2 f3 f4=>?_
 have hsn:=zDC a1
 have hkn:=zEa b1
 have hsrn:=zDC c1
 have hkrn:=zEa d1
 have hsqn:=zDC e1
 have hkqn:=zEa f1
 simp only [List.length_append,List.length_cons,List.length_nil,List.length_map] at hsn hkn hsrn hkrn hsqn hkqn
 unfold zFK
 repeat first | refine zh ?_ | refine qU ?_
 refine vZ (s:=kd) (i:=A.length + 1) ?_
 refine zCB (s:=kd) (x:=ptr r) (zI5 zKy) ?_
 repeat first | refine zh ?_ | refine qU ?_
 refine vZ (s:=s) (i:=A.length) ?_
 refine zKx (s:=s) (x:=x) G.qd (by rw [← hA]; simp) ?_
 refine zBp ?_ (by simp [okT.vz.1]) (G.qd _)
 refine zR fun t=>?_
 repeat refine zh ?_
 refine xR (s:=sq) (us:=G.f x) (zAX (G.qd x)) (zGW okT x) (by simp only; omega) (hT:=okT.TI) fun sq' hsq'=>?_
 rw [show iq.flatMap G.f++G.f x = (iq++[x]).flatMap G.f by simp]
 repeat refine zh ?_
 refine vg ?_
 repeat refine zh ?_
 refine vZ (s:=sr) (i:=0) ?_
 refine zOf (s:=sr) (x:=y) G.qd rfl ?_
 refine vZ (s:=s) (i:=IA.length) ?_
 refine zRb (s:=s) (A:=IA) (x:=x) (y:=y) G.qd (zIC okT y) ?_
 repeat refine zh ?_
 obtain ⟨Z,hdel⟩:=ok.delI
 refine fun w hw=>hdel _ _ _ _ _ ?_
 refine hg hw ?_
 clear hw w
 refine zM4 (s:=sr) (i:=0) (j:=1) (by omega) (by omega) (by omega) (zEJ okT _) (fun sr' hsr'=>?_) okT.TI
 rw [zUK]
 repeat refine zh ?_
 have fin:∀ sr2 kr2 sq2 kq2,HG B (zI1 G.toBtT d q.1 sq2 kq2 (iq++[x]) (cq++cz) (zI1 G.toBtT d r.1 sr2 kr2 ir cr' (y7 G.toBtT n s kd::vC G.toBtT s (IA++y::IC)::vD G.toBtT kd ((A++q::r::C).map ptr)::Γ))) Q:=fun sr2 kr2 sq2 kq2=>by
  refine zDi (m:=2) (zO2 (i2:=[]) hfq hfz) (by simp; omega) (fun _=>.inr (by simp)) ?_
  refine zX (u7 G.toBtT d cr') ?_
  refine zq kr2 ?_
  refine zq sr2 ?_
  refine zQ r.1 ?_
  refine zDi (m:=2) hf2 hr.2 (fun _=>.inr fun h=>by rw [h] at hr; simp at hr) ?_
  refine zC (h (wv (iq++[x]) (cq++cz)) (wv ir cr') ?_ s kd)
  rw [zLs (i2:=[]) hfq hfz,show y::ir = []++y::ir from rfl,zLs hfz hf2]
  simp
 cases d with
 | zero=>
  have e1:cr' = []:=hf2
  have e2:cz = []:=hfz
  have e3:cq = []:=hfq
  subst e1; subst e2; subst e3
  refine s_f ?_ (by simp at hkrn; simp [hkrn])
  simp only [List.append_nil] at fin ⊢
  exact zC (fin sr' kr sq' kq)
 | succ d=>
  obtain ⟨z,rfl⟩:∃ z,cz = [z]:=List.length_eq_one_iff.1 hfz
  have hcl:cr'.length = ir.length + 1:=hf2
  have hcql:cq.length = iq.length + 1:=hfq
  simp only [List.length_cons,List.length_nil] at hkrn
  refine s_t ?_ (by simp; omega)
  repeat refine zh ?_
  refine vZ (s:=kr) (i:=0) ?_
  refine zO1 (s:=kr) (c:=Value.pointer) (L:=([z]++cr').map ptr) (x:=ptr z) (by simp) ?_
  refine zR fun t2=>?_
  repeat refine zh ?_
  refine xR (s:=kq) (us:=[Value.pointer (ptr z)]) (zAX rfl) (by simp [yX]) (by simp only; omega) (hT:=okT.TK) fun kq' hkq'=>?_
  rw [show (cq.map ptr).map Value.pointer++[Value.pointer (ptr z)] = ((cq++[z]).map ptr).map Value.pointer by simp]
  repeat refine zh ?_
  obtain ⟨Z2,hdel2⟩:=ok.zOe
  refine fun w hw=>hdel2 _ _ _ _ _ ?_
  refine hg hw ?_
  clear hw w
  refine zM4 (s:=kr) (i:=0) (j:=1) (by omega) (by omega) (by omega) (zHB _) (fun kr' hkr'=>?_) okT.TK
  rw [show (([z]++cr').map ptr) = ((z::cr').map ptr) from rfl,zRe]
  repeat refine zh ?_
  refine zX (u7 G.toBtT (d + 1) ([z]++cr')) ?_
  refine zV5 ?_
  refine zX (u7 G.toBtT (d + 1) [z]) ?_
  refine zX (u7 G.toBtT (d + 1) cq) ?_
  refine zRc ?_
  exact zC (fin sr' kr' sq' kq')
theorem zO3 (ok:zI4 G c) {d n:Nat} {s kd sp kp sq kq:Sl} {A C:List (Kid G.toBtT)} {p q:Kid G.toBtT} {IA IC ip iq:List G.It} {x:G.It} {cp cq:List (Kid G.toBtT)} {i:Int} {k4:Addr} {Q:K}
  (hi:(if (1:Int) > i then 1 else i) = ((A.length + 1:Nat):Int)) (hA:IA.length = A.length) (hl:IA.length + IC.length ≤ 5) (hC:C.length = IC.length) (hp:ip.length + iq.length ≤ 4) (hfp:Fit d ip cp) (hfq:Fit d iq cq)
  (h:∀ s' kd',HG B (y7 G.toBtT n s' kd'::vC G.toBtT s' (IA++IC)::vD G.toBtT kd' ((A++p::C).map ptr)::yE G.toBtT d 2 p.1 (wv ip cp++x::wv iq cq)::Γ) Q) :
  HG B (y7 G.toBtT n s kd::vC G.toBtT s (IA++x::IC)::vD G.toBtT kd ((A++p::q::C).map ptr)::zI1 G.toBtT d p.1 sp kp ip cp (zI1 G.toBtT d q.1 sq kq iq cq Γ)) (zFK G Q ⟨n,0,none⟩ i k4 false):=by
 have okT:=ok.toBtOk
 refine yS s fun a1 a2 a3 a4=>?_
 refine yS kd fun b1 b2 b3 b4=>?_
 refine yS sp fun c1 c2 c3 c4=>?_
 refine yS kp fun d1 d2 d3 d4=>?_
 refine yS sq fun e1 e2 e3 e4=>?_
 refine yS kq fun f1 f2 f3 f4=>?_
 have hsn:=zDC a1
 have hkn:=zEa b1
 have hspn:=zDC c1
 have hkpn:=zEa d1
 have hsqn:=zDC e1
 have hkqn:=zEa f1
 simp only [List.length_append,List.length_cons,List.length_nil,List.length_map] at hsn hkn hspn hkpn hsqn hkqn
 have hks:cp.length ≤ 6∧cq.length ≤ 6:=by
  cases d with
  | zero=>
   have e1:cp = []:=hfp
   have e2:cq = []:=hfq
   subst e1; subst e2; exact ⟨by simp,by simp⟩
  | succ d=>
   have e1:cp.length = ip.length + 1:=hfp
   have e2:cq.length = iq.length + 1:=hfq
   omega
 unfold zFK
 repeat refine zh ?_
 refine zBK hi ?_
 repeat first | refine zh ?_ | refine qU ?_
 refine vZ (s:=kd) (i:=A.length) ?_
 refine zCB (s:=kd) (x:=ptr p) (zI5 zLR) ?_
 repeat refine zh ?_
 refine vZ (s:=kd) (i:=A.length + 1) ?_
 refine zCB (s:=kd) (x:=ptr q) (zI5 zKy) ?_
 refine vk ?_
 refine zBw [y7 G.toBtT n s kd,vC G.toBtT s (IA++x::IC),y7 G.toBtT p.1 sp kp,y7 G.toBtT q.1 sq kq] ?_
 refine vg ?_
 refine qU ?_
 refine vg ?_
 repeat refine zh ?_
 refine vZ (s:=s) (i:=A.length) ?_
 refine zKx (s:=s) (x:=x) G.qd (by rw [← hA]; simp) ?_
 repeat refine zh ?_
 refine zBp ?_ (by simp [okT.vz.1]) (G.qd _)
 refine zR fun t=>?_
 repeat refine zh ?_
 refine xR (s:=sp) (us:=G.f x) (zAX (G.qd x)) (zGW okT x) (by simp only; omega) (hT:=okT.TI) fun sp1 hsp1=>?_
 rw [show ip.flatMap G.f++G.f x = (ip++[x]).flatMap G.f by simp]
 repeat refine zh ?_
 refine xR (s:=sp1) (us:=iq.flatMap G.f) (fun w hw=>(yh (s:=sq) hw).1) (zEJ okT _) (by simp only at hsp1 ⊢; omega) (hT:=okT.TI) fun sp2 hsp2=>?_
 rw [show (ip++[x]).flatMap G.f++iq.flatMap G.f = (ip++x::iq).flatMap G.f by simp]
 repeat refine zh ?_
 refine xR (s:=kp) (us:=(cq.map ptr).map Value.pointer) (fun w hw=>(yh (s:=kq) hw).1) (zHB _) (by omega) (hT:=okT.TK) fun kp' hkp'=>?_
 rw [← List.map_append,← List.map_append]
 repeat first | refine zh ?_ | refine qU ?_
 obtain ⟨Z,hdel⟩:=ok.delI
 refine fun w hw=>hdel _ _ _ _ _ ?_
 refine hg hw ?_
 clear hw w
 rw [show ((A.length + 1:Nat):Int) - 1 = ((A.length:Nat):Int) by omega]
 refine zM4 (s:=s) (i:=A.length) (j:=A.length + 1) (by omega) (by omega) (by omega) (zEJ okT _) (fun s' hs'=>?_) okT.TI
 rw [← hA,zTQ,hA]
 repeat first | refine zh ?_ | refine qU ?_
 obtain ⟨Z2,hdel2⟩:=ok.zOe
 refine fun w hw=>hdel2 _ _ _ _ _ ?_
 refine hg hw ?_
 clear hw w
 rw [show ((A.length + 1:Nat):Int) + 1 = ((A.length + 2:Nat):Int) by omega]
 refine zM4 (s:=kd) (i:=A.length + 1) (j:=A.length + 2) (by omega) (by omega) (by omega) (zHB _) (fun kd' hkd'=>?_) okT.TK
 rw [zV6]
 repeat refine zh ?_
 refine zX (u7 G.toBtT d cq) ?_
 refine zX (u7 G.toBtT d cp) ?_
 refine zRc ?_
 refine zX (u7 G.toBtT d (cp++cq)) ?_
 refine zq kp' ?_
 refine zq sp2 ?_
 refine zQ p.1 ?_
 refine zDi (m:=2) (zO2 hfp hfq) (by simp; omega) (fun _=>.inr (by simp)) ?_
 rw [zLs hfp hfq]
 exact zC (h s' kd')
end
end Bt
end
section
open Go Go.RowKit
namespace Bt
section
variable {κ:Type} {G:BtD κ} {c:κ→κ→Int} {B:World} {Γ Δ:List zB}
theorem zO4:∀ {IA IC:List G.It} {A C:List (Kid G.toBtT)},IA.length = A.length→C.length = IC.length→∃ U V:List G.It,(∀ p:Kid G.toBtT,wv (IA++IC) (A++p::C) = U++p.2++V)∧∀ (p:Kid G.toBtT) (x:G.It) (q:Kid G.toBtT),wv (IA++x::IC) (A++p::q::C) = U++p.2++x::(q.2++V)
 | [],[],[],C,_,hC=>⟨[],[],fun p=>by simp [wv],fun p x q=>by simp [wv]⟩
 | [],z::IC,[],C,_,hC=>⟨[],z::wv IC C,fun p=>by simp [wv],fun p x q=>by simp [wv]⟩
 | a::IA,IC,r::A,C,hA,hC=>by
  obtain ⟨U,V,h1,h2⟩:=zO4 (IA:=IA) (IC:=IC) (A:=A) (C:=C) (by simpa using hA) hC
  exact ⟨r.2++a::U,V,fun p=>by simp [wv,h1],fun p x q=>by simp [wv,h2]⟩
 | [],_,_::_,_,hA,_=>by simp at hA
 | _::_,_,[],_,hA,_=>by simp at hA
theorem zQW {α:Type} {L:List α} {a c:Nat} (h:L.length = a + 1 + c):∃ A x C,L = A++x::C∧A.length = a∧C.length = c :=
 ⟨L.take a,L[a],L.drop (a + 1),by rw [← List.drop_eq_getElem_cons,List.take_append_drop],by simp; omega,by simp; omega⟩
theorem zZd {d n:Nat} {s kd:Sl} {its:List G.It} {ks:List (Kid G.toBtT)} {k:K} (hf:ks.length = its.length + 1) (hl:its.length ≤ 5) (h:HG B (yE G.toBtT (d + 1) 0 n (wv its ks)::Γ) k) :
  HG B (y7 G.toBtT n s kd::vC G.toBtT s its::vD G.toBtT kd (ks.map ptr)::qN G.toBtT d ks::Γ) k:=zDi (d:=d + 1) (m:=0) hf hl (fun h=>by omega) h
theorem zLt {d n:Nat} {s kd:Sl} {its:List G.It} {A C:List (Kid G.toBtT)} {p:Kid G.toBtT} {P':List G.It} {k:K} (hf:(A++p::C).length = its.length + 1) (hl:its.length ≤ 5) (h:HG B (yE G.toBtT (d + 1) 0 n (wv its (A++(p.1,P')::C))::Γ) k) :
  HG B (y7 G.toBtT n s kd::vC G.toBtT s its::vD G.toBtT kd ((A++p::C).map ptr)::yE G.toBtT d 2 p.1 P'::qN G.toBtT d (A++C)::Γ) k:=by
 rw [show (A++p::C).map ptr = (A++(p.1,P')::C).map ptr by simp [ptr]]
 refine zX (qN G.toBtT d (A++C)) ?_
 refine zX (yE G.toBtT d 2 p.1 P') ?_
 refine zC6 (q:=(p.1,P')) ?_
 refine zX (qN G.toBtT d (A++(p.1,P')::C)) ?_
 refine zq kd ?_
 refine zq s ?_
 refine zQ n ?_
 exact zZd (by simpa using hf) hl h
theorem zRf {d n:Nat} {s kd:Sl} {its:List G.It} {A C:List (Kid G.toBtT)} {p q:Kid G.toBtT} {P' Q':List G.It} {k:K} (hf:(A++p::q::C).length = its.length + 1) (hl:its.length ≤ 5) (h:HG B (yE G.toBtT (d + 1) 0 n (wv its (A++(p.1,P')::(q.1,Q')::C))::Γ) k) :
  HG B (y7 G.toBtT n s kd::vC G.toBtT s its::vD G.toBtT kd ((A++p::q::C).map ptr)::yE G.toBtT d 2 p.1 P'::yE G.toBtT d 2 q.1 Q'::qN G.toBtT d (A++C)::Γ) k:=by
 rw [show (A++p::q::C).map ptr = (A++p::(q.1,Q')::C).map ptr by simp [ptr]]
 refine zX (qN G.toBtT d (A++C)) ?_
 refine zX (yE G.toBtT d 2 q.1 Q') ?_
 refine zC6 (q:=(q.1,Q')) ?_
 refine zX (qN G.toBtT d (A++(q.1,Q')::C)) ?_
 refine zX (yE G.toBtT d 2 p.1 P') ?_
 refine zq kd ?_
 refine zq s ?_
 refine zQ n ?_
 exact zLt (by simpa using hf) hl h
theorem zJe (ok:zI4 G c) {d n:Nat} {s kd:Sl} {its:List G.It} {A C:List (Kid G.toBtT)} {q:Kid G.toBtT} {Q:K} (hl:its.length ≤ 5) (hne:its ≠ []) (hf:(A++q::C).length = its.length + 1)
  (h:HG B (yE G.toBtT (d + 1) 0 n (wv its (A++q::C))::Γ) Q) :
  HG B (y7 G.toBtT n s kd::vC G.toBtT s its::vD G.toBtT kd ((A++q::C).map ptr)::yE G.toBtT d 0 q.1 q.2::qN G.toBtT d (A++C)::Γ) (G.nmendC (some ⟨n,0,none⟩) (A.length:Int) Q):=by
 refine fun w hw=>ok.mend _ _ _ _ ?_
 refine hg hw ?_
 clear hw w
 have okT:=ok.toBtOk
 have hnl:1 ≤ its.length:=List.length_pos_iff.2 hne
 refine yS s fun a1 a2 a3 a4=>?_
 refine yS kd fun b1 b2 b3 b4=>?_
 have hsn:=zDC a1
 have hkn:=zEa b1
 have hf':A.length + (C.length + 1) = its.length + 1:=by simpa using hf
 simp only [List.length_append,List.length_cons,List.length_map] at hkn
 unfold zYu
 repeat refine zh ?_
 refine vZ (s:=kd) (i:=A.length) ?_
 refine zCB (s:=kd) (x:=ptr q) (zI5 zLR) ?_
 refine vg ?_
 refine zQ q.1 ?_
 refine zNN fun sq kq iq cq hfq hlq _ hqL=>?_
 refine yS sq fun e1 e2 e3 e4=>?_
 have hsqn:=zDC e1
 repeat refine zh ?_
 refine zH (fun hb=>?_) fun hb=>?_
 ·have hb':2 ≤ iq.length:=by simp only [decide_eq_true_eq] at hb; omega
  refine zDi (m:=2) hfq hlq (fun _=>.inr fun h=>by rw [h] at hb'; simp at hb') ?_
  rw [← hqL]
  refine zX (qN G.toBtT d (A++C)) ?_
  refine zX (yE G.toBtT d 2 q.1 q.2) ?_
  refine zq kd ?_
  refine zq s ?_
  refine zQ n ?_
  exact zLt hf hl h
 have hq1:iq.length ≤ 1:=by simp only [decide_eq_false_iff_not] at hb; omega
 rcases List.eq_nil_or_concat A with rfl | ⟨A,p,rfl⟩
 ·
  obtain ⟨r,C,rfl⟩:∃ r C',C = r::C':=by
   cases C with
   | nil=>simp only [List.length_nil] at hf'; omega
   | cons r C=>exact ⟨r,C,rfl⟩
  simp only [List.length_cons,List.length_nil,List.nil_append] at hf' hkn hf h ⊢
  obtain ⟨IA,x,IC,rfl,hIA,hIC⟩:=zQW (L:=its) (a:=0) (c:=C.length) (by omega)
  obtain rfl:IA = []:=List.length_eq_zero_iff.1 hIA
  obtain ⟨U,V,hU1,hU2⟩:=zO4 (IA:=[]) (IC:=IC) (A:=[]) (C:=C) rfl hIC.symm
  simp only [List.nil_append] at hU1 hU2 hl hf' h ⊢
  rw [hU2] at h
  simp only [List.length_cons] at hl hf'
  refine s_f ?_
  unfold zFL
  repeat first | refine zh ?_ | refine qU ?_
  refine s_t ?_ (by simp; omega)
  repeat first | refine zh ?_ | refine qU ?_
  refine vZ (s:=kd) (i:=1) ?_
  refine zCB (s:=kd) (x:=ptr r) (zI5 (zKy (A:=[]))) ?_
  refine vg ?_
  refine zX (qN G.toBtT d (r::C)) ?_
  refine zHr (A:=[]) ?_
  refine zNN fun sr kr ir cr hfr hlr hrne hrL=>?_
  refine yS sr fun c1 c2 c3 c4=>?_
  have hsrn:=zDC c1
  repeat refine zh ?_
  by_cases hb3:2 < ir.length
  ·rw [show decide ((2:Int) < (sr.n:Int)) = true by simp; omega]
   obtain ⟨y,ir,rfl⟩:∃ y ir',ir = y::ir':=by
    cases ir with
    | nil=>simp at hb3
    | cons y ir=>exact ⟨y,ir,rfl⟩
   simp only [List.length_cons] at hb3 hlr
   refine zX (u7 G.toBtT d cr) ?_
   refine zq kr ?_
   refine zq sr ?_
   refine zQ r.1 ?_
   refine zX (u7 G.toBtT d cq) ?_
   refine zq kq ?_
   refine zq sq ?_
   refine zQ q.1 ?_
   refine zq kd ?_
   refine zq s ?_
   refine zQ n ?_
   refine zTR ok (A:=[]) (IA:=[]) rfl rfl (by simp only [List.length_nil]; omega) hIC.symm (by omega) hq1 hfr hfq fun Q' R' e s' kd'=>?_
   refine zX (qN G.toBtT d ([]++C)) ?_
   refine zX (yE G.toBtT d 2 r.1 R') ?_
   refine zX (yE G.toBtT d 2 q.1 Q') ?_
   refine zq kd' ?_
   refine zq s' ?_
   refine zQ n ?_
   refine zRf (A:=[]) (by simp; omega) (by simp; omega) ?_
   simp only [List.nil_append]
   rw [hU2,show U++(q.1,Q').2++y::((r.1,R').2++V) = U++(Q'++y::R')++V by simp,e,← hqL,← hrL]
   simpa using h
  ·rw [show decide ((2:Int) < (sr.n:Int)) = false by simp; omega]
   refine zX (u7 G.toBtT d cr) ?_
   refine zq kr ?_
   refine zq sr ?_
   refine zQ r.1 ?_
   refine zX (u7 G.toBtT d cq) ?_
   refine zq kq ?_
   refine zq sq ?_
   refine zQ q.1 ?_
   refine zq kd ?_
   refine zq s ?_
   refine zQ n ?_
   refine zO3 ok (A:=[]) (IA:=[]) (by simp) rfl (by simp only [List.length_nil]; omega) hIC.symm (by omega) hfq hfr fun s' kd'=>?_
   refine zX (qN G.toBtT d ([]++C)) ?_
   refine zX (yE G.toBtT d 2 q.1 (wv iq cq++x::wv ir cr)) ?_
   refine zq kd' ?_
   refine zq s' ?_
   refine zQ n ?_
   refine zLt (A:=[]) (by simp; omega) (by simp; omega) ?_
   simp only [List.nil_append]
   have h2:=hU1 (q.1,wv iq cq++x::wv ir cr)
   rw [h2,← hqL,← hrL]
   simpa using h
 ·
  simp only [List.concat_eq_append,List.append_assoc,List.singleton_append] at hf' hkn hf h ⊢
  have hAl:(A++[p]).length = A.length + 1:=by simp
  rw [hAl] at hf' hkn ⊢
  obtain ⟨IA,x,IC,rfl,hIA,hIC⟩:=zQW (L:=its) (a:=A.length) (c:=C.length) (by omega)
  obtain ⟨U,V,hU1,hU2⟩:=zO4 (IA:=IA) (IC:=IC) (A:=A) (C:=C) hIA hIC.symm
  have hil:(IA++x::IC).length = IA.length + (IC.length + 1):=by simp
  rw [hU2] at h
  rw [hil] at hl
  refine s_t ?_
  repeat first | refine zh ?_ | refine qU ?_
  refine vZ (s:=kd) (i:=A.length) ?_
  refine zCB (s:=kd) (x:=ptr p) (zI5 zLR) ?_
  refine vg ?_
  refine zX (qN G.toBtT d (A++p::C)) ?_
  refine zHr ?_
  refine zNN fun sp kp ip cp hfp hlp hpne hpL=>?_
  refine yS sp fun c1 c2 c3 c4=>?_
  have hspn:=zDC c1
  repeat refine zh ?_
  by_cases hb3:2 < ip.length
  ·rw [show decide ((2:Int) < (sp.n:Int)) = true by simp; omega]
   rcases List.eq_nil_or_concat ip with rfl | ⟨ip,y,rfl⟩
   ·simp at hb3
   simp only [List.concat_eq_append] at hb3 hlp hfp hpL ⊢
   have hipl:(ip++[y]).length = ip.length + 1:=by simp
   rw [hipl] at hb3 hlp
   refine zX (u7 G.toBtT d cq) ?_
   refine zq kq ?_
   refine zq sq ?_
   refine zQ q.1 ?_
   refine zX (u7 G.toBtT d cp) ?_
   refine zq kp ?_
   refine zq sp ?_
   refine zQ p.1 ?_
   refine zq kd ?_
   refine zq s ?_
   refine zQ n ?_
   refine zXk ok (A:=A) (by omega) hIA (by omega) hIC.symm (by omega) hq1 hfp hfq fun P' Q' e s' kd'=>?_
   refine zX (qN G.toBtT d (A++C)) ?_
   refine zX (yE G.toBtT d 2 q.1 Q') ?_
   refine zX (yE G.toBtT d 2 p.1 P') ?_
   refine zq kd' ?_
   refine zq s' ?_
   refine zQ n ?_
   refine zRf (by simp; omega) (by simp; omega) ?_
   rw [hU2,show U++(p.1,P').2++y::((q.1,Q').2++V) = U++(P'++y::Q')++V by simp,e,← hqL,← hpL]
   simpa using h
  rw [show decide ((2:Int) < (sp.n:Int)) = false by simp; omega]
  unfold zFL
  repeat first | refine zh ?_ | refine qU ?_
  cases C with
  | nil=>
   refine s_f ?_ (by simp only [List.length_nil] at hkn; simp; omega)
   refine zX (u7 G.toBtT d cq) ?_
   refine zq kq ?_
   refine zq sq ?_
   refine zQ q.1 ?_
   refine zX (u7 G.toBtT d cp) ?_
   refine zq kp ?_
   refine zq sp ?_
   refine zQ p.1 ?_
   refine zq kd ?_
   refine zq s ?_
   refine zQ n ?_
   refine zO3 ok (by simp only [gt_iff_lt]; split <;> omega) hIA (by omega) hIC.symm (by omega) hfp hfq fun s' kd'=>?_
   refine zX (qN G.toBtT d (A++[])) ?_
   refine zX (yE G.toBtT d 2 p.1 (wv ip cp++x::wv iq cq)) ?_
   refine zq kd' ?_
   refine zq s' ?_
   refine zQ n ?_
   refine zLt (by simp only [List.length_append,List.length_cons]; omega) (by simp only [List.length_append]; omega) ?_
   rw [hU1,← hqL,← hpL]
   simpa using h
  | cons r C=>
   simp only [List.length_cons] at hf' hkn hIC
   obtain ⟨x2,IC,rfl⟩:∃ x2 IC',IC = x2::IC':=by
    cases IC with
    | nil=>simp at hIC
    | cons x2 IC=>exact ⟨x2,IC,rfl⟩
   simp only [List.length_cons] at hIC hl
   refine s_t ?_ (by simp; omega)
   repeat first | refine zh ?_ | refine qU ?_
   refine vZ (s:=kd) (i:=A.length + 2) ?_
   refine zCB (s:=kd) (x:=ptr r) (zI5 (by rw [show A++p::q::r::C = (A++[p])++q::r::C by simp,show A.length + 2 = (A++[p]).length + 1 by simp]; exact zKy)) ?_
   refine vg ?_
   refine zX (qN G.toBtT d (A++r::C)) ?_
   refine zHr ?_
   refine zNN fun sr kr ir cr hfr hlr hrne hrL=>?_
   refine yS sr fun g1 g2 g3 g4=>?_
   have hsrn:=zDC g1
   repeat refine zh ?_
   by_cases hb4:2 < ir.length
   ·rw [show decide ((2:Int) < (sr.n:Int)) = true by simp; omega]
    obtain ⟨y,ir,rfl⟩:∃ y ir',ir = y::ir':=by
     cases ir with
     | nil=>simp at hb4
     | cons y ir=>exact ⟨y,ir,rfl⟩
    simp only [List.length_cons] at hb4 hlr
    refine zX (u7 G.toBtT d cp) ?_
    refine zq kp ?_
    refine zq sp ?_
    refine zQ p.1 ?_
    refine zDi (m:=2) hfp hlp (fun _=>.inr (hpne rfl)) ?_
    rw [← hpL]
    rw [show A++p::q::r::C = (A++[p])++q::r::C by simp,show IA++x::x2::IC = (IA++[x])++x2::IC by simp]
    refine zX (u7 G.toBtT d cr) ?_
    refine zq kr ?_
    refine zq sr ?_
    refine zQ r.1 ?_
    refine zX (u7 G.toBtT d cq) ?_
    refine zq kq ?_
    refine zq sq ?_
    refine zQ q.1 ?_
    refine zq kd ?_
    refine zq s ?_
    refine zQ n ?_
    refine zTR ok (A:=A++[p]) (IA:=IA++[x]) (by rw [hAl]) (by simp [hIA]) (by simp; omega) (by omega) (by omega) hq1 hfr hfq fun Q' R' e s' kd'=>?_
    refine zX (qN G.toBtT d (A++C)) ?_
    refine zX (yE G.toBtT d 2 p.1 p.2) ?_
    refine zC6 ?_
    rw [show A++p::C = (A++[p])++C by simp]
    refine zX (qN G.toBtT d ((A++[p])++C)) ?_
    refine zX (yE G.toBtT d 2 r.1 R') ?_
    refine zX (yE G.toBtT d 2 q.1 Q') ?_
    refine zq kd' ?_
    refine zq s' ?_
    refine zQ n ?_
    refine zRf (by simp; omega) (by simp; omega) ?_
    obtain ⟨U',V',hV1,hV2⟩:=zO4 (IA:=IA++[x]) (IC:=IC) (A:=A++[p]) (C:=C) (by simp [hIA]) (by omega)
    have h3:=hV2 q x2 r
    have h4:=hU2 p x q
    rw [show (IA++[x])++x2::IC = IA++x::x2::IC by simp,show (A++[p])++q::r::C = A++p::q::r::C by simp,h4] at h3
    rw [hV2,show U'++(q.1,Q').2++y::((r.1,R').2++V') = U'++(Q'++y::R')++V' by simp,e,← hqL,← hrL]
    rw [h3] at h
    simpa using h
   ·rw [show decide ((2:Int) < (sr.n:Int)) = false by simp; omega]
    refine zX (u7 G.toBtT d cr) ?_
    refine zq kr ?_
    refine zq sr ?_
    refine zQ r.1 ?_
    refine zDi (m:=2) hfr hlr (fun _=>.inr (hrne rfl)) ?_
    rw [← hrL]
    refine zX (qN G.toBtT d (A++C)) ?_
    refine zX (yE G.toBtT d 2 r.1 r.2) ?_
    refine zC6 ?_
    refine zX (u7 G.toBtT d cq) ?_
    refine zq kq ?_
    refine zq sq ?_
    refine zQ q.1 ?_
    refine zX (u7 G.toBtT d cp) ?_
    refine zq kp ?_
    refine zq sp ?_
    refine zQ p.1 ?_
    refine zq kd ?_
    refine zq s ?_
    refine zQ n ?_
    refine zO3 ok (by simp only [gt_iff_lt]; split <;> omega) hIA (by simp; omega) (by simp; omega) (by omega) hfp hfq fun s' kd'=>?_
    refine zX (qN G.toBtT d (A++r::C)) ?_
    refine zX (yE G.toBtT d 2 p.1 (wv ip cp++x::wv iq cq)) ?_
    refine zq kd' ?_
    refine zq s' ?_
    refine zQ n ?_
    refine zLt (by simp only [List.length_append,List.length_cons]; omega) (by simp only [List.length_append,List.length_cons]; omega) ?_
    rw [hU1,← hqL,← hpL]
    simpa using h
end
end Bt
end
section
open Go Go.RowKit
namespace Bt
section
variable {κ:Type} {G:BtD κ} {c:κ→κ→Int} {B:World} {Γ Δ:List zB}
theorem zV7:∀ {its:List G.It} {A:List (Kid G.toBtT)},its.length = A.length→∃ U:List G.It,∀ p:Kid G.toBtT,wv its (A++[p]) = U++p.2
 | [],[],_=>⟨[],fun p=>by simp [wv]⟩
 | a::its,r::A,h=>by
  obtain ⟨U,h1⟩:=zV7 (its:=its) (A:=A) (by simpa using h)
  exact ⟨r.2++a::U,fun p=>by simp [wv,h1]⟩
 | [],_::_,h=>by simp at h
 | _::_,[],h=>by simp at h
theorem zRg (ok:zI4 G c):∀ (d:Nat) {b:Nat} {L:List G.It} {Γ:List zB} {Q:Array Value→K},
  (∀ L0 x,L = L0++[x]→HG B (yE G.toBtT d 0 b L0::Γ) (Q (G.f x).toArray))→HG B (yE G.toBtT d 2 b L::Γ) (G.nlastC (some ⟨b,0,none⟩) Q):=by
 have okT:=ok.toBtOk
 intro d
 induction d with
 | zero=>
  intro b L Γ Q h
  refine fun w hw=>ok.last _ _ _ ?_
  refine hg hw ?_
  clear hw w
  refine zHC fun s kd hne hl=>?_
  rcases List.eq_nil_or_concat L with rfl | ⟨L0,x,rfl⟩
  ·exact absurd rfl (hne rfl)
  simp only [List.concat_eq_append] at h hl ⊢
  have hll:(L0++[x]).length = L0.length + 1:=by simp
  rw [hll] at hl
  refine yS s fun a1 a2 a3 a4=>?_
  refine yS kd fun b1 b2 b3 b4=>?_
  have hsn:=zDC a1
  have hkn:=zEa b1
  rw [hll] at hsn
  simp only [List.length_nil] at hkn
  unfold zV3
  refine zR fun t2=>?_
  repeat first | refine zh ?_ | refine qU ?_
  refine s_f ?_ (by simp; omega)
  repeat first | refine zh ?_ | refine qU ?_
  refine vZ (s:=s) (i:=L0.length) ?_
  refine zKx (s:=s) (x:=x) G.qd (by simp) ?_
  refine zR fun x5=>?_
  repeat refine zh ?_
  refine qX (b:=x5) ?_ (by simp [okT.vz.1]) (G.qd x) (zIC okT x)
  repeat first | refine zh ?_ | refine qU ?_
  refine zAC (lo:=0) (hi:=L0.length) (mx:=s.c) ?_
  rw [zJJ a3]
  repeat refine zh ?_
  refine zNQ (s:=s) (m:=L0.length) (by omega) a2 ?_
  rw [List.take_left]
  refine qW (b:=x5) (l':=G.f x) ?_ (List.take_of_length_le (by simp [G.qd])) (G.qd _)
  refine qX (b:=t2) ?_ (by simp [okT.vz.1]) (G.qd x) (zIC okT x)
  refine qW (b:=t2) (l':=G.f x) ?_ (List.take_of_length_le (by simp [G.qd])) (G.qd _)
  refine zq kd ?_
  refine zq ⟨s.a,L0.length,s.c⟩ ?_
  refine zQ b ?_
  refine zE3 (m:=0) (by simp) (by omega) ?_
  exact zC (h L0 x rfl)
 | succ d ih=>
  intro b L Γ Q h
  refine fun w hw=>ok.last _ _ _ ?_
  refine hg hw ?_
  clear hw w
  refine zNN fun s kd its ks hf hl hne hL=>?_
  subst hL
  have hf':ks.length = its.length + 1:=hf
  rcases List.eq_nil_or_concat ks with rfl | ⟨A,q,rfl⟩
  ·simp at hf'
  simp only [List.concat_eq_append] at h hf hf' ⊢
  have hkl:(A++[q]).length = A.length + 1:=by simp
  rw [hkl] at hf'
  refine zX (u7 G.toBtT (d + 1) (A++[q])) ?_
  refine zCh (A':=qN G.toBtT d (A++[q])) (fun _ h=>h) ?_
  refine zHr (A:=A) (C:=[]) ?_
  refine yS s fun a1 a2 a3 a4=>?_
  refine yS kd fun b1 b2 b3 b4=>?_
  have hsn:=zDC a1
  have hkn:=zEa b1
  rw [List.length_map,hkl] at hkn
  unfold zV3
  refine zR fun t2=>?_
  repeat first | refine zh ?_ | refine qU ?_
  rw [show ((kd.n:Nat):Int) - 1 = ((A.length:Nat):Int) by omega]
  refine s_t ?_ (by simp)
  repeat refine zh ?_
  refine vZ (s:=kd) (i:=A.length) ?_
  refine zCB (s:=kd) (x:=ptr q) (zI5 zLR) ?_
  refine zX (yE G.toBtT d 2 q.1 q.2) ?_
  refine ih (b:=q.1) (L:=q.2) fun L0 x e=>?_
  refine zR fun x4=>?_
  refine qX (b:=x4) ?_ (by simp [okT.vz.1]) (G.qd x) (zIC okT x)
  rw [show (A++[q]).map ptr = (A++[(q.1,L0)]).map ptr by simp [ptr]]
  refine zX (qN G.toBtT d (A++[])) ?_
  refine zX (yE G.toBtT d 0 q.1 L0) ?_
  refine zq kd ?_
  refine zq s ?_
  refine zQ b ?_
  refine zJe ok (q:=(q.1,L0)) (C:=[]) hl (hne rfl) (by simp; omega) ?_
  refine qW (b:=x4) (l':=G.f x) ?_ (List.take_of_length_le (by simp [G.qd])) (G.qd _)
  refine qX (b:=t2) ?_ (by simp [okT.vz.1]) (G.qd x) (zIC okT x)
  refine qW (b:=t2) (l':=G.f x) ?_ (List.take_of_length_le (by simp [G.qd])) (G.qd _)
  refine zC (h (wv its (A++[(q.1,L0)])) x ?_)
  obtain ⟨U,hU⟩:=zV7 (its:=its) (A:=A) (by omega)
  rw [hU,hU,e,List.append_assoc]
def zLu (c:κ→κ→Int) {ν:Type} (z:ν) (L:List (κ×ν)) (k:κ) (L':List (κ×ν)) (old:ν) (had:Bool):Prop :=
 (∃ A C,L = A++(k,old)::C∧L' = A++C∧had = true)∨((∃ A C,L = A++C∧(∀ x ∈ A,c x.1 k < 0)∧(∀ x ∈ C,c k x.1 < 0))∧L' = L∧old = z∧had = false)
theorem zLu.mid {ν:Type} {z old:ν} {A C L L':List (κ×ν)} {k:κ} {had:Bool} (hA:∀ x ∈ A,c x.1 k < 0) (hC:∀ x ∈ C,c k x.1 < 0) (h:zLu c z L k L' old had):zLu c z (A++L++C) k (A++L'++C) old had:=by
 rcases h with ⟨A',C',rfl,rfl,rfl⟩ | ⟨⟨A',C',rfl,h1,h2⟩,rfl,rfl,rfl⟩
 ·exact .inl ⟨A++A',C'++C,by simp,by simp,rfl⟩
 ·refine .inr ⟨⟨A++A',C'++C,by simp,fun x hx=>?_,fun x hx=>?_⟩,rfl,rfl,rfl⟩
  ·rcases List.mem_append.1 hx with hx | hx
   ·exact hA x hx
   ·exact h1 x hx
  ·rcases List.mem_append.1 hx with hx | hx
   ·exact h2 x hx
   ·exact hC x hx
theorem zLu.srt {ν:Type} {z old:ν} {L L':List (κ×ν)} {k:κ} {had:Bool} (h:zLu c z L k L' old had) (hs:Srt c L):Srt c L':=by
 rcases h with ⟨A',C',rfl,rfl,rfl⟩ | ⟨_,rfl,rfl,rfl⟩
 ·exact hs.sub ((List.Sublist.refl A').append (List.sublist_cons_self _ _))
 ·exact hs
theorem zLu.len {ν:Type} {z old:ν} {L L':List (κ×ν)} {k:κ} {had:Bool} (h:zLu c z L k L' old had):L.length = L'.length + (if had then 1 else 0):=by
 rcases h with ⟨A',C',rfl,rfl,rfl⟩ | ⟨_,rfl,rfl,rfl⟩
 ·simp; omega
 ·simp
theorem zRh (ok:zI4 G c):∀ (d:Nat) {m b:Nat} {M:List G.It} {k:κ} {Γ:List zB} {Q:Array Value→Bool→K},1 ≤ m→Srt c M →
  (∀ M' old had,zLu c (G.z0 ok.vz) M k M' old had→HG B (yE G.toBtT d 0 b M'::Γ) (Q old.1.toArray had)) →
  HG B (yE G.toBtT d m b M::Γ) (G.ntakeC (some ⟨b,0,none⟩) k Q):=by
 have okT:=ok.toBtOk
 intro d
 induction d with
 | zero=>
  intro m b M k Γ Q hm hs h
  refine fun w hw=>ok.take _ _ _ _ ?_
  refine hg hw ?_
  clear hw w
  refine zHC fun s kd _ hl=>?_
  refine yS s fun a1 a2 a3 a4=>?_
  refine yS kd fun b1 b2 b3 b4=>?_
  have hsn:=zDC a1
  have hkn:=zEa b1
  simp only [List.length_nil] at hkn
  unfold zV4
  refine zR fun v4=>?_
  refine zE2 okT (s:=s) (kd:=kd) hs (by omega) (fun A v0 C e=>?_) fun A C e hA hC=>?_
  ·subst e
   have hlen:(A++(k,v0)::C).length = A.length + (C.length + 1):=List.length_append
   repeat refine zh ?_
   rw [show decide ((kd.n:Int) = 0) = true by simp; omega]
   unfold zFM
   repeat refine zh ?_
   refine vZ (s:=s) (i:=A.length) ?_
   refine zEq (s:=s) (l':=v0.1) zE4 v0.2.1 ?_
   refine qX (b:=v4) ?_ okT.vz.1 v0.2.1 v0.2.2
   repeat first | refine zh ?_ | refine qU ?_
   obtain ⟨Z,hdel⟩:=ok.delI
   refine fun w hw=>hdel _ _ _ _ _ ?_
   refine hg hw ?_
   clear hw w
   rw [show ((A.length:Nat):Int) + 1 = ((A.length + 1:Nat):Int) by omega]
   refine zM4 (s:=s) (i:=A.length) (j:=A.length + 1) (by omega) (by omega) (by omega) (zEJ okT _) (fun s' hs'=>?_) okT.TI
   rw [zTQ]
   repeat refine zh ?_
   refine zD5 (v:=v0) ?_
   refine zq kd ?_
   refine zq s' ?_
   refine zQ b ?_
   refine zE3 (m:=0) (by simp) (by simp; omega) ?_
   exact zC (h _ _ _ (.inl ⟨A,C,rfl,rfl,rfl⟩))
  ·subst e
   repeat refine zh ?_
   unfold zFM
   repeat refine zh ?_
   refine s_f ?_ (by simp; omega)
   unfold zI2
   refine zD5 (v:=G.z0 okT.vz) ?_
   refine zq kd ?_
   refine zq s ?_
   refine zQ b ?_
   refine zE3 (m:=0) (by simp) hl ?_
   exact zC (h _ _ _ (.inr ⟨⟨A,C,rfl,hA,hC⟩,rfl,rfl,rfl⟩))
 | succ d ih=>
  intro m b M k Γ Q hm hs h
  refine fun w hw=>ok.take _ _ _ _ ?_
  refine hg hw ?_
  clear hw w
  refine zIp fun s kd q0 ps hne hl hM=>?_
  subst hM
  have hne:=hne hm
  refine yS s fun a1 a2 a3 a4=>?_
  refine yS kd fun b1 b2 b3 b4=>?_
  have hsn:=zDC a1
  have hkn:=zEa b1
  simp only [List.length_map,List.length_cons] at hsn hkn
  unfold zV4
  refine zR fun v4=>?_
  refine zE2 okT (s:=s) (kd:=kd) (hs.sub (zIo q0 ps)) (by simp; omega) (fun A v0 C e=>?_) fun A C e hA hC=>?_
  ·obtain ⟨l,q,r,hA,hC,hK,hL,hlen⟩:=zLS (q0:=q0) e
   rw [e,hK]
   rw [hL] at hs h
   obtain ⟨⟨xx,q1⟩,r,rfl,hxx,hC'⟩:=List.map_eq_cons_iff.1 hC.symm
   simp only at hxx
   subst hxx
   subst hA
   subst hC'
   simp only [List.length_cons] at hlen
   have hll:(l.map Prod.snd).length = l.length:=by simp
   have hlf:(l.map Prod.fst).length = l.length:=by simp
   repeat refine zh ?_
   rw [show decide ((kd.n:Int) = 0) = false by simp; omega]
   unfold zFM
   repeat refine zh ?_
   refine vZ (s:=s) (i:=(l.map Prod.snd).length) ?_
   refine zEq (s:=s) (l':=v0.1) zE4 v0.2.1 ?_
   refine qX (b:=v4) ?_ okT.vz.1 v0.2.1 v0.2.2
   refine vk ?_
   refine zBw [y7 G.toBtT b s kd,vC G.toBtT s (l.map Prod.snd++(k,v0)::r.map Prod.fst),vD G.toBtT kd ((l.map Prod.fst++q::(((k,v0),q1)::r).map Prod.snd).map ptr)] ?_
   repeat refine zh ?_
   refine vZ (s:=kd) (i:=(l.map Prod.fst).length) ?_ (by omega)
   refine zO1 (s:=kd) (c:=Value.pointer) (L:=(l.map Prod.fst++q::(((k,v0),q1)::r).map Prod.snd).map ptr) (x:=ptr q) (by simp) ?_
   refine zX (qN G.toBtT d (l.map Prod.fst++q::(((k,v0),q1)::r).map Prod.snd)) ?_
   refine zHr ?_
   refine zRg ok d (b:=q.1) (L:=q.2) fun L0 x e2=>?_
   repeat refine zh ?_
   refine vZ (s:=s) (i:=(l.map Prod.snd).length) ?_
   refine zRb (s:=s) (A:=l.map Prod.snd) (x:=(k,v0)) (y:=x) G.qd (zIC okT x) ?_
   rw [show (l.map Prod.fst++q::(((k,v0),q1)::r).map Prod.snd).map ptr = (l.map Prod.fst++(q.1,L0)::(((k,v0),q1)::r).map Prod.snd).map ptr by simp [ptr]]
   rw [show ((l.map Prod.snd).length:Int) = ((l.map Prod.fst).length:Int) by rw [hll,hlf]]
   refine zX (qN G.toBtT d (l.map Prod.fst++(((k,v0),q1)::r).map Prod.snd)) ?_
   refine zX (yE G.toBtT d 0 q.1 L0) ?_
   refine zq kd ?_
   refine zq s ?_
   refine zQ b ?_
   refine zJe ok (q:=(q.1,L0)) (by simp; omega) (by simp) (by simp; omega) ?_
   refine zD5 (v:=v0) ?_
   refine zC (h (wv (l.map Prod.snd++x::r.map Prod.fst) (l.map Prod.fst++(q.1,L0)::(((k,v0),q1)::r).map Prod.snd)) v0 true (.inl ⟨zCN l++q.2,q1.2++zBD r,?_,?_,rfl⟩))
   ·simp [zBD]
   ·obtain ⟨q0',ps',e3,e4,e5,e6⟩:=zM5 l (q.1,L0) ((x,q1)::r)
    rw [show l.map Prod.snd++x::r.map Prod.fst = ps'.map Prod.fst from e4.symm,show l.map Prod.fst++(q.1,L0)::(((k,v0),q1)::r).map Prod.snd = q0'::ps'.map Prod.snd from e5.symm,zJ4,e6,e2]
    simp [zBD]
  ·obtain ⟨l,q,r,rfl,rfl,hK,hL,hlen⟩:=zLS (q0:=q0) e
   rw [e,hK]
   rw [hL] at hs h
   have hll:(l.map Prod.snd).length = l.length:=by simp
   have hlf:(l.map Prod.fst).length = l.length:=by simp
   have hs1:=List.pairwise_append.1 hs
   have hs2:=List.pairwise_append.1 hs1.1
   have hpre:=zOh okT l hs2.1 hA
   have hpost:=zKr okT r hs1.2.1 hC
   repeat refine zh ?_
   unfold zFM
   repeat refine zh ?_
   refine s_t ?_ (by simp; omega)
   repeat refine zh ?_
   refine vZ (s:=kd) (i:=(l.map Prod.fst).length) ?_ (by omega)
   refine zCB (s:=kd) (x:=ptr q) (zI5 zLR) ?_
   refine zX (qN G.toBtT d (l.map Prod.fst++q::r.map Prod.snd)) ?_
   refine zHr ?_
   refine ih (m:=2) (b:=q.1) (M:=q.2) (by omega) hs2.2.1 fun M' old had hp=>?_
   refine qX (b:=v4) ?_ okT.vz.1 old.2.1 old.2.2
   rw [show (l.map Prod.fst++q::r.map Prod.snd).map ptr = (l.map Prod.fst++(q.1,M')::r.map Prod.snd).map ptr by simp [ptr]]
   rw [show ((l.map Prod.snd).length:Int) = ((l.map Prod.fst).length:Int) by rw [hll,hlf]]
   refine zX (qN G.toBtT d (l.map Prod.fst++r.map Prod.snd)) ?_
   refine zX (yE G.toBtT d 0 q.1 M') ?_
   refine zq kd ?_
   refine zq s ?_
   refine zQ b ?_
   refine zJe ok (q:=(q.1,M')) (by simp; omega) (fun h0=>hne ?_) (by simp; omega) ?_
   ·have:=congrArg List.length h0
    simp only [List.length_append,List.length_map,List.length_nil] at this
    exact List.length_eq_zero_iff.1 (by omega)
   unfold zI2
   refine zD5 (v:=old) ?_
   obtain ⟨q0',ps',e3,e4,e5,e6⟩:=zM5 l (q.1,M') r
   rw [← e4,← e5,zJ4,e6]
   exact zC (h _ _ _ (hp.mid hpre hpost))
theorem zTS (ok:zI4 G c) {t v4 d b:Nat} {L L':List G.It} {k:κ} {old:Cel G.nv} {had:Bool} {Q:Array Value→Bool→K} (hs:Srt c L) (hL:L.length < 1000000000) (hp:zLu c (G.z0 ok.vz) L k L' old had) (h:HG B (vK G.toBtT c t L'::Γ) (Q old.1.toArray had)) :
  HG B (zAl G.toBtT v4 old::blk t (.cells [.pointer (some ⟨b,0,none⟩),.int .i64 L.length].toArray G.tT (0,0))::yE G.toBtT d 1 b L'::Γ) (zKw G Q ⟨t,0,none⟩ ⟨v4,0,none⟩ had):=by
 have hlen:=hp.len
 unfold zKw
 refine zH (fun hb=>?_) fun hb=>?_
 ·rw [hb,if_pos rfl] at hlen
  repeat first | refine zh ?_ | refine qU ?_
  unfold zKv
  rw [show ((L.length:Nat):Int) - 1 = ((L'.length:Nat):Int) by omega]
  refine zD5 (v:=old) ?_
  refine zQ b ?_
  refine zQ t ?_
  exact zC7 (hp.srt hs) (zC h)
 ·rw [hb,if_neg (by simp)] at hlen
  unfold zKv
  rw [show ((L.length:Nat):Int) = ((L'.length:Nat):Int) by omega]
  refine zD5 (v:=old) ?_
  refine zQ b ?_
  refine zQ t ?_
  exact zC7 (hp.srt hs) (zC h)
theorem zUL (ok:zI4 G c) {t:Nat} {L:List G.It} {k:κ} {Q:Array Value→Bool→K} (hL:L.length < 1000000000) (h:∀ L' old had,zLu c (G.z0 ok.vz) L k L' old had→HG B (vK G.toBtT c t L'::Γ) (Q old.1.toArray had)) :
  HG B (vK G.toBtT c t L::Γ) (zZb G (some ⟨t,0,none⟩) k Q):=by
 have okT:=ok.toBtOk
 refine zLT fun d b hs=>?_
 unfold zZb
 refine zR fun v4=>?_
 repeat refine zh ?_
 refine zX (yE G.toBtT d 1 b L) ?_
 refine zRh ok d (m:=1) (Nat.le_refl _) hs fun M' old had hp=>?_
 have h:=h M' old had hp
 refine qX (b:=v4) ?_ okT.vz.1 old.2.1 old.2.2
 repeat refine zh ?_
 refine zQ b ?_
 refine zNN fun s kd its ks hf hl _ hM=>?_
 refine yS s fun a1 a2 a3 a4=>?_
 refine yS kd fun b1 b2 b3 b4=>?_
 have hsn:=zDC a1
 have hkn:=zEa b1
 rw [List.length_map] at hkn
 repeat refine zh ?_
 have back:((d = 0∧1 = 1)∨its ≠ [])→HG B (zI1 G.toBtT d b s kd its ks (zAl G.toBtT v4 old::blk t (.cells [.pointer (some ⟨b,0,none⟩),.int .i64 L.length].toArray G.tT (0,0))::Γ)) (zI3 G Q ⟨t,0,none⟩ ⟨v4,0,none⟩ had false):=fun hb=>by
  refine zDi (m:=1) hf hl (fun _=>hb) ?_
  rw [← hM]
  unfold zI3
  repeat refine zh ?_
  refine zQ b ?_
  refine zQ t ?_
  refine zX (zAl G.toBtT v4 old) ?_
  exact zTS ok hs hL hp h
 refine zH (fun hb=>?_) fun hb=>?_
 ·have hn:its = []:=List.length_eq_zero_iff.1 (by simp only [decide_eq_true_eq] at hb; omega)
  subst hn
  repeat refine zh ?_
  cases d with
  | zero=>
   have hk:ks = []:=hf
   subst hk
   rw [show decide ((kd.n:Int) = 1) = false by simp only [List.length_nil] at hkn; simp; omega]
   exact zC (back (.inl ⟨rfl,rfl⟩))
  | succ d=>
   obtain ⟨q,rfl⟩:∃ q,ks = [q]:=List.length_eq_one_iff.1 hf
   simp only [List.length_cons,List.length_nil] at hkn
   rw [show decide ((kd.n:Int) = 1) = true by simp; omega]
   unfold zI3
   repeat refine zh ?_
   refine vZ (s:=kd) (i:=0) ?_
   refine zCB (s:=kd) (x:=ptr q) (by simp) ?_
   refine zBY (b:=t) (v:=.pointer (some ⟨q.1,0,none⟩)) ?_
   refine zX (u7 G.toBtT (d + 1) [q]) ?_
   refine zCh (A':=qN G.toBtT d [q]) (fun _ h=>h) ?_
   refine zHr (A:=[]) (C:=[]) (q:=q) ?_
   refine zCh (yE.weak (m':=1) (by simp) (by simp)) ?_
   have e:q.2 = M':=hM.symm
   rw [e]
   refine zX (yE G.toBtT d 1 q.1 M') ?_
   refine zQ t ?_
   refine zX (zAl G.toBtT v4 old) ?_
   refine zTS ok hs hL hp ?_
   exact zC h
 ·have hn:its ≠ []:=fun h0=>by
   rw [h0,List.length_nil] at hsn
   simp only [decide_eq_false_iff_not] at hb; omega
  exact zC (back (.inr hn))
end
end Bt
end
end Go.Sep
namespace Go.Proofs.YtdemfamgieonbaaGreat
section
open Go Go.Sep Go.Sep.Bt
noncomputable def zad:BtD ByteArray where
 toBtT:=btS
 delIC:=zM.call
 delKC:=zZ.call
 ntakeC:=zi.call
 nlastC:=qZ.call
 nmendC:=za.call
theorem zXl:zI4 zad jA where
 toBtOk:=zJM
 delI:=⟨_,fun s i j Q w h=>vR _ _ _ _ _ h⟩
 zOe:=⟨_,fun s i j Q w h=>vU _ _ _ _ _ h⟩
 take:=fun n k Q w h=>zCD _ _ _ _ h
 last:=fun n Q w h=>zCE _ _ _ h
 mend:=fun n i Q w h=>zCF _ _ _ _ h
def zO5 (M:yY) (k:ByteArray):yY:=M.filter fun x=>!decide (x.1 = k)
def zKO (M:yY) (k:ByteArray) (r:Rec):yY:=if r.has = false∧r.cnt = 0 then zO5 M k else zEt M k r
theorem zJf {M:yY} {k:ByteArray} (h:∀ x ∈ M,x.1 ≠ k):zO5 M k = M:=List.filter_eq_self.2 fun x hx=>by simpa using h x hx
theorem zV8 {A C:yY} {k:ByteArray} {r:Rec} (hA:∀ x ∈ A,x.1 ≠ k) (hC:∀ x ∈ C,x.1 ≠ k):zO5 (A++(k,r)::C) k = A++C:=by
 unfold zO5
 rw [List.filter_append,List.filter_cons_of_neg (by simp)]
 exact congr (congrArg _ (zJf hA)) (zJf hC)
theorem zQX (M:yY) (k:ByteArray) (r:Rec):(zKO M k r).length ≤ M.length + 1:=by
 unfold zKO
 split
 ·have:=List.length_filter_le (fun x=>!decide (x.1 = k)) M
  unfold zO5; omega
 ·exact zP5 _ _ _
section
variable {B:World} {Γ Δ:List zB}
theorem zRi {t:Nat} {L:List btS.It} {k:ByteArray} {Q:Array Value→Bool→K} (hL:L.length < 1000000000) (h:∀ L' old had,zLu jA (btS.z0 zJM.vz) L k L' old had→HG B (vK btS jA t L'::Γ) (Q old.1.toArray had)) :
  HG B (vK btS jA t L::Γ) (zI.call (some ⟨t,0,none⟩) k Q):=fun w hw=>
 zBr _ _ _ _ (show zZb zad (some ⟨t,0,none⟩) k Q w from hg hw (zUL zXl hL h))
theorem zUM {X Y:List zBQ} {k:ByteArray} {r:Rec×Sl} (h:Srt jA ((X++(k,r)::Y).map ji)):∀ x ∈ Y,jA k x.1 < 0:=fun x hx=>by
 rw [List.map_append,List.map_cons] at h
 exact (List.pairwise_cons.1 (List.pairwise_append.1 h).2.1).1 (ji x) (List.mem_map.2 ⟨x,hx,rfl⟩)
theorem zQY {st t n:Nat} {X:List zBQ} {k:ByteArray} {q:Array Value→Bool→K} (hok:∀ x ∈ X.map zAd,x.2.ok) (h1:1 ≤ n) (h3:n ≤ 3) (hL:X.length < 1000000000)
  (h:∀ a b,HG B (ze st n (zO5 (X.map zAd) k)::Γ) (q a b)) :
  HG B (blk st (.cells [.int .i64 n,.pointer (some ⟨t,0,none⟩)].toArray qI (0,0))::vK btS jA t (X.map ji)::Sep.stars (X.map jd)::Γ) (zI.call (some ⟨t,0,none⟩) k q):=by
 refine zQ t ?_
 refine zLU fun hs=>?_
 refine zRi (by simpa using hL) fun L' old had hp=>?_
 rcases hp with ⟨A,C,e,rfl,rfl⟩ | ⟨⟨A,C,e,hA,hC⟩,rfl,rfl,rfl⟩
 ·obtain ⟨XA,r0,XC,rfl,rfl,rfl,rfl⟩:=zJO e
  have e2:zO5 ((XA++(k,r0)::XC).map zAd) k = (XA++XC).map zAd:=by
   rw [List.map_append,List.map_cons,List.map_append]
   refine zV8 (fun x hx=>?_) fun x hx=>?_
   ·obtain ⟨y,hy,rfl⟩:=List.mem_map.1 hx
    exact ne_of_lt (zJP hs y hy)
   ·obtain ⟨y,hy,rfl⟩:=List.mem_map.1 hx
    exact Ne.symm (ne_of_lt (zUM hs y hy))
  rw [e2] at h
  refine zX (Sep.stars ((XA++(k,r0)::XC).map jd)) ?_
  refine zEk ?_
  rw [show XA.map ji++XC.map ji = (XA++XC).map ji by simp]
  refine zX (Sep.stars ((XA++XC).map jd)) ?_
  refine zQ t ?_
  refine zQ st ?_
  refine zBV (fun x hx=>hok x ?_) h1 h3 (zC (h _ _))
  rw [List.map_append] at hx ⊢
  rcases List.mem_append.1 hx with hx | hx
  ·exact List.mem_append_left _ hx
  ·exact List.mem_append_right _ (List.mem_cons_of_mem _ hx)
 ·have e2:zO5 (X.map zAd) k = X.map zAd:=zJf fun x hx=>by
   obtain ⟨y,hy,rfl⟩:=List.mem_map.1 hx
   have hy2:ji y ∈ A++C:=by rw [← e]; exact List.mem_map.2 ⟨y,hy,rfl⟩
   rcases List.mem_append.1 hy2 with h4 | h4
   ·exact ne_of_lt (hA _ h4)
   ·exact Ne.symm (ne_of_lt (hC _ h4))
  rw [e2] at h
  refine zX (Sep.stars (X.map jd)) ?_
  refine zQ t ?_
  refine zQ st ?_
  exact zBV hok h1 h3 (zC (h _ _))
theorem zGk {st n:Nat} {M:yY} {k:ByteArray} {r:Rec} {s:Sl} {q:K} (hr:r.ok) (hL:M.length < 1000000000) (h:HG B (ze st n (zKO M k r)::Γ) q):HG B (ze st n M::Bytes yO s r.val::Γ) (qP.call (some ⟨st,0,none⟩) k (zIr r s) q):=by
 unfold zKO at h
 split at h
 ·rename_i h0
  refine fun w hw=>zEW _ _ _ _ _ ?_
  refine hg hw ?_
  clear hw w
  refine zHD fun t X hM hok h1 h3=>?_
  subst hM
  unfold qP
  refine zR fun r5=>?_
  repeat refine zh ?_
  refine s_t ?_ (by simp [h0.1])
  repeat refine zh ?_
  rw [show decide (r.cnt = 0) = true by simpa using h0.2]
  unfold qP.s1
  repeat refine zh ?_
  refine zX (Sep.stars (X.map jd)) ?_
  refine zQ t ?_
  refine zQ st ?_
  exact zQY hok h1 h3 (by simpa using hL) fun _ _=>zC h
 ·rename_i h0
  refine zHs hr ?_ hL h
  by_cases h1:r.has = true
  ·exact .inl h1
  ·exact .inr fun h2=>h0 ⟨by simpa using h1,h2⟩
theorem zLv {st n:Nat} {M:yY} {k:ByteArray} {v:Sl} {xs:List UInt8} {q:K} (hk:k.size < 1000000000000) (hL:M.length < 1000000000) (hr:∀ w,Holds B Γ w→RdB w v xs) (hx:xs.length ≤ 1000000000)
  (h:HG B (ze st n (zKO M k { vo n M k with has:=true,val:=xs })::Γ) q):HG B (ze st n M::Γ) (zAe.call (some ⟨st,0,none⟩) k v q):=by
 refine fun w hw=>zH7 _ _ _ _ _ ?_
 refine hg hw ?_
 clear hw w
 unfold zAe
 refine zAM hk fun s hok=>?_
 generalize vo n M k = r at *
 refine zR fun r6=>?_
 refine qX (b:=r6) (l':=zBv r s) ?_
 refine zBW (fun w hw=>hr w hw.drops) hx fun s' _=>?_
 repeat refine zh ?_
 refine zq s' ?_
 refine zQ st ?_
 obtain ⟨o1,o2,o3⟩:=hok
 refine zGk (r:={ r with has:=true,val:=xs }) ⟨o1,o2,hx⟩ hL ?_
 exact zC h
theorem zJg {st n:Nat} {M:yY} {k:ByteArray} {q:K} (hk:k.size < 1000000000000) (hL:M.length < 1000000000)
  (h:HG B (ze st n (zKO M k { vo n M k with has:=false,val:=[] })::Γ) q):HG B (ze st n M::Γ) (jS.call (some ⟨st,0,none⟩) k q):=by
 refine fun w hw=>zF4 _ _ _ _ ?_
 refine hg hw ?_
 clear hw w
 unfold jS
 refine zAM hk fun s hok=>?_
 generalize vo n M k = r at *
 refine zR fun r6=>?_
 refine qX (b:=r6) (l':=zBv r s) ?_
 repeat refine zh ?_
 refine fun w hw=>?_
 refine hg (show Holds B (Bytes yO ⟨none,0,0⟩ []::_) w from hw.zAk yO 1) ?_
 clear hw w
 refine zq ⟨none,0,0⟩ ?_
 refine zQ st ?_
 obtain ⟨o1,o2,o3⟩:=hok
 refine zGk (r:={ r with has:=false,val:=[] }) ⟨o1,o2,by simp⟩ hL ?_
 exact zC h
end
end
section
open Go Go.Sep Go.Sep.Bt
def zXm (n:Nat) (M:yY) (k:ByteArray) (xs:List UInt8):yY:=zKO M k { vo n M k with has:=true,val:=xs }
def zXn (n:Nat) (M:yY) (k:ByteArray):yY:=zKO M k { vo n M k with has:=false,val:=[] }
def zFe (n:Nat) (M:yY) (x:List UInt8×Rec):yY:=if (vo n M (bs x.1)).cnt ≠ x.2.cnt then (zE6 n M (bs x.1) x.2.home).1 else M
def zCG (n:Nat) (M:yY) (x:List UInt8×Rec):yY:=if x.2.has then zXm n (zFe n M x) (bs x.1) x.2.val else zXn n (zFe n M x) (bs x.1)
def zBM (n:Nat) (M:yY) (W:WM):yY:=W.foldl (zCG n) M
theorem zRj (n:Nat) (M:yY) (k:ByteArray) (to:Int):(zE6 n M k to).1.length ≤ M.length + 1:=by
 unfold zE6
 split
 ·simp
 split
 ·simp
 exact zP5 _ _ _
theorem zLw (n:Nat) (M:yY) (x:List UInt8×Rec):(zFe n M x).length ≤ M.length + 1:=by
 unfold zFe
 split
 ·exact zRj _ _ _ _
 ·omega
theorem zLx (n:Nat) (M:yY) (x:List UInt8×Rec):(zCG n M x).length ≤ M.length + 2:=by
 have h:=zLw n M x
 unfold zCG zXm zXn
 split
 ·exact Nat.le_trans (zQX _ _ _) (by omega)
 ·exact Nat.le_trans (zQX _ _ _) (by omega)
section
variable {B:World} {Γ Δ:List zB} {st n:Nat} {M:yY}
instance (priority:=high) zZx {b n m:Nat}:zC2 (((⟨b,0,none⟩:Addr).add n).add m) b (n + m):=⟨by rw [uV,uV,Nat.zero_add]⟩
abbrev zae (x:List UInt8×(Rec×Sl)):List Value:=[xU x.1,.bool x.2.1.has,x.2.2.val,.int .i64 x.2.1.home,.int .u64 x.2.1.cnt]
theorem zV9 {s:Sl} {R:WX} {Q:K} (hr:∀ w,Holds B Γ w→RdC w s 5 (R.flatMap zHb)) (hv:∀ x ∈ R,∀ w,Holds B Γ w→RdB w x.2.2 x.2.1.val) (hR:∀ x ∈ R,x.1.length < 1000000000∧x.2.1.ok) (hL:M.length + 2 * R.length < 100000000)
  (h:HG B (ze st n (zBM n M (qV R))::Γ) Q):HG B (ze st n M::Γ) (xI.call (some ⟨st,0,none⟩) s Q):=fun w hw=>by
 refine zMW _ _ _ _ ?_
 have hsn:s.n = R.length:=zAb zLp (by omega) (hr w hw.tail)
 refine hg hw ?_
 clear hw w
 unfold xI
 refine vQ (α:=Int) (ι:=Nat×yY) (fun x i=>x = (i.1:Int)∧i.1 ≤ R.length∧i.2 = zBM n M (qV (R.take i.1))∧i.2.length ≤ M.length + 2 * i.1) (fun x i=>ze st n i.2::Γ) (fun x i=>R.length - i.1) (0,M) ⟨rfl,Nat.zero_le _,rfl,Nat.le_refl _⟩ ?_
 rintro k' _ ⟨i,N⟩ ⟨rfl,hi,hN,hNl⟩ hk'
 simp only at hi hN hNl hk' ⊢
 unfold xI.b1
 refine zH (fun hb=>?_) fun hb=>?_
 ·have hil:i < R.length:=by simp only [decide_eq_true_eq] at hb; omega
  have hge:R[i]? = some R[i]:=List.getElem?_eq_getElem hil
  have hmem:R[i] ∈ R:=List.getElem_mem hil
  have htk:R.take (i + 1) = R.take i++[R[i]]:=List.take_succ_eq_append_getElem hil
  generalize R[i] = x at hge hmem htk
  obtain ⟨hxk,hxo⟩:=hR x hmem
  have hsz:(bs x.1).size = x.1.length:=rfl
  refine zAw zHb zLp (fun w hw=>hr w hw.tail) hge ?_
  refine zR fun w5=>?_
  refine qX (b:=w5) (l':=zae x) ?_
  repeat refine zh ?_
  refine zQ st ?_
  refine zAM (by omega) fun sl hok=>?_
  repeat refine zh ?_
  have next:∀ N2,N2 = zFe n N (x.1,x.2.1)→HG B (blk w5 (.cells (zae x).toArray xX (0,0))::ze st n N2::Γ) (xI.s3 Q k' (some ⟨st,0,none⟩) ⟨w5,0,none⟩ s (s.n:Int) (i:Int)):=fun N2 hN2=>by
   have hl0:=zLw n N (x.1,x.2.1)
   have hl1:=zLx n N (x.1,x.2.1)
   have fin:HG B (ze st n (zCG n N (x.1,x.2.1))::Γ) (xI.s2 Q k' (some ⟨st,0,none⟩) s (s.n:Int) (i:Int)):=by
    unfold xI.s2
    refine qU ?_
    refine hk' ((i:Int) + 1) (i + 1,zCG n N (x.1,x.2.1)) ⟨by simp,hil,?_,by simp only; omega⟩ (by simp only; omega)
    simp only [htk,qV,List.map_append,List.map_cons,List.map_nil,zBM,List.foldl_append,List.foldl_cons,List.foldl_nil]
    rw [hN]; rfl
   unfold xI.s3
   repeat refine zh ?_
   refine zH (fun hc=>?_) fun hc=>?_
   ·repeat refine zh ?_
    refine zQ st ?_
    refine zLv (by omega) (by rw [hN2]; omega) (fun w hw=>hv x hmem w hw.drops) hxo.2.2 ?_
    have e:zKO N2 (bs x.1) { vo n N2 (bs x.1) with has:=true,val:=x.2.1.val } = zCG n N (x.1,x.2.1):=by
     unfold zCG zXm; rw [if_pos hc,← hN2]
    rw [e]
    exact zC fin
   ·repeat refine zh ?_
    refine zQ st ?_
    refine zJg (by omega) (by rw [hN2]; omega) ?_
    have e:zKO N2 (bs x.1) { vo n N2 (bs x.1) with has:=false,val:=[] } = zCG n N (x.1,x.2.1):=by
     unfold zCG zXn; rw [if_neg (by simp [hc]),← hN2]
    rw [e]
    exact zC fin
  refine zH (fun hc=>?_) fun hc=>?_
  ·have hc':(vo n N (bs x.1)).cnt ≠ x.2.1.cnt:=by simpa using hc
   repeat refine zh ?_
   refine zQ st ?_
   refine zLa (M:=N) (by omega) (by omega) ?_
   exact zC (next _ (by unfold zFe; rw [if_pos hc']))
  ·have hc':¬ (vo n N (bs x.1)).cnt ≠ x.2.1.cnt:=by simpa using hc
   exact zC (next _ (by unfold zFe; rw [if_neg hc']))
 ·have hil:i = R.length:=by simp only [decide_eq_false_iff_not] at hb; omega
  rw [hil,List.take_length] at hN
  rw [hN]
  exact h
end
end
end Go.Proofs.YtdemfamgieonbaaGreat
