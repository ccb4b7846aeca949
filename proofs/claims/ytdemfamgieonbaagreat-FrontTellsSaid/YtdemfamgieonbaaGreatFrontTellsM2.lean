/- Texts of the claim FrontTells, one behind the other. -/
import Derived.Test.YtdemfamgieonbaaGreatFrontTellsM1
import Derived.Test.YtdemfamgieonbaaGreatProg
import Derived.DefersIn
import Derived.RangeFuncLeaves
import Derived.Maps.RangeRun
import Derived.Laws.StructEq
set_option linter.all false
namespace Go.Sep
open Go
inductive Scr where
 | e
 | s (l:List Nat) (t:Scr)
 | a (l:List (Nat×Nat×Scr))
 | i (x y:Scr)
structure DH (id mode:Nat) (ds:List Nat) (t:Scr):Prop
def lst (n:Nat) (done:List Nat):Array Bool:=(Array.range n).map fun i=>done.contains i
theorem zPA (n i:Nat) (done:List Nat):(lst n done).setIfInBounds i true = lst n (i::done):=by
 apply Array.ext
 ·simp [lst]
 ·intro j h1 h2
  have h3:j < (lst n done).size:=by simpa using h1
  rw [Array.getElem_setIfInBounds h3]
  by_cases h:i = j
  ·subst h; simp [lst]
  ·have h':¬ j = i:=fun e=>h e.symm
   simp [lst,h,h']
theorem zLh (n:Nat):Array.replicate n false = lst n []:=by
 apply Array.ext
 ·simp [lst]
 ·intro j h1 h2; simp [lst]
def Dx (P:Program) (ops:Array Oper) (Q:Exit→Act→World→Prop) (S:World→Prop) (ds done:List Nat) (t:Scr):Act→World→Prop:=fun a w=>Tight Q→wpAnyD P ops Q S ds (ops.size - done.length) (lst ops.size done) a w
def Al (S:World→Prop) (k:K):K:=fun w=>S w∧k w
def Ox (P:Program) (ops:Array Oper) (Q:Exit→Act→World→Prop) (S:World→Prop) (ds done:List Nat) (i tag:Nat) (t:Scr):Act→World→Prop:=fun a w=>Tight Q →
 opW P ops Q i (fun a' w'=>(alive ds (lst ops.size done) = true→i ∉ ds→S w→S w')∧wpAnyD P ops Q S ds (ops.size - done.length - 1) (lst ops.size (i::done)) a' w') a w
def Ax (P:Program) (ops:Array Oper) (Q:Exit→Act→World→Prop) (S:World→Prop) (ds done:List Nat) (l:List (Nat×Nat×Scr)):Act→World→Prop:=fun a w=>∀ p ∈ l,Ox P ops Q S ds done p.1 p.2.1 p.2.2 a w
def takeC (ops:Array Oper) (ds done:List Nat) (i:Nat):Bool :=
 Region.noSelect ops && Region.free .any ops (lst ops.size done) i && (Region.ready .any ops (lst ops.size done)).contains i && !ds.contains i && Nat.ble (done.length + 1) ops.size
def closedB (ops:Array Oper) (l:Array Bool):Bool :=
 (List.range ops.size).all fun j=>match ops[j]? with
  | some oj=>!l.getD j false || oj.after.all fun e=>!Region.binds .any e || l.getD e.on false
  | none=>true
def reachF (ops:Array Oper) (i:Nat):Nat→Nat→List Nat→List Nat
 | 0,_,acc=>acc
 | n + 1,k,acc=>match (match ops[k]? with
   | some o=>o.after.any fun e=>Region.binds .any e && (e.on == i || acc.contains e.on)
   | none=>false) with
  | true=>reachF ops i n (k + 1) (k::acc)
  | false=>reachF ops i n (k + 1) acc
theorem zG8 {ops:Array Oper} {i:Nat}:∀ (n k:Nat) (acc:List Nat),(∀ x ∈ acc,∃ m,reach ops i m x = true)→∀ d ∈ reachF ops i n k acc,∃ m,reach ops i m d = true
 | 0,_,_,h,d,hd=>h d hd
 | n + 1,k,acc,h,d,hd=>by
  unfold reachF at hd
  split at hd
  ·rename_i hb
   refine zG8 n (k + 1) (k::acc) (fun x hx=>?_) d hd
   rcases List.mem_cons.1 hx with rfl | hx
   ·cases ho:ops[x]? with
    | none=>simp [ho] at hb
    | some o =>
     simp only [ho,Array.any_eq_true'] at hb
     obtain ⟨e,he,hb⟩:=hb
     simp only [Bool.and_eq_true,Bool.or_eq_true] at hb
     rcases hb.2 with h2 | h2
     ·refine ⟨1,?_⟩
      simp only [reach,ho,Array.any_eq_true']
      exact ⟨e,he,by simp [hb.1,h2]⟩
     ·obtain ⟨m,hm⟩:=h e.on (List.contains_iff_mem.1 h2)
      refine ⟨m + 1,?_⟩
      simp only [reach,ho,Array.any_eq_true']
      exact ⟨e,he,by simp [hb.1,hm]⟩
   ·exact h x hx
  ·exact zG8 n (k + 1) acc h d hd
def readC (ops:Array Oper) (ds done:List Nat) (i:Nat):Bool:=takeC ops ds done i && closedB ops (lst ops.size done) && ds.all fun d=>(reachF ops i (d - i) (i + 1) []).contains d
theorem zNi {ops:Array Oper} {l:Array Bool} (h:closedB ops l = true):Closed ops l:=fun j oj hj hl e he hb=>by
 have h1:=List.all_eq_true.1 h j (by simpa using (Array.getElem?_eq_some_iff.1 hj).1)
 simp only [hj,hl,Bool.not_true,Bool.false_or,Array.all_eq_true_iff_forall_mem] at h1
 have h2:=h1 e he
 simpa [hb] using h2
theorem zPu {Q:Exit→Act→World→Prop} {K:Act→World→Prop} (h:Tight Q):Tight (Exit.then K Q):=fun c a w hc=>h c a w hc
theorem zQa {Q:Exit→Act→World→Prop} {i:Nat} (h:Tight Q):Tight (Exit.inBlock i Q):=fun c a w hc=>h c a w hc
theorem zOd {P:Program} {fn:Func} {kk:Value→K}:Tight (bodyPost P fn (Ret kk)):=fun _ _ _ h=>h.2
theorem zHy {Q:Exit→Act→World→Prop} (h:Tight Q:=by repeat (first | refine zPu ?_ | refine zQa ?_ | exact zOb | exact zOd)):Tight Q:=h
section
variable {P:Program} {dl:List Deferred} {n:Nat} {σ τ:List (Nat×Value)} {k:K} {X:Act→World→Prop} {ops:Array Oper} {Q:Exit→Act→World→Prop} {l:List Oper} {o:Oper} {v:Value} {S:World→Prop} {ds done:List Nat} {i:Nat} {is:List Nat} {t:Scr}
theorem zFm {T:World→Prop} (hi:ops[i]? = some o) (hc:takeC ops ds done i = true) (hT:(∀ w,T w)∨(T = S∧readC ops ds done i = true)) (hQ:Tight Q) {a:Act} {w:World} (hy:YieldsIf P ops T o v a) (hw:T w)
  (h:wpAnyD P ops Q S ds (ops.size - (i::done).length) (lst ops.size (i::done)) (a.put o.dst v) w):wpAnyD P ops Q S ds (ops.size - done.length) (lst ops.size done) a w:=by
 simp only [takeC,Bool.and_eq_true,Bool.not_eq_true'] at hc
 obtain ⟨⟨⟨⟨h1,h2⟩,h3⟩,h4⟩,h5⟩:=hc
 have h5:=Nat.le_of_ble_eq_true h5
 rw [show ops.size - done.length = (ops.size - (i::done).length) + 1 by simp only [List.length_cons]; omega]
 refine zNR hi (by intro hm; rw [List.contains_iff_mem.2 hm] at h4; cases h4) (Region.noSelect_spec h1) hQ _ _ a w (Region.free_spec hi h2) ?_ (by simpa using h3) hy hw (by rw [zPA]; exact h)
 rcases hT with h | ⟨h,hr⟩
 ·exact .inl h
 ·simp only [readC,Bool.and_eq_true] at hr
  exact .inr ⟨h,zNi hr.1.2,fun d hd=>zG8 _ _ _ (by simp) d (List.contains_iff_mem.1 (List.all_eq_true.1 hr.2 d hd))⟩
theorem dx_p {d:Nat} (h:G dl n ((d,v)::σ) k (Dx P ops Q S ds (i::done) (.s is t))) (hi:ops[i]? = some o:=by rfl) (hd:o.dst = some d:=by rfl) (hw:wants ops σ o = some true:=by rfl) (hp:Pure P σ o v:=by exact zLa) (hc:takeC ops ds done i = true:=by as_aux_lemma=>kernel_rfl)
  (hn:Nat.ble (d + 1) n = true:=by rfl):G dl n σ k (Dx P ops Q S ds done (.s (i::is) t)):=fun a w hs hk hQ =>
 zFm (T:=fun _=>True) hi hc (.inl fun _=>trivial) hQ (.inl ⟨zCE hs.1 hw,fun w _=>hp { a with defers:=[] } n hs.1 w⟩) trivial (by rw [hd]; exact h _ w (hs.put (Nat.le_of_ble_eq_true hn) v) hk hQ)
def less (ds:List Nat) (i:Nat):List Nat:=ds.filter fun j=>!Nat.beq j i
theorem zNj:∀ d ∈ less ds i,d ∈ ds:=fun d hd=>(List.mem_filter.1 hd).1
theorem dx_no {d:Nat} (h:G dl n ((d,undef)::σ) k (Dx P ops Q S (less ds i) (i::done) (.s is t))) (hi:ops[i]? = some o:=by rfl) (hd:o.dst = some d:=by rfl) (hw:wants ops σ o = some false:=by rfl) (hc:takeC ops (less ds i) done i = true:=by as_aux_lemma=>kernel_rfl)
  (hn:Nat.ble (d + 1) n = true:=by rfl):G dl n σ k (Dx P ops Q S ds done (.s (i::is) t)):=fun a w hs hk hQ =>
 zIo zNj _ _ _ _ (zFm (T:=fun _=>True) (v:=undef) hi hc (.inl fun _=>trivial) hQ (.inr ⟨zCE hs.1 hw,rfl⟩) trivial (by rw [hd]; exact h _ w (hs.put (Nat.le_of_ble_eq_true hn) undef) hk hQ))
theorem dx_no' (h:G dl n σ k (Dx P ops Q S (less ds i) (i::done) (.s is t))) (hi:ops[i]? = some o:=by rfl) (hd:o.dst = none:=by rfl) (hw:wants ops σ o = some false:=by rfl) (hc:takeC ops (less ds i) done i = true:=by as_aux_lemma=>kernel_rfl):G dl n σ k (Dx P ops Q S ds done (.s (i::is) t)):=fun a w hs hk hQ =>
 zIo zNj _ _ _ _ (zFm (T:=fun _=>True) (v:=undef) hi hc (.inl fun _=>trivial) hQ (.inr ⟨zCE hs.1 hw,rfl⟩) trivial (by rw [hd]; exact h _ w hs hk hQ))
theorem dx_end (h:G dl n σ k (Dx P ops Q S ds done t)):G dl n σ k (Dx P ops Q S ds done (.s [] t)):=h
section
variable {α:Type} {vx:α→Value} {k':α→K} {d:Nat}
theorem dx_wp (h:∀ x,G dl n ((d,vx x)::σ) (k' x) (Dx P ops Q S ds (i::done) (.s is t))) (hi:ops[i]? = some o:=by rfl) (hd:o.dst = some d:=by rfl) (hw:wants ops σ o = some true:=by rfl) (hp:WP P σ o k vx k':=by exact zJO) (hc:takeC ops ds done i = true:=by as_aux_lemma=>kernel_rfl)
  (hn:Nat.ble (d + 1) n = true:=by rfl):G dl n σ k (Dx P ops Q S ds done (.s (i::is) t)):=fun a w hs hk hQ=>by
 obtain ⟨x,hp,hk⟩:=hp w hk
 exact zFm (T:=fun _=>True) hi hc (.inl fun _=>trivial) hQ (.inl ⟨zCE hs.1 hw,fun w _=>hp { a with defers:=[] } n hs.1 w⟩) trivial (by rw [hd]; exact h x _ w (hs.put (Nat.le_of_ble_eq_true hn) _) hk hQ)
theorem dx_wpA (h:∀ x,G dl n ((d,vx x)::σ) (Al S (k' x)) (Dx P ops Q S ds (i::done) (.s is t))) (hi:ops[i]? = some o:=by rfl) (hd:o.dst = some d:=by rfl) (hw:wants ops σ o = some true:=by rfl) (hp:WP P σ o k vx k':=by exact zJO) (hc:takeC ops ds done i = true:=by as_aux_lemma=>kernel_rfl)
  (hn:Nat.ble (d + 1) n = true:=by rfl):G dl n σ (Al S k) (Dx P ops Q S ds done (.s (i::is) t)):=fun a w hs ⟨hS,hk⟩ hQ=>by
 obtain ⟨x,hp,hk⟩:=hp w hk
 exact zFm (T:=fun _=>True) hi hc (.inl fun _=>trivial) hQ (.inl ⟨zCE hs.1 hw,fun w _=>hp { a with defers:=[] } n hs.1 w⟩) trivial (by rw [hd]; exact h x _ w (hs.put (Nat.le_of_ble_eq_true hn) _) ⟨hS,hk⟩ hQ)
theorem dx_r0 (h:∀ x,G dl n ((d,vx x)::σ) (Al S (k' x)) (Dx P ops Q S ds (i::done) (.s is t))) (hi:ops[i]? = some o) (hd:o.dst = some d) (hw:wants ops σ o = some true) (hp:∀ w,S w→k w→∃ x,(∀ w,S w→Eff P σ o w (.value (vx x)) w)∧k' x w) (hc:readC ops ds done i = true)
  (hn:Nat.ble (d + 1) n = true):G dl n σ (Al S k) (Dx P ops Q S ds done (.s (i::is) t)):=fun a w hs ⟨hS,hk⟩ hQ=>by
 obtain ⟨x,hp,hk⟩:=hp w hS hk
 have hc':takeC ops ds done i = true:=by simp only [readC,Bool.and_eq_true] at hc; exact hc.1.1
 exact zFm (T:=S) hi hc' (.inr ⟨rfl,hc⟩) hQ (.inl ⟨zCE hs.1 hw,fun w hw=>hp w hw { a with defers:=[] } n hs.1⟩) hS (by rw [hd]; exact h x _ w (hs.put (Nat.le_of_ble_eq_true hn) _) ⟨hS,hk⟩ hQ)
theorem dx_is {w1:World} (h:∀ x,G dl n ((d,vx x)::σ) (Al (Is w1) (k' x)) (Dx P ops Q (Is w1) ds (i::done) (.s is t))) (hi:ops[i]? = some o:=by rfl) (hd:o.dst = some d:=by rfl) (hw:wants ops σ o = some true:=by rfl) (hp:WR P σ o k vx k':=by exact zGM) (hc:readC ops ds done i = true:=by as_aux_lemma=>kernel_rfl)
  (hn:Nat.ble (d + 1) n = true:=by rfl):G dl n σ (Al (Is w1) k) (Dx P ops Q (Is w1) ds done (.s (i::is) t)):=dx_r0 h hi hd hw hp.is hc hn
theorem dx_S (h:∀ x,G dl n ((d,vx x)::σ) (Al S (k' x)) (Dx P ops Q S ds (i::done) (.s is t))) (hi:ops[i]? = some o:=by rfl) (hd:o.dst = some d:=by rfl) (hw:wants ops σ o = some true:=by rfl) (hp:WS P S σ o k vx k':=by exact zTE) (hc:readC ops ds done i = true:=by as_aux_lemma=>kernel_rfl)
  (hn:Nat.ble (d + 1) n = true:=by rfl):G dl n σ (Al S k) (Dx P ops Q S ds done (.s (i::is) t)):=dx_r0 h hi hd hw (fun w _ hk=>hp w hk) hc hn
end
theorem dx_nil (h:G dl n σ k (Ex Q .normal)) (hc:Region.ready .any ops (lst ops.size done) = []:=by as_aux_lemma=>kernel_rfl):G dl n σ k (Dx P ops Q S ds done .e):=fun a w hs hk _=>by
 show wpAnyD P ops Q S ds (ops.size - done.length) (lst ops.size done) a w
 cases ops.size - done.length with
 | zero=>exact ⟨hc,h a w hs hk⟩
 | succ m=>exact ⟨fun _=>h a w hs hk,by rw [hc]; simp⟩
theorem zCT (h:G dl n σ k X):G dl n σ (Al S k) X:=fun a w hs hk=>h a w hs hk.2
theorem dx_ite {b:Bool} {x y:K} {s t:Scr} (h1:b = true→G dl n σ x (Dx P ops Q S ds done s)) (h2:b = false→G dl n σ y (Dx P ops Q S ds done t)):G dl n σ (Ite b x y) (Dx P ops Q S ds done (.i s t)):=fun a w hs hk=>by
 cases b
 ·exact h2 rfl a w hs (hk.2 rfl)
 ·exact h1 rfl a w hs (hk.1 rfl)
theorem zJY {b:Bool} {x y:K} {s t:Scr} (h1:b = true→G dl n σ (Al S x) (Dx P ops Q S ds done s)) (h2:b = false→G dl n σ (Al S y) (Dx P ops Q S ds done t)):G dl n σ (Al S (Ite b x y)) (Dx P ops Q S ds done (.i s t)):=fun a w hs ⟨hS,hk⟩=>by
 cases b
 ·exact h2 rfl a w hs ⟨hS,hk.2 rfl⟩
 ·exact h1 rfl a w hs ⟨hS,hk.1 rfl⟩
theorem al_nn {p:Option Addr} {kp:Addr→K} (h:∀ a,p = some a→G dl n σ (Al S (kp a)) X):G dl n σ (Al S (Nn p kp)) X:=fun a w hs ⟨hS,b,hb,hk⟩=>h b hb a w hs ⟨hS,hk⟩
theorem al_fv {f:Value} {kf:FuncId→Array Value→Array Value→K} (h:∀ g fs cs,f = .func (.func g) fs cs→CB P g→G dl n σ (Al S (kf g fs cs)) X):G dl n σ (Al S (Fv P f kf)) X:=fun a w hs ⟨hS,g,fs,cs,hf,hc,hk⟩=>h g fs cs hf ⟨hc⟩ a w hs ⟨hS,hk⟩
theorem al_an1 {α:Type} {d:Nat} {u:Value} {c:α→Value} {k:α→K} (h:∀ x,G dl n ((d,c x)::σ) (Al S (k x)) X):G dl n ((d,u)::σ) (Al S (Ans1 c k u)) X:=fun a w hs ⟨hS,x,hu,hk⟩=>h x a w (hu ▸ hs) ⟨hS,hk⟩
theorem al_an2 {α β:Type} {d:Nat} {u:Value} {c:α→β→Value} {k:α→β→K} (h:∀ x y,G dl n ((d,c x y)::σ) (Al S (k x y)) X):G dl n ((d,u)::σ) (Al S (Ans2 c k u)) X:=fun a w hs ⟨hS,x,y,hu,hk⟩=>h x y a w (hu ▸ hs) ⟨hS,hk⟩
theorem dx_a {m:List (Nat×Nat×Scr)} (h:G dl n σ k (Ax P ops Q S ds done m)) (hr:Region.ready .any ops (lst ops.size done) = m.map (·.1):=by as_aux_lemma=>kernel_rfl) (hl:(Nat.ble (done.length + 1) ops.size && !m.isEmpty) = true:=by rfl):G dl n σ k (Dx P ops Q S ds done (.a m)):=fun a w hs hk hQ=>by
 simp only [Bool.and_eq_true,Bool.not_eq_true'] at hl
 have h5:=Nat.le_of_ble_eq_true hl.1
 show wpAnyD P ops Q S ds (ops.size - done.length) (lst ops.size done) a w
 have h0:=h a w hs hk
 rw [show ops.size - done.length = (ops.size - done.length - 1) + 1 by omega]
 refine ⟨fun h0=>?_,fun i hi=>?_⟩
 ·rw [h0] at hr
  cases m with
  | nil=>simp at hl
  | cons p m=>simp at hr
 ·rw [hr] at hi
  obtain ⟨p,hp,rfl⟩:=List.mem_map.1 hi
  have:=h0 p hp hQ
  rw [zPA]
  exact this
theorem ax_all {ks:List K} {m:List (Nat×Nat×Scr)} {i tag:Nat} {t:Scr} (h1:G dl n σ k (Ox P ops Q S ds done i tag t)) (h2:G dl n σ (All ks) (Ax P ops Q S ds done m)):G dl n σ (All (k::ks)) (Ax P ops Q S ds done ((i,tag,t)::m)):=fun a w hs hk p hp=>by
 rcases List.mem_cons.1 hp with rfl | hp
 ·exact h1 a w hs (hk 0 _ rfl)
 ·exact h2 a w hs (fun j x hx=>hk (j + 1) x (by simpa using hx)) p hp
theorem zJZ {ks:List K} {m:List (Nat×Nat×Scr)} {i tag:Nat} {t:Scr} (h1:G dl n σ (Al S k) (Ox P ops Q S ds done i tag t)) (h2:G dl n σ (Al S (All ks)) (Ax P ops Q S ds done m)):G dl n σ (Al S (All (k::ks))) (Ax P ops Q S ds done ((i,tag,t)::m)):=fun a w hs ⟨hS,hk⟩ p hp=>by
 rcases List.mem_cons.1 hp with rfl | hp
 ·exact h1 a w hs ⟨hS,hk 0 _ rfl⟩
 ·exact h2 a w hs ⟨hS,fun j x hx=>hk (j + 1) x (by simpa using hx)⟩ p hp
theorem ax_nil:G dl n σ k (Ax P ops Q S ds done []):=fun _ _ _ _ _ hp=>by cases hp
theorem ax_one {i tag:Nat} {t:Scr} (h1:G dl n σ k (Ox P ops Q S ds done i tag t)):G dl n σ k (Ax P ops Q S ds done [(i,tag,t)]):=fun a w hs hk p hp=>by
 rcases List.mem_cons.1 hp with rfl | hp
 ·exact h1 a w hs hk
 ·cases hp
def okK (ops:Array Oper) (S:World→Prop) (ds done:List Nat) (i:Nat):Prop:=(∀ w,S w)∨(ds.contains i || !alive ds (lst ops.size done)) = true
theorem okK.keep (h:okK ops S ds done i) (w w':World):alive ds (lst ops.size done) = true→i ∉ ds→S w→S w':=fun ha hi _=>by
 rcases h with h | h
 ·exact h w'
 ·rw [ha] at h
  simp only [Bool.not_true,Bool.or_false] at h
  exact absurd (List.contains_iff_mem.1 h) hi
theorem zE7 (h:okK ops S ds done i:=by first | exact .inl (fun _=>trivial) | exact .inr (by as_aux_lemma=>kernel_rfl)):okK ops S ds done i:=h
theorem ox_run {a:Act} {w:World} (hs:SlotsD dl a n σ) (hi:ops[i]? = some o) (hw:wants ops σ o = some true) {tag:Nat} (h:Tight Q→o.wpIn Fence.wide 0 P a w (fun a' w'=>(alive ds (lst ops.size done) = true→i ∉ ds→S w→S w')∧wpAnyD P ops Q S ds (ops.size - done.length - 1) (lst ops.size (i::done)) a' w') Q):Ox P ops Q S ds done i tag t a w:=by
 intro hQ
 unfold opW wpOpIn
 simp only [hi,zCE hs.1 hw,if_true]
 exact h hQ
theorem dn_len {m:Nat}:ops.size - done.length - 1 = ops.size - (i::done).length:=by simp only [List.length_cons]; omega
section
variable {α:Type} {vx:α→Value} {k':α→K} {d:Nat} {k1:K}
theorem ox_e (h:∀ x,G dl n ((d,vx x)::σ) (k' x) (Dx P ops Q S ds (i::done) t)) (hi:ops[i]? = some o:=by rfl) (hd:o.dst = some d:=by rfl) (hw:wants ops σ o = some true:=by rfl) (hp:WE P σ o k vx k':=by first | exact zGN | exact WR.we zGM) (hK:okK ops S ds done i:=by exact zE7)
  (hn:Nat.ble (d + 1) n = true:=by rfl) (nd:isDef o.op = false:=by rfl):G dl n σ k (Ox P ops Q S ds done i 0 t):=fun a w hs hk=>by
 obtain ⟨x,w',hp,h'⟩:=hp w hk
 refine ox_run hs hi hw fun hQ=>(zD7 (r:=none) hs nd hp ⟨hK.keep w w',?_⟩)
 rw [hd,dn_len (m:=0)]; exact h x _ w' (hs.put (Nat.le_of_ble_eq_true hn) _) h' hQ
theorem ox_en (h:∀ x,G dl n σ (k' x) (Dx P ops Q S ds (i::done) t)) (hi:ops[i]? = some o:=by rfl) (hd:o.dst = none:=by rfl) (hw:wants ops σ o = some true:=by rfl) (hp:WE P σ o k vx k':=by exact zGN) (hK:okK ops S ds done i:=by exact zE7)
  (nd:isDef o.op = false:=by rfl):G dl n σ k (Ox P ops Q S ds done i 0 t):=fun a w hs hk=>by
 obtain ⟨x,w',hp,h'⟩:=hp w hk
 refine ox_run hs hi hw fun hQ=>(zD7 (r:=none) hs nd hp ⟨hK.keep w w',?_⟩)
 rw [hd,dn_len (m:=0)]; exact h x _ w' hs h' hQ
theorem ox_k (h:G dl n σ k1 (Dx P ops Q S ds (i::done) t)) (hi:ops[i]? = some o:=by rfl) (hd:o.dst = none:=by rfl) (hw:wants ops σ o = some true:=by rfl) (hp:WK P σ o k k1:=by exact zLb) (hK:okK ops S ds done i:=by exact zE7)
  (nd:isDef o.op = false:=by rfl):G dl n σ k (Ox P ops Q S ds done i 0 t):=fun a w hs hk=>by
 obtain ⟨w',hp,h'⟩:=hp w hk
 refine ox_run hs hi hw fun hQ=>(zLf (r:=none) hs nd hp ⟨hK.keep w w',?_⟩)
 rw [hd,dn_len (m:=0)]; exact h _ w' hs h' hQ
theorem ox_c {kk:Value→K} (h:∀ u,G dl n ((d,u)::σ) (kk u) (Dx P ops Q S ds (i::done) t)) (hi:ops[i]? = some o:=by rfl) (hd:o.dst = some d:=by rfl) (hw:wants ops σ o = some true:=by rfl) (hp:WC P σ o k kk:=by exact zHH) (hK:okK ops S ds done i:=by exact zE7)
  (hn:Nat.ble (d + 1) n = true:=by rfl) (nd:isDef o.op = false:=by rfl):G dl n σ k (Ox P ops Q S ds done i 0 t):=fun a w hs hk=>by
 obtain ⟨f,args,w',hp,hc⟩:=hp w hk
 refine ox_run hs hi hw fun hQ=>(zHJ (r:=none) hs nd hp hc fun v w1 h'=>⟨hK.keep w w1,?_⟩)
 rw [hd,dn_len (m:=0)]; exact h v _ w1 (hs.put (Nat.le_of_ble_eq_true hn) _) h' hQ
theorem ox_cn {kk:Value→K} (h:∀ u,G dl n σ (kk u) (Dx P ops Q S ds (i::done) t)) (hi:ops[i]? = some o:=by rfl) (hd:o.dst = none:=by rfl) (hw:wants ops σ o = some true:=by rfl) (hp:WC P σ o k kk:=by exact zHH) (hK:okK ops S ds done i:=by exact zE7)
  (nd:isDef o.op = false:=by rfl):G dl n σ k (Ox P ops Q S ds done i 0 t):=fun a w hs hk=>by
 obtain ⟨f,args,w',hp,hc⟩:=hp w hk
 refine ox_run hs hi hw fun hQ=>(zHJ (r:=none) hs nd hp hc fun v w1 h'=>⟨hK.keep w w1,?_⟩)
 rw [hd,dn_len (m:=0)]; exact h v _ w1 hs h' hQ
theorem ox_y {kk:Value→K} (h:∀ u,G dl n ((d,u)::σ) (kk u) (Dx P ops Q S ds (i::done) t)) (hi:ops[i]? = some o:=by rfl) (hd:o.dst = some d:=by rfl) (hw:wants ops σ o = some true:=by rfl) (hp:WY P σ o k kk:=by exact wy_y rfl rfl rfl) (hK:okK ops S ds done i:=by exact zE7)
  (hn:Nat.ble (d + 1) n = true:=by rfl) (nd:isDef o.op = false:=by rfl):G dl n σ k (Ox P ops Q S ds done i 0 t):=fun a w hs hk=>by
 obtain ⟨y,args,hp,hc⟩:=hp w hk
 refine ox_run hs hi hw fun hQ=>(zNh hs nd hp hc fun v w1 h'=>⟨hK.keep w w1,?_⟩)
 rw [hd,dn_len (m:=0)]; exact h v _ w1 (hs.put (Nat.le_of_ble_eq_true hn) _) h' hQ
theorem ox_e1 (h:∀ x,G dl n ((d,vx x)::σ) (Al S (k' x)) (Dx P ops Q S ds (i::done) t)) (hi:ops[i]? = some o:=by rfl) (hd:o.dst = some d:=by rfl) (hw:wants ops σ o = some true:=by rfl) (hp:WE P σ o k vx (fun x=>Sv S (k' x)):=by exact zGN)
  (hn:Nat.ble (d + 1) n = true:=by rfl) (nd:isDef o.op = false:=by rfl):G dl n σ (Al S k) (Ox P ops Q S ds done i 1 t):=fun a w hs ⟨_,hk⟩=>by
 obtain ⟨x,w',hp,hS,h'⟩:=hp w hk
 refine ox_run hs hi hw fun hQ=>(zD7 (r:=none) hs nd hp ⟨fun _ _ _=>hS,?_⟩)
 rw [hd,dn_len (m:=0)]; exact h x _ w' (hs.put (Nat.le_of_ble_eq_true hn) _) ⟨hS,h'⟩ hQ
theorem ox_en1 (h:∀ x,G dl n σ (Al S (k' x)) (Dx P ops Q S ds (i::done) t)) (hi:ops[i]? = some o:=by rfl) (hd:o.dst = none:=by rfl) (hw:wants ops σ o = some true:=by rfl) (hp:WE P σ o k vx (fun x=>Sv S (k' x)):=by exact zGN)
  (nd:isDef o.op = false:=by rfl):G dl n σ (Al S k) (Ox P ops Q S ds done i 1 t):=fun a w hs ⟨_,hk⟩=>by
 obtain ⟨x,w',hp,hS,h'⟩:=hp w hk
 refine ox_run hs hi hw fun hQ=>(zD7 (r:=none) hs nd hp ⟨fun _ _ _=>hS,?_⟩)
 rw [hd,dn_len (m:=0)]; exact h x _ w' hs ⟨hS,h'⟩ hQ
theorem ox_k1 (h:G dl n σ (Al S k1) (Dx P ops Q S ds (i::done) t)) (hi:ops[i]? = some o:=by rfl) (hd:o.dst = none:=by rfl) (hw:wants ops σ o = some true:=by rfl) (hp:WK P σ o k (Sv S k1):=by exact zLb)
  (nd:isDef o.op = false:=by rfl):G dl n σ (Al S k) (Ox P ops Q S ds done i 1 t):=fun a w hs ⟨_,hk⟩=>by
 obtain ⟨w',hp,hS,h'⟩:=hp w hk
 refine ox_run hs hi hw fun hQ=>(zLf (r:=none) hs nd hp ⟨fun _ _ _=>hS,?_⟩)
 rw [hd,dn_len (m:=0)]; exact h _ w' hs ⟨hS,h'⟩ hQ
def SvA (S:World→Prop) (kk:Value→K) (kS:Value→K):Prop:=∀ u w,kk u w→S w∧kS u w
theorem sva_0 {v0:Value} {k:K}:SvA S (Ans0 v0 (Sv S k)) (Ans0 v0 k):=fun _ _ ⟨h,hS,hk⟩=>⟨hS,h,hk⟩
theorem sva_1 {α:Type} {c:α→Value} {k:α→K}:SvA S (Ans1 c fun x=>Sv S (k x)) (Ans1 c k):=fun _ _ ⟨x,h,hS,hk⟩=>⟨hS,x,h,hk⟩
theorem sva_2 {α β:Type} {c:α→β→Value} {k:α→β→K}:SvA S (Ans2 c fun x y=>Sv S (k x y)) (Ans2 c k):=fun _ _ ⟨x,y,h,hS,hk⟩=>⟨hS,x,y,h,hk⟩
theorem sva_3 {α β γ:Type} {c:α→β→γ→Value} {k:α→β→γ→K}:SvA S (Ans3 c fun x y z=>Sv S (k x y z)) (Ans3 c k):=fun _ _ ⟨x,y,z,h,hS,hk⟩=>⟨hS,x,y,z,h,hk⟩
theorem ox_c1 {kk kS:Value→K} (h:∀ u,G dl n ((d,u)::σ) (Al S (kS u)) (Dx P ops Q S ds (i::done) t)) (hi:ops[i]? = some o:=by rfl) (hd:o.dst = some d:=by rfl) (hw:wants ops σ o = some true:=by rfl) (hp:WC P σ o k kk:=by exact zHH)
  (hS:SvA S kk kS:=by first | exact sva_1 | exact sva_0 | exact sva_2 | exact sva_3) (hn:Nat.ble (d + 1) n = true:=by rfl) (nd:isDef o.op = false:=by rfl):G dl n σ (Al S k) (Ox P ops Q S ds done i 1 t):=fun a w hs ⟨_,hk⟩=>by
 obtain ⟨f,args,w',hp,hc⟩:=hp w hk
 refine ox_run hs hi hw fun hQ=>(zHJ (r:=none) hs nd hp hc fun v w1 h'=>⟨fun _ _ _=>(hS v w1 h').1,?_⟩)
 rw [hd,dn_len (m:=0)]; exact h v _ w1 (hs.put (Nat.le_of_ble_eq_true hn) _) (hS v w1 h') hQ
theorem ox_r2 (h:∀ x,G dl n ((d,vx x)::σ) (k' x) (Dx P ops Q S ds (i::done) t)) (hi:ops[i]? = some o:=by rfl) (hd:o.dst = some d:=by rfl) (hw:wants ops σ o = some true:=by rfl) (hp:WR P σ o k vx k':=by exact zGM)
  (hn:Nat.ble (d + 1) n = true:=by rfl) (nd:isDef o.op = false:=by rfl):G dl n σ k (Ox P ops Q S ds done i 2 t):=fun a w hs hk=>by
 obtain ⟨x,hp,h'⟩:=hp w hk
 refine ox_run hs hi hw fun hQ=>(zD7 (r:=none) hs nd hp ⟨fun _ _ h=>h,?_⟩)
 rw [hd,dn_len (m:=0)]; exact h x _ w (hs.put (Nat.le_of_ble_eq_true hn) _) h' hQ
theorem ox_r2A (h:∀ x,G dl n ((d,vx x)::σ) (Al S (k' x)) (Dx P ops Q S ds (i::done) t)) (hi:ops[i]? = some o:=by rfl) (hd:o.dst = some d:=by rfl) (hw:wants ops σ o = some true:=by rfl) (hp:WR P σ o k vx k':=by exact zGM)
  (hn:Nat.ble (d + 1) n = true:=by rfl) (nd:isDef o.op = false:=by rfl):G dl n σ (Al S k) (Ox P ops Q S ds done i 2 t):=fun a w hs ⟨hS,hk⟩=>by
 obtain ⟨x,hp,h'⟩:=hp w hk
 refine ox_run hs hi hw fun hQ=>(zD7 (r:=none) hs nd hp ⟨fun _ _ h=>h,?_⟩)
 rw [hd,dn_len (m:=0)]; exact h x _ w (hs.put (Nat.le_of_ble_eq_true hn) _) ⟨hS,h'⟩ hQ
end
variable {k0:K} {id:Nat}
theorem zHz (h:G dl n σ k0 (Dx P l.toArray Q Any ds [] t)) (hh:DH id 0 ds t:=by assumption) (hQ:Tight Q:=by exact zHy) [hm:MX P]:G dl n σ (Dr k0) (Cx none P (.region id l.toArray true) Q):=fun a w hs ⟨w1,hw,hk⟩=>by
 subst hw
 have h1:=h a _ hs hk hQ
 refine wpIn_region_any hm.h (zFW (S:=Any) (ds:=ds) _ _ _ _ ?_)
 rw [zLh]; exact h1
theorem zH0 (h:∀ w1,G dl n σ (Al (Is w1) k0) (Dx P l.toArray Q (Is w1) ds [] t)) (hh:DH id 1 ds t:=by assumption) (hQ:Tight Q:=by exact zHy) [hm:MX P]:G dl n σ (Dr k0) (Cx none P (.region id l.toArray true) Q):=fun a w hs ⟨w1,hw,hk⟩=>by
 subst hw
 have h1:=h _ a _ hs ⟨Is.intro _,hk⟩ hQ
 refine wpIn_region_any hm.h (zFW (S:=Is { w with drawn:=w.drawn + 1 }) (ds:=ds) _ _ _ _ ?_)
 rw [zLh]; exact h1
theorem zH1 {kS:(World→Prop)→K} (h:∀ S,G dl n σ (Al S (kS S)) (Dx P l.toArray Q S ds [] t)) (hh:DH id 2 ds t:=by assumption) (hQ:Tight Q:=by exact zHy) [hm:MX P]:G dl n σ (Dr (WithS kS)) (Cx none P (.region id l.toArray true) Q):=fun a w hs ⟨w1,hw,S,hS,hk⟩=>by
 subst hw
 have h1:=h S a _ hs ⟨hS,hk⟩ hQ
 refine wpIn_region_any hm.h (zFW (S:=S) (ds:=ds) _ _ _ _ ?_)
 rw [zLh]; exact h1
def Sx (P:Program) (ops:Array Oper) (Q:Exit→Act→World→Prop) (l:List Oper):Act→World→Prop:=fun a w=>wpStill P ops w (fun a'=>Q .normal a' w) l a
theorem zH2 (h:G [] n σ k0 (Sx P l.toArray Q l)) [hm:MX P] (hB:Region.lexB .any l.toArray = true:=by as_aux_lemma=>kernel_rfl):G [] n σ (Dr k0) (Cx none P (.region id l.toArray true) Q):=fun a w hs ⟨w1,hw,hk⟩=>by
 refine wpIn_wide.2 (zSx hm.h hB hw (h a w1 hs hk))
theorem sx_p {d:Nat} (h:G [] n ((d,v)::σ) k (Sx P ops Q l)) (hd:o.dst = some d:=by rfl) (hw:wants ops σ o = some true:=by rfl) (hp:Pure P σ o v:=by exact zLa) (hn:Nat.ble (d + 1) n = true:=by rfl):G [] n σ k (Sx P ops Q (o::l)):=fun a w hs hk =>
 s_yes hs.nil hw (s_pure hs.nil rfl hd (Nat.le_of_ble_eq_true hn) hp fun a h'=>h a w h'.D hk)
theorem sx_no {d:Nat} (h:G [] n ((d,undef)::σ) k (Sx P ops Q l)) (hd:o.dst = some d:=by rfl) (hw:wants ops σ o = some false:=by rfl) (hn:Nat.ble (d + 1) n = true:=by rfl):G [] n σ k (Sx P ops Q (o::l)):=fun a w hs hk =>
 s_no hs.nil hw hd (Nat.le_of_ble_eq_true hn) fun a h'=>h a w h'.D hk
section
variable {α:Type} {vx:α→Value} {k':α→K} {d:Nat}
theorem sx_r0 (hr:WR P σ o k vx k') (h:∀ x,G [] n ((d,vx x)::σ) (k' x) (Sx P ops Q l)) (hd:o.dst = some d) (hw:wants ops σ o = some true) (hn:Nat.ble (d + 1) n = true):G [] n σ k (Sx P ops Q (o::l)):=fun a w hs hk=>by
 obtain ⟨x,hp,h'⟩:=hr w hk
 exact s_yes hs.nil hw (s_eff hs.nil rfl hd (Nat.le_of_ble_eq_true hn) hp fun a hs'=>h x a w hs'.D h')
theorem sx_wp (h:∀ x,G [] n ((d,vx x)::σ) (k' x) (Sx P ops Q l)) (hd:o.dst = some d:=by rfl) (hw:wants ops σ o = some true:=by rfl) (hp:WP P σ o k vx k':=by exact zJO) (hn:Nat.ble (d + 1) n = true:=by rfl):G [] n σ k (Sx P ops Q (o::l)):=sx_r0 hp.wr h hd hw hn
theorem sx_wr (h:∀ x,G [] n ((d,vx x)::σ) (k' x) (Sx P ops Q l)) (hd:o.dst = some d:=by rfl) (hw:wants ops σ o = some true:=by rfl) (hp:WR P σ o k vx k':=by exact zGM) (hn:Nat.ble (d + 1) n = true:=by rfl):G [] n σ k (Sx P ops Q (o::l)):=sx_r0 hp h hd hw hn
end
theorem sx_ite {b:Bool} {x y:K} (h1:b = true→G dl n σ x (Sx P ops Q (o::l))) (h2:b = false→G dl n σ y (Sx P ops Q (o::l))) (hg:gslot ops σ o = some (.bool b):=by rfl):G dl n σ (Ite b x y) (Sx P ops Q (o::l)):=fun a w hs hk=>by
 cases b
 ·exact h2 rfl a w hs (hk.2 rfl)
 ·exact h1 rfl a w hs (hk.1 rfl)
theorem sx_nil (h:G [] n σ k (Ex Q .normal)):G [] n σ k (Sx P ops Q []):=fun a w hs hk=>h a w hs hk
end
end Go.Sep
namespace Go.Sep
open Go
def jumpC:Exit→Code
 | .exit i=>.exit i
 | _=>.ret
def BeginR (l:Nat) (r:Loop) (k:K):K:=fun w=>w.heap[l]? = some (.loop r)∧k (w.putObj l (.loop { r with state:=.busy }))
def StopR (l:Nat) (r:Loop) (J:Exit) (k:K):K:=fun w=>w.heap[l]? = some (.loop r)∧k (w.putObj l (.loop { r with state:=.done,pending:=some (jumpC J) }))
def YN (kN kJ:K):Value→K:=fun v w=>(v = .bool true∧kN w)∨(v = .bool false∧kJ w)
def RangeJ {α:Type} (P:Program) (fv:Value) (J:Exit) (cX:α→List Value) (body:(K→K)→K→K→α→K) (after afterJ:Nat→K):K:=fun w =>
 ∃ g cs,fv = .func (.func g) #[] cs∧callable P g = true ∧
  ∀ (r:Loop) (w1:World),r.state = .ready→r.pending = none→r.defers = w.heap.size→w1 = (w.alloc (.deferred (some []))).alloc (.loop r) →
   (∀ (x:α) (kN kJ:K) (W:World),W.heap[w.heap.size + 1]? = some (.loop r) →
    body (BeginR (w.heap.size + 1) r) (EndR (w.heap.size + 1) { r with state:=.busy } kN) (StopR (w.heap.size + 1) { r with state:=.busy } J kJ) x W →
    YieldAt Fence.wide 0 P (w.heap.size + 1) (cX x).toArray W (Ret (YN kN kJ))) →
   Calls P g (yv (w.heap.size + 1)::cs.toList).toArray w1 (Ret fun _ w3 =>
    (w3.heap[w.heap.size + 1]? = some (.loop r)∧after w.heap.size (w3.putObj (w.heap.size + 1) (.loop { r with state:=.exhausted }))) ∨
    (w3.heap[w.heap.size + 1]? = some (.loop { r with state:=.done,pending:=some (jumpC J) })∧afterJ w.heap.size (w3.putObj (w.heap.size + 1) (.loop { r with state:=.exhausted,pending:=some (jumpC J) }))))
def FQ:Exit→Act→World→Prop:=fun _ _ _=>False
def RQ (J:Exit) (kN kJ:K):Exit→Act→World→Prop:=fun e _ w=>match e with
 | .normal=>kN w
 | .ret=>J = .ret∧kJ w
 | .exit i=>J = .exit i∧kJ w
 | _=>False
def Bx (kb k:K) (r:Option Nat) (P:Program) (body:Code) (Q:Exit→Act→World→Prop):Act→World→Prop:=fun a w=>k w∧∀ w,kb w→body.wpIn (fe r) 0 P Q a w
def Bj (BG:K→K) (r:Option Nat) (P:Program) (body:Code) (Q:Exit→Act→World→Prop):Act→World→Prop:=fun a w=>∃ k,BG k w∧∀ w,k w→body.wpIn (fe r) 0 P Q a w
def zipS:List Nat→List Value→List (Nat×Value)→List (Nat×Value)
 | p::ps,v::vs,σ=>zipS ps vs ((p,v)::σ)
 | _,_,σ=>σ
section
variable {P:Program} {dl:List Deferred} {n:Nat} {σ τ:List (Nat×Value)} {k kb:K} {r:Option Nat} {Q:Exit→Act→World→Prop} {body assign:Code} {a:Act} {w:World}
theorem bx_b (h:G dl n σ kb (Cx r P body Q)):G dl n σ k (Bx kb k r P body Q):=fun a _ hs hk=>⟨hk,fun w hk=>h a w hs hk⟩
theorem bj_b {BG:K→K} (h:G dl n σ k (Cx r P body Q)):G dl n σ (BG k) (Bj BG r P body Q):=fun a w hs hk=>⟨k,hk,fun w hk=>h a w hs hk⟩
theorem rq_n {J:Exit} {kJ:K}:G dl n σ k (Ex (RQ J k kJ) .normal):=fun _ _ _ hk=>hk
theorem rq_r {kN:K}:G dl n σ k (Ex (RQ .ret kN k) .ret):=fun _ _ _ hk=>⟨rfl,hk⟩
theorem rq_x {kN:K} {i:Nat}:G dl n σ k (Ex (RQ (.exit i) kN k) (.exit i)):=fun _ _ _ hk=>⟨rfl,hk⟩
theorem zMR:∀ (ps:List Nat) (vs:List Value) (σ:List (Nat×Value)) (t:Array Value),(ps.all fun p=>Nat.ble (p + 1) n) = true→Slots { tmps:=t,defers:=[] } n σ →
  Slots { tmps:=(ps.zip vs).foldl (fun t p=>t.setIfInBounds p.1 p.2) t,defers:=[] } n (zipS ps vs σ)
 | [],_,_,_,_,h=>h
 | p::ps,[],_,_,_,h=>h
 | p::ps,v::vs,σ,t,hp,h=>by
  simp only [List.all_cons,Bool.and_eq_true] at hp
  have h1:=h.put (Nat.le_of_ble_eq_true hp.1) v
  exact zMR ps vs _ _ hp.2 h1
theorem zGu {α:Type} {g:Operand} {ps:List Tmp} {fv:Value} {J:Exit} {cX:α→List Value} {bk:(K→K)→K→K→α→K} {after afterJ:Nat→K}
  (h1:∀ (l:Nat) (BG:K→K) (KN KJ:K) (x:α),G [] n (zipS ps (cX x) σ) (bk BG KN KJ x) (Cx (some l) P assign (Exit.then (Bj BG (some l) P body (RQ J KN KJ)) FQ)))
  (h2:∀ D,G (markD D) n σ (after D) (Ex Q .normal)) (h3:∀ D,G (markD D) n σ (afterJ D) (Ex Q J)) (hg:ev σ g = some fv:=by rfl) (hp:(ps.all fun p=>Nat.ble (p + 1) n) = true:=by rfl) (hlen:∀ x,(cX x).length = ps.length:=by exact fun _=>rfl) (hJ:J = .ret∨∃ i,J = .exit i:=by first | exact .inl rfl | exact .inr ⟨_,rfl⟩) :
  G [] n σ (RangeJ P fv J cX bk after afterJ) (Cx none P (.rangeFunc g ps.toArray assign body) Q):=fun a w hs ⟨gf,cs,hfv,hcb,h⟩=>by
 show (Code.rangeFunc g ps.toArray assign body).wpIn Fence.wide 0 P Q a w
 refine wpIn_rangeFunc fun fn hfn=>?_
 obtain ⟨r,hr⟩:∃ r:Loop,r = { state:=.ready,pending:=none,fn,tmps:=a.tmps,params:=ps.toArray,assign,body,defers:=w.heap.size }:=⟨_,rfl⟩
 have hh:=h r _ (by rw [hr]) (by rw [hr]) (by rw [hr]) rfl
 refine ⟨w.heap.size + 1,markD w.heap.size,(w.alloc (.deferred (some []))).alloc (.loop r),{ target:=.fn (.func gf) cs,args:=#[.func (.yield (w.heap.size + 1)) #[] #[]] },(w.alloc (.deferred (some []))).alloc (.loop r),gf,
  (yv (w.heap.size + 1)::cs.toList).toArray,(w.alloc (.deferred (some []))).alloc (.loop r),?_,?_,fun _ _=>trivial,?_,(fun h=>by cases h),?_⟩
 ·rw [hr]; exact run_enterLoop_outer _ _ _ _ _
 ·have he:a.eval g = .func (.func gf) #[] cs:=by rw [← hfv]; exact hs.1.ev hg
  simp only [resolve,he]
  simp [go_sem]
 ·simp [invoke,zEU hcb]
 ·refine zGY zGm rfl ((hh ?_).mono fun e w3 he=>?_)
  ·intro x kN kJ W hl hb
   refine ⟨fn,_,assign,body,(run_yield (P:=P) (args:=(cX x).toArray) hl (by rw [hr]; simp [hlen])).trans (by rw [hr]),?_⟩
   refine roundIn_of_wpIn trivial ?_
   have hs1:=zMR ps (cX x) σ a.tmps hp (show Slots { tmps:=a.tmps,defers:=[] } n σ from by have:=hs.1; exact this)
   have h4:=h1 (w.heap.size + 1) _ _ _ x { tmps:=(ps.zip (cX x)).foldl (fun t p=>t.setIfInBounds p.1 p.2) a.tmps,defers:=[] } W ⟨hs1,rfl⟩ hb
   have h5:assign.wpIn (Fence.wide.inRound (w.heap.size + 1)) 0 P (Exit.then (Bj (BeginR (w.heap.size + 1) r) (some (w.heap.size + 1)) P body (RQ J (EndR (w.heap.size + 1) { r with state:=.busy } kN) (StopR (w.heap.size + 1) { r with state:=.busy } J kJ))) FQ)
     { tmps:=(ps.toArray.zip (cX x).toArray).foldl (fun t p=>t.setIfInBounds p.1 p.2) a.tmps,defers:=[] } W:=by
    have:(ps.toArray.zip (cX x).toArray).foldl (fun t p=>t.setIfInBounds p.1 p.2) a.tmps = (ps.zip (cX x)).foldl (fun t p=>t.setIfInBounds p.1 p.2) a.tmps:=by simp
    rw [this]; exact h4
   refine wpIn_mono h5 fun e a2 w2 hq=>?_
   cases e with
   | normal =>
    obtain ⟨kk,hk,hbd⟩:=hq
    refine ⟨_,run_beginRound hk.1 (by rw [hr]),?_⟩
    refine wpIn_mono (hbd _ hk.2) fun e a3 w3 hq=>?_
    cases e with
    | normal =>
     obtain ⟨h3,h4⟩:=hq
     exact ⟨_,_,run_endRound none h3,.inl ⟨rfl,h4⟩⟩
    | ret =>
     obtain ⟨rfl,h3,h4⟩:=hq
     exact ⟨_,_,run_endRound (some .ret) h3,.inr ⟨rfl,h4⟩⟩
    | exit i =>
     obtain ⟨rfl,h3,h4⟩:=hq
     exact ⟨_,_,run_endRound (some (.exit i)) h3,.inr ⟨rfl,h4⟩⟩
    | goto t=>exact hq.elim
    | panic c=>exact hq.elim
    | outgrown=>exact hq.elim
   | _=>exact hq.elim
  ·cases e with
   | returned v =>
    have hn:r.pending = none:=by rw [hr]
    rcases he with ⟨h3',h4⟩ | ⟨h3',h4⟩
    ·refine ⟨_,_,run_endLoop h3' (by rw [hr]; simp),?_⟩
     have h5:=h2 _ { a with defers:=markD w.heap.size++a.defers } _ ⟨hs.1,by simp [hs.2,markD]⟩ h4
     rw [hn] at h5 ⊢
     exact h5
    ·refine ⟨_,_,run_endLoop h3' (by simp),?_⟩
     have h5:=h3 _ { a with defers:=markD w.heap.size++a.defers } _ ⟨hs.1,by simp [hs.2,markD]⟩ h4
     rcases hJ with rfl | ⟨i,rfl⟩
     ·exact wpIn_ret h5
     ·exact wpIn_exit h5
   | panicked c=>exact he.elim
   | outgrown=>exact he.elim
theorem zGv {α:Type} {g:Operand} {p:Tmp} {fv:Value} {cX:α→Value} {bk:K→α→K} {after:Nat→K}
  (h1:∀ (l:Nat) (KN:K) (x:α) (k1:K),G [] n ((p,cX x)::σ) k1 (Cx (some l) P assign (Exit.then (Bx (bk KN x) k1 (some l) P body (RQ .normal KN Dead)) FQ)))
  (h2:∀ D,G (markD D) n σ (after D) (Ex Q .normal)) (hg:ev σ g = some fv:=by rfl) (hp:Nat.ble (p + 1) n = true:=by rfl) :
  G [] n σ (RangeF P fv cX bk after) (Cx none P (.rangeFunc g #[p] assign body) Q):=fun a w hs ⟨gf,cs,hfv,hcb,h⟩=>by
 show (Code.rangeFunc g #[p] assign body).wpIn Fence.wide 0 P Q a w
 refine wpIn_rangeFunc fun fn hfn=>?_
 obtain ⟨r,hr⟩:∃ r:Loop,r = { state:=.ready,pending:=none,fn,tmps:=a.tmps,params:=#[p],assign,body,defers:=w.heap.size }:=⟨_,rfl⟩
 have hh:=h r _ (by rw [hr]) (by rw [hr]) (by rw [hr]) rfl
 refine ⟨w.heap.size + 1,markD w.heap.size,(w.alloc (.deferred (some []))).alloc (.loop r),{ target:=.fn (.func gf) cs,args:=#[.func (.yield (w.heap.size + 1)) #[] #[]] },(w.alloc (.deferred (some []))).alloc (.loop r),gf,
  (yv (w.heap.size + 1)::cs.toList).toArray,(w.alloc (.deferred (some []))).alloc (.loop r),?_,?_,fun _ _=>trivial,?_,(fun h=>by cases h),?_⟩
 ·rw [hr]; exact run_enterLoop_outer _ _ _ _ _
 ·have he:a.eval g = .func (.func gf) #[] cs:=by rw [← hfv]; exact hs.1.ev hg
  simp only [resolve,he]
  simp [go_sem]
 ·simp [invoke,zEU hcb]
 ·refine zGY zGm rfl ((hh ?_).mono fun e w3 he=>?_)
  ·intro x kN W hl hb
   refine ⟨fn,_,assign,body,(run_yield (P:=P) (args:=#[cX x]) hl (by rw [hr]; rfl)).trans (by rw [hr]),?_⟩
   refine roundIn_of_wpIn trivial ?_
   have hs1:SlotsD [] { tmps:=a.tmps.setIfInBounds p (cX x),defers:=[] } n ((p,cX x)::σ):=by
    have:=hs.1.put (Nat.le_of_ble_eq_true hp) (cX x)
    exact ⟨this,rfl⟩
   have h4:=h1 (w.heap.size + 1) (EndR (w.heap.size + 1) { r with state:=.busy } kN) x (fun w=>w = W) _ W hs1 rfl
   refine wpIn_mono (show assign.wpIn (Fence.wide.inRound (w.heap.size + 1)) 0 P _ _ W from by simp only [Cx] at h4; simpa using h4) fun e a2 w2 hq=>?_
   cases e with
   | normal =>
    obtain ⟨rfl,hbd⟩:=hq
    refine ⟨_,run_beginRound hl (by rw [hr]),?_⟩
    refine wpIn_mono (hbd _ hb) fun e a3 w3 hq=>?_
    cases e with
    | normal =>
     obtain ⟨h3,h4⟩:=hq
     exact ⟨_,_,run_endRound none h3,rfl,h4⟩
    | ret=>exact absurd hq.1 (by simp)
    | exit i=>exact absurd hq.1 (by simp)
    | _=>exact hq.elim
   | _=>exact hq.elim
  ·cases e with
   | returned v =>
    have hn:r.pending = none:=by rw [hr]
    obtain ⟨h3,h4⟩:=he
    refine ⟨_,_,run_endLoop h3 (by rw [hr]; simp),?_⟩
    have h5:=h2 _ { a with defers:=markD w.heap.size++a.defers } _ ⟨hs.1,by simp [hs.2,markD]⟩ h4
    rw [hn] at h5 ⊢
    exact h5
   | panicked c=>exact he.elim
   | outgrown=>exact he.elim
end
end Go.Sep
namespace Go.Sep
open Go
def opb:Builtin→Nat
 | .len=>20
 | .max | .min=>21
 | _=>22
def opc:Op→Nat
 | .move _ | .assign _=>0
 | .pick _ _ _=>1
 | .nilCheck _=>2
 | .fieldAddr _ _ _=>3
 | .extract _ _=>4
 | .makeFunc _ _ _=>5
 | .unOp o _ _=>match o with
  | .not=>6
  | _=>7
 | .binOp o _ _ _ _=>match o with
  | .add | .sub | .mul | .and | .or | .xor=>8
  | .shl | .shr | .quo | .rem | .andNot=>9
  | _=>10
 | .convert _ _ _=>11
 | .build _ _=>12
 | .load _ _=>13
 | .lookup _ _ _ _=>14
 | .alloc _ | .box _ _=>15
 | .buildSlice _ _ _=>16
 | .store _ _ _=>17
 | .mapUpdate _ _ _ _=>18
 | .call c=>match c.callee with
  | .builtin b=>opb b
  | _=>19
 | .makeMap _ _ | .makeSlice _ _ _=>23
 | .range _ _ | .next _ _ | .entry _=>24
 | .makeInterface _ _=>25
 | .field _ _ _=>26
 | .index _ _ _ | .indexAddr _ _ _=>27
 | .slice _ _ _ _ _=>28
 | _=>99
def opi (ops:Array Oper) (i:Nat):Nat:=match ops[i]? with
 | some o=>opc o.op
 | none=>98
section
variable {P:Program} {dl:List Deferred} {n:Nat} {σ:List (Nat×Value)} {k:K} {r:Option Nat} {ops:Array Oper} {Q:Exit→Act→World→Prop} {l:List Oper} {o:Oper} {S:World→Prop} {ds done is:List Nat} {i tag:Nat} {t:Scr} {c x y:Code} {e:Exit} {kk:Value→K} {u:Operand}
theorem is_tx (h:G dl n σ k (Tx r P ops Q l)):G dl n σ k (Tx r P ops Q l):=h
theorem is_cx (h:G dl n σ k (Cx r P c Q)):G dl n σ k (Cx r P c Q):=h
theorem is_ex (h:G dl n σ k (Ex Q e)):G dl n σ k (Ex Q e):=h
theorem is_rx {rs:List ResultVar} {vs:List Value} (h:G dl n σ k (Rx P kk rs vs)):G dl n σ k (Rx P kk rs vs):=h
theorem is_fx {q:K} (h:G dl n σ k (Fx q)):G dl n σ k (Fx q):=h
theorem is_dx (h:G dl n σ k (Dx P ops Q S ds done t)):G dl n σ k (Dx P ops Q S ds done t):=h
theorem is_ox (h:G dl n σ k (Ox P ops Q S ds done i tag t)):G dl n σ k (Ox P ops Q S ds done i tag t):=h
theorem is_sx (h:G dl n σ k (Sx P ops Q l)):G dl n σ k (Sx P ops Q l):=h
theorem is_lx {α:Type} {S:α→List (Nat×Value)} {X:α→K} (h:G dl n σ k (Lx dl n S X)):G dl n σ k (Lx dl n S X):=h
theorem is_seq (h:G dl n σ k (Cx r P (.seq x y) Q)):G dl n σ k (Cx r P (.seq x y) Q):=h
theorem zJa (h:G dl n σ k (Cx r P (.cond u x y) Q)):G dl n σ k (Cx r P (.cond u x y) Q):=h
theorem zJb (h:G dl n σ k (Cx r P (.region i ops true) Q)):G dl n σ k (Cx r P (.region i ops true) Q):=h
theorem is_t (c:Nat) (h:G dl n σ k (Tx r P ops Q (o::l))) (hc:opc o.op = c):G dl n σ k (Tx r P ops Q (o::l)):=h
theorem is_s (c:Nat) (h:G dl n σ k (Sx P ops Q (o::l))) (hc:opc o.op = c):G dl n σ k (Sx P ops Q (o::l)):=h
theorem is_d (c:Nat) (h:G dl n σ k (Dx P ops Q S ds done (.s (i::is) t))) (hc:opi ops i = c):G dl n σ k (Dx P ops Q S ds done (.s (i::is) t)):=h
theorem is_o (c:Nat) (h:G dl n σ k (Ox P ops Q S ds done i tag t)) (hc:opi ops i = c):G dl n σ k (Ox P ops Q S ds done i tag t):=h
theorem is_gd (h:G dl n σ k (Tx r P ops Q (o::l))) (hc:o.guard.isSome = true):G dl n σ k (Tx r P ops Q (o::l)):=h
theorem is_gs (h:G dl n σ k (Sx P ops Q (o::l))) (hc:o.guard.isSome = true):G dl n σ k (Sx P ops Q (o::l)):=h
theorem is_gdx (h:G dl n σ k (Dx P ops Q S ds done (.s (i::is) t))) (hc:(ops[i]?).map (fun o=>o.guard.isSome) = some true):G dl n σ k (Dx P ops Q S ds done (.s (i::is) t)):=h
theorem zGw {b:Bool} {kx ky:K} (h1:G dl n σ kx (Cx r P x Q)) (h2:G dl n σ ky (Cx r P y Q)) (he:ev σ u = some (.bool b)):G dl n σ (Ite b kx ky) (Cx r P (.cond u x y) Q):=zTL h1 h2 he
theorem al_an0 {d:Nat} {u v0:Value} {X1:Act→World→Prop} (h:G dl n ((d,v0)::σ) (Al S k) X1):G dl n ((d,u)::σ) (Al S (Ans0 v0 k u)) X1:=fun a w hs ⟨hS,hu,hk⟩=>h a w (hu ▸ hs) ⟨hS,hk⟩
theorem au_p0 {v:Value} (h:Pure P σ o v:=by first | exact p_move rfl rfl | exact zNJ rfl rfl):Pure P σ o v:=h
theorem au_p1 {v:Value} (h:Pure P σ o v:=by first | exact zNK rfl rfl rfl | exact zNL rfl rfl rfl | exact zNM rfl rfl rfl rfl):Pure P σ o v:=h
theorem au_p2 {v:Value} (h:Pure P σ o v:=by first | exact p_nil rfl rfl | exact p_nilf rfl rfl):Pure P σ o v:=h
theorem au_p3 {v:Value} (h:Pure P σ o v:=by first | exact zIp rfl rfl | exact zJ9 rfl rfl):Pure P σ o v:=h
theorem au_p4 {v:Value} (h:Pure P σ o v:=by exact zMK rfl rfl rfl):Pure P σ o v:=h
theorem au_p5 {v:Value} (h:Pure P σ o v:=by exact zKv rfl rfl rfl):Pure P σ o v:=h
theorem au_p6 {v:Value} (h:Pure P σ o v:=by exact p_not rfl rfl):Pure P σ o v:=h
theorem au_p10 {v:Value} (h:Pure P σ o v:=by first | exact p_eq rfl rfl rfl | exact p_ne rfl rfl rfl | exact p_lt rfl rfl rfl | exact p_le rfl rfl rfl | exact p_gt rfl rfl rfl | exact p_ge rfl rfl rfl | exact p_eqs rfl rfl rfl | exact p_nes rfl rfl rfl | exact p_lts rfl rfl rfl | exact p_gts rfl rfl rfl | exact p_ges rfl rfl rfl | exact p_les rfl rfl rfl | exact zNT rfl rfl rfl | exact zNU rfl rfl rfl | exact zOz rfl rfl rfl | exact zO0 rfl rfl rfl | exact q_eqb rfl rfl rfl | exact q_neb rfl rfl rfl):Pure P σ o v:=h
theorem au_p11 {v:Value} (h:Pure P σ o v:=by exact zK1 rfl rfl):Pure P σ o v:=h
theorem au_p12 {v:Value} (h:Pure P σ o v:=by exact zO1 rfl rfl rfl rfl (by kernel_rfl)):Pure P σ o v:=h
theorem au_p20 {v:Value} (h:Pure P σ o v:=by first | exact q_len rfl rfl | exact q_lens rfl rfl):Pure P σ o v:=h
theorem au_p26 {v:Value} (h:Pure P σ o v:=by exact zNS rfl rfl):Pure P σ o v:=h
theorem au_wp4 {α:Type} {k:K} {vx:α→Value} {k1:α→K} (h:WP P σ o k vx k1:=by exact wp_ext rfl rfl):WP P σ o k vx k1:=h
theorem au_wp7 {α:Type} {k:K} {vx:α→Value} {k1:α→K} (h:WP P σ o k vx k1:=by exact wp_ar (by first | exact p_neg rfl rfl | exact p_com rfl rfl)):WP P σ o k vx k1:=h
theorem au_wp8 {α:Type} {k:K} {vx:α→Value} {k1:α→K} (h:WP P σ o k vx k1:=by first | exact wp_ar (by first | exact p_add rfl rfl rfl | exact p_sub rfl rfl rfl | exact p_mul rfl rfl rfl | exact p_and rfl rfl rfl | exact p_or rfl rfl rfl | exact p_xor rfl rfl rfl) | exact wp_cat rfl rfl rfl):WP P σ o k vx k1:=h
theorem au_wp9 {α:Type} {k:K} {vx:α→Value} {k1:α→K} (h:WP P σ o k vx k1:=by exact zO2 (fun h0=>by first | exact p_shl rfl rfl rfl h0 | exact p_shr rfl rfl rfl h0 | exact p_quo rfl rfl rfl h0 | exact p_rem rfl rfl rfl h0)):WP P σ o k vx k1:=h
theorem zDF {α:Type} {k:K} {vx:α→Value} {k1:α→K} (h:WP P σ o k vx k1:=by exact wp_pu (zNb rfl rfl rfl)):WP P σ o k vx k1:=h
theorem zDG {α:Type} {k:K} {vx:α→Value} {k1:α→K} (h:WP P σ o k vx k1:=by exact wp_ar (zK2 rfl rfl)):WP P σ o k vx k1:=h
theorem zDH {α:Type} {k:K} {vx:α→Value} {k1:α→K} (h:WP P σ o k vx k1:=by first | exact wp_bld rfl rfl rfl | exact wp_pu (zMN rfl rfl)):WP P σ o k vx k1:=h
theorem zDI {α:Type} {k:K} {vx:α→Value} {k1:α→K} (h:WP P σ o k vx k1:=by exact wp_ar (by first | exact p_max _ rfl rfl rfl | exact p_min _ rfl rfl rfl)):WP P σ o k vx k1:=h
theorem zDJ {α:Type} {k:K} {vx:α→Value} {k1:α→K} (h:WP P σ o k vx k1:=by exact wp_fld rfl rfl):WP P σ o k vx k1:=h
theorem zDK {α:Type} {k:K} {vx:α→Value} {k1:α→K} (h:WP P σ o k vx k1:=by first | exact wp_idx rfl rfl rfl | exact zO4 rfl rfl rfl | exact zO3 rfl rfl rfl):WP P σ o k vx k1:=h
theorem zDL {α:Type} {k:K} {vx:α→Value} {k1:α→K} (h:WP P σ o k vx k1:=by first | exact wp_slc rfl rfl (by first | exact rfl | exact ⟨_,rfl⟩) (by first | exact rfl | exact ⟨_,rfl⟩) (by first | exact rfl | exact ⟨_,rfl⟩) rfl | exact zO5 rfl rfl (by first | exact rfl | exact ⟨_,rfl⟩) (by first | exact rfl | exact ⟨_,rfl⟩)):WP P σ o k vx k1:=h
theorem zCU {α:Type} {k:K} {vx:α→Value} {k1:α→K} (h:WR P σ o k vx k1:=by exact wr_rd (zEi rfl rfl)):WR P σ o k vx k1:=h
theorem zCV {α:Type} {k:K} {vx:α→Value} {k1:α→K} (h:WR P σ o k vx k1:=by first | exact wr_ld rfl rfl | exact wr_ldN rfl rfl):WR P σ o k vx k1:=h
theorem zCW {α:Type} {k:K} {vx:α→Value} {k1:α→K} (h:WR P σ o k vx k1:=by exact wr_rd (e_len' rfl rfl rfl)):WR P σ o k vx k1:=h
theorem zCX {α:Type} {k:K} {vx:α→Value} {k1:α→K} (h:WR P σ o k vx k1:=by exact wr_rd (e_mkI' rfl rfl)):WR P σ o k vx k1:=h
theorem zDs {α:Type} {k:K} {vx:α→Value} {k1:α→K} (h:WE P σ o k vx k1:=by exact we_do (zEi rfl rfl)):WE P σ o k vx k1:=h
theorem zDt {α:Type} {k:K} {vx:α→Value} {k1:α→K} (h:WE P σ o k vx k1:=by first | exact we_box rfl rfl rfl | exact zNV rfl rfl):WE P σ o k vx k1:=h
theorem zDu {α:Type} {k:K} {vx:α→Value} {k1:α→K} (h:WE P σ o k vx k1:=by first | exact zNW rfl rfl rfl rfl (by kernel_rfl) | exact zKA rfl rfl rfl (by kernel_rfl)):WE P σ o k vx k1:=h
theorem zB5 {α:Type} {k:K} {vx:α→Value} {k1:α→K} (h:WE P σ o k vx k1:=by exact we_do (by first | exact zML rfl rfl rfl rfl | exact zO7 rfl rfl rfl rfl | exact zMM rfl rfl rfl rfl | exact e_cap' rfl rfl rfl | exact zNY rfl rfl rfl)):WE P σ o k vx k1:=h
theorem zDv {α:Type} {k:K} {vx:α→Value} {k1:α→K} (h:WE P σ o k vx k1:=by exact we_do (by first | exact zK3 rfl | exact zIq rfl rfl rfl)):WE P σ o k vx k1:=h
theorem zDw {α:Type} {k:K} {vx:α→Value} {k1:α→K} (h:WE P σ o k vx k1:=by exact we_do (by first | exact zO8 rfl rfl rfl | exact zNZ rfl rfl | exact zNa rfl rfl)):WE P σ o k vx k1:=h
theorem zDx {k k1:K} (h:WK P σ o k k1:=by first | exact wk_st rfl rfl rfl | exact wk_stN rfl rfl rfl):WK P σ o k k1:=h
theorem zDy {k k1:K} (h:WK P σ o k k1:=by exact wk_do (zIr rfl rfl rfl rfl)):WK P σ o k k1:=h
theorem zCY {k:K} {kk:Value→K} (h:WC P σ o k kk:=by first | exact zO6 rfl rfl rfl rfl | exact zNX rfl rfl rfl rfl | exact wc_fv rfl rfl rfl):WC P σ o k kk:=h
theorem zJc {S:World→Prop} {α:Type} {k:K} {vx:α→Value} {k1:α→K} (h:WS P S σ o k vx k1:=by exact ws_rd (zEi rfl rfl)):WS P S σ o k vx k1:=h
theorem zJd {S:World→Prop} {α:Type} {k:K} {vx:α→Value} {k1:α→K} (h:WS P S σ o k vx k1:=by first | exact ws_ld rfl rfl | exact ws_ldN rfl rfl):WS P S σ o k vx k1:=h
theorem zJe {S:World→Prop} {α:Type} {k:K} {vx:α→Value} {k1:α→K} (h:WS P S σ o k vx k1:=by exact ws_rd (e_len' rfl rfl rfl)):WS P S σ o k vx k1:=h
theorem zJf {S:World→Prop} {α:Type} {k:K} {vx:α→Value} {k1:α→K} (h:WS P S σ o k vx k1:=by exact ws_rd (e_mkI' rfl rfl)):WS P S σ o k vx k1:=h
end
set_option maxRecDepth 100000 in
theorem g_walk {P:Program} {f:FuncId} {fn:Func} {c:Code} {args:List Value} {kk:Value→K} {k:K} (n:Nat) {w:World} (hk:k w) (hf:P.funcs[f]? = some fn) (hb:fn.body = some c:=by rfl) (hn:fn.ntmps = n:=by rfl) (hl:Nat.ble args.length n = true:=by rfl)
  (h:G [] n (numb 0 args) k (Cx none P c (bodyPostT P fn (Ret kk))):=by
   repeat' first
   | intro _
   | (refine is_tx ?_; first
     | refine tx_nil ?_
     | (refine is_gd ?_ rfl; first | refine tx_no ?_ | refine tx_no' ?_)
     | (refine is_t 0 ?_ rfl; refine tx_p (hp:=by exact au_p0) ?_)
     | (refine is_t 2 ?_ rfl; first | refine tx_p (hp:=by exact au_p2) ?_ | (refine gx_nn ?_; intro b hb; subst hb) | (refine gx_fv ?_; intro g fs cs hf cb; subst hf))
     | (refine is_t 3 ?_ rfl; refine tx_p (hp:=by exact au_p3) ?_)
     | (refine is_t 13 ?_ rfl; refine tx_wr (hp:=by exact zCV) ?_)
     | (refine is_t 19 ?_ rfl; first | (refine tx_wc (hp:=by exact zCY) ?_; intro u; first | refine an_1 ?_ | refine an_0 ?_ | refine an_2 ?_ | refine an_3 ?_ | refine an_4 ?_ | refine an_5 ?_) | refine tx_wr (hp:=by exact wr_rd (e_ext' rfl rfl rfl)) ?_ | (refine tx_wcn (hp:=by exact zCY) ?_; intro u; first | refine am_0 ?_ | refine am_1 ?_ | refine am_2 ?_ | skip) | (refine tx_wy ?_; intro u; first | refine an_1 ?_ | refine an_0 ?_ | refine an_2 ?_ | refine an_3 ?_ | refine an_4 ?_ | refine an_5 ?_))
     | (refine is_t 10 ?_ rfl; first | refine tx_p (hp:=by exact au_p10) ?_ | refine tx_wp (hp:=by exact zDF) ?_)
     | (refine is_t 8 ?_ rfl; refine tx_wp (hp:=by exact au_wp8) ?_)
     | (refine is_t 20 ?_ rfl; first | refine tx_p (hp:=by exact au_p20) ?_ | refine tx_wr (hp:=by exact zCW) ?_)
     | (refine is_t 27 ?_ rfl; refine tx_wp (hp:=by exact zDK) ?_)
     | (refine is_t 4 ?_ rfl; first | refine tx_p (hp:=by exact au_p4) ?_ | refine tx_wp (hp:=by exact au_wp4) ?_)
     | (refine is_t 17 ?_ rfl; refine tx_wk (hp:=by exact zDx) ?_)
     | (refine is_t 1 ?_ rfl; refine tx_p (hp:=by exact au_p1) ?_)
     | (refine is_t 6 ?_ rfl; refine tx_p (hp:=by exact au_p6) ?_)
     | (refine is_t 15 ?_ rfl; refine tx_we (hp:=by exact zDt) ?_)
     | (refine is_t 16 ?_ rfl; refine tx_we (hp:=by exact zDu) ?_)
     | (refine is_t 22 ?_ rfl; first | refine tx_we (hp:=by exact zB5) ?_ | refine tx_wen (hp:=by exact zB5) ?_)
     | (refine is_t 28 ?_ rfl; refine tx_wp (hp:=by exact zDL) ?_)
     | (refine is_t 11 ?_ rfl; first | refine tx_wp (hp:=by exact zDG) ?_ | refine tx_p (hp:=by exact au_p11) ?_ | refine tx_wr (hp:=by exact zCU) ?_ | refine tx_we (hp:=by exact zDs) ?_)
     | (refine is_t 26 ?_ rfl; first | refine tx_wp (hp:=by exact zDJ) ?_ | refine tx_p (hp:=by exact au_p26) ?_)
     | (refine is_t 12 ?_ rfl; first | refine tx_wp (hp:=by exact zDH) ?_ | refine tx_p (hp:=by exact au_p12) ?_)
     | (refine is_t 5 ?_ rfl; refine tx_p (hp:=by exact au_p5) ?_)
     | (refine is_t 7 ?_ rfl; refine tx_wp (hp:=by exact au_wp7) ?_)
     | (refine is_t 9 ?_ rfl; refine tx_wp (hp:=by exact au_wp9) ?_)
     | (refine is_t 14 ?_ rfl; first | refine tx_wr (hp:=by exact wr_rd (zAZ rfl rfl rfl)) ?_ | (refine tx_wr (hp:=by exact wr_rd2 (zAZ rfl rfl rfl)) ?_; intro u; refine an_2 ?_))
     | (refine is_t 18 ?_ rfl; refine tx_wk (hp:=by exact zDy) ?_)
     | (refine is_t 21 ?_ rfl; refine tx_wp (hp:=by exact zDI) ?_)
     | (refine is_t 23 ?_ rfl; refine tx_we (hp:=by exact zDv) ?_)
     | (refine is_t 24 ?_ rfl; refine tx_we (hp:=by exact zDw) ?_)
     | (refine is_t 25 ?_ rfl; refine tx_wr (hp:=by exact zCX) ?_)
     | (refine tx_ite ?_ ?_ <;> (intro hb; refine zDE ?_; intro a w hs; try rw [hb] at hs; clear hb; revert hs; revert w; revert a; refine gx_unf ?_)))
   | (refine is_cx ?_; first
     | refine cx_reg ?_
     | (refine is_seq ?_; first | (refine zJR ?_; (repeat apply ex_i); refine And.intro zE6 (And.intro ?_ ?_)) | refine cx_seq ?_)
     | refine zGw ?_ ?_ rfl
     | refine zJS ?_
     | refine cx_ret ?_
     | refine zHt ?_
     | refine zJT ?_
     | refine zJU ?_
     | (refine zJa ?_; first | refine zGq ?_ | refine zGr ?_)
     | (refine zJb ?_; first | refine zH0 ?_ | refine zHz ?_ | refine zH1 ?_ | refine zH2 ?_)
     | refine zHs ?_
     | refine zGv ?_ ?_
     | refine zGu ?_ ?_ ?_
     | refine zCT ?_)
   | (refine is_ex ?_; first
     | refine zJV ?_
     | refine zGt ?_
     | refine zGs ?_
     | refine ex_blk ?_
     | refine zHu ?_
     | refine zHv ?_
     | refine zHw ?_
     | refine zJW ?_
     | refine ex_ret ?_
     | refine ex_end ?_
     | exact rq_n
     | exact rq_r
     | exact rq_x
     | refine zCT ?_)
   | exact zJP
   | refine gp_in ?_
   | (refine is_rx ?_; first
     | refine rx_tmp ?_
     | refine rx_nil ?_
     | refine zJX ?_
     | refine zHx ?_)
   | (refine is_fx ?_; first
     | exact fx_1
     | exact fx_0
     | exact fx_2
     | exact fx_3
     | exact fx_4
     | exact fx_5)
   | (refine is_dx ?_; first
     | refine dx_end ?_
     | refine dx_nil ?_
     | refine dx_a ?_
     | (refine zJY ?_ ?_ <;> (intro hb; refine zDE ?_; intro a w hs; try rw [hb] at hs; clear hb; revert hs; revert w; revert a; refine gx_unf ?_))
     | (refine dx_ite ?_ ?_ <;> (intro hb; refine zDE ?_; intro a w hs; try rw [hb] at hs; clear hb; revert hs; revert w; revert a; refine gx_unf ?_))
     | (refine is_gdx ?_ rfl; first | refine dx_no ?_ | refine dx_no' ?_)
     | (refine is_d 0 ?_ rfl; refine dx_p (hp:=by exact au_p0) ?_)
     | (refine is_d 2 ?_ rfl; first | refine dx_p (hp:=by exact au_p2) ?_ | (refine al_nn ?_; intro b hb; subst hb) | (refine gx_nn ?_; intro b hb; subst hb) | (refine al_fv ?_; intro g fs cs hf cb; subst hf) | (refine gx_fv ?_; intro g fs cs hf cb; subst hf))
     | (refine is_d 3 ?_ rfl; refine dx_p (hp:=by exact au_p3) ?_)
     | (refine is_d 13 ?_ rfl; first | refine dx_is (hp:=by exact zCV) ?_ | refine dx_S (hp:=by exact zJd) ?_)
     | (refine is_d 10 ?_ rfl; first | refine dx_p (hp:=by exact au_p10) ?_ | refine dx_wpA (hp:=by exact zDF) ?_ | refine dx_wp (hp:=by exact zDF) ?_)
     | (refine is_d 8 ?_ rfl; first | refine dx_wpA (hp:=by exact au_wp8) ?_ | refine dx_wp (hp:=by exact au_wp8) ?_)
     | (refine is_d 20 ?_ rfl; first | refine dx_p (hp:=by exact au_p20) ?_ | refine dx_is (hp:=by exact zCW) ?_ | refine dx_S (hp:=by exact zJe) ?_)
     | (refine is_d 27 ?_ rfl; first | refine dx_wpA (hp:=by exact zDK) ?_ | refine dx_wp (hp:=by exact zDK) ?_)
     | (refine is_d 4 ?_ rfl; first | refine dx_p (hp:=by exact au_p4) ?_ | refine dx_wpA (hp:=by exact au_wp4) ?_ | refine dx_wp (hp:=by exact au_wp4) ?_)
     | (refine is_d 1 ?_ rfl; refine dx_p (hp:=by exact au_p1) ?_)
     | (refine is_d 6 ?_ rfl; refine dx_p (hp:=by exact au_p6) ?_)
     | (refine is_d 28 ?_ rfl; first | refine dx_wpA (hp:=by exact zDL) ?_ | refine dx_wp (hp:=by exact zDL) ?_)
     | (refine is_d 11 ?_ rfl; first | refine dx_wpA (hp:=by exact zDG) ?_ | refine dx_wp (hp:=by exact zDG) ?_ | refine dx_p (hp:=by exact au_p11) ?_ | refine dx_is (hp:=by exact zCU) ?_ | refine dx_S (hp:=by exact zJc) ?_)
     | (refine is_d 26 ?_ rfl; first | refine dx_wpA (hp:=by exact zDJ) ?_ | refine dx_wp (hp:=by exact zDJ) ?_ | refine dx_p (hp:=by exact au_p26) ?_)
     | (refine is_d 12 ?_ rfl; first | refine dx_wpA (hp:=by exact zDH) ?_ | refine dx_wp (hp:=by exact zDH) ?_ | refine dx_p (hp:=by exact au_p12) ?_)
     | (refine is_d 5 ?_ rfl; refine dx_p (hp:=by exact au_p5) ?_)
     | (refine is_d 7 ?_ rfl; first | refine dx_wpA (hp:=by exact au_wp7) ?_ | refine dx_wp (hp:=by exact au_wp7) ?_)
     | (refine is_d 9 ?_ rfl; first | refine dx_wpA (hp:=by exact au_wp9) ?_ | refine dx_wp (hp:=by exact au_wp9) ?_)
     | (refine is_d 14 ?_ rfl; first | refine dx_is (hp:=by exact wr_rd (zAZ rfl rfl rfl)) ?_ | (refine dx_is (hp:=by exact wr_rd2 (zAZ rfl rfl rfl)) ?_; intro u; refine al_an2 ?_) | refine dx_S (hp:=by exact ws_rd (zAZ rfl rfl rfl)) ?_ | (refine dx_S (hp:=by exact ws_rd2 (zAZ rfl rfl rfl)) ?_; intro u; refine al_an2 ?_))
     | (refine is_d 21 ?_ rfl; first | refine dx_wpA (hp:=by exact zDI) ?_ | refine dx_wp (hp:=by exact zDI) ?_)
     | (refine is_d 25 ?_ rfl; first | refine dx_is (hp:=by exact zCX) ?_ | refine dx_S (hp:=by exact zJf) ?_)
     | refine zCT ?_)
   | (refine is_ox ?_; first
     | (refine is_o 13 ?_ rfl; first | refine ox_r2A (hp:=by exact zCV) ?_ | refine ox_r2 (hp:=by exact zCV) ?_)
     | (refine is_o 19 ?_ rfl; first | (refine ox_c1 (hp:=by exact zCY) ?_; intro u; first | refine al_an1 ?_ | refine al_an0 ?_ | refine al_an2 ?_) | (refine ox_c (hp:=by exact zCY) ?_; intro u; first | refine an_1 ?_ | refine an_0 ?_ | refine an_2 ?_ | refine an_3 ?_ | refine an_4 ?_ | refine an_5 ?_) | (refine ox_cn (hp:=by exact zCY) ?_; intro u; first | refine am_0 ?_ | refine am_1 ?_ | refine am_2 ?_ | skip) | (refine ox_y ?_; intro u; first | refine an_1 ?_ | refine an_0 ?_ | refine an_2 ?_ | refine an_3 ?_ | refine an_4 ?_ | refine an_5 ?_))
     | (refine is_o 20 ?_ rfl; first | refine ox_r2A (hp:=by exact zCW) ?_ | refine ox_r2 (hp:=by exact zCW) ?_)
     | (refine is_o 17 ?_ rfl; first | refine ox_k1 (hp:=by exact zDx) ?_ | refine ox_k (hp:=by exact zDx) ?_)
     | (refine is_o 15 ?_ rfl; first | refine ox_e1 (hp:=by exact zDt) ?_ | refine ox_e (hp:=by exact zDt) ?_)
     | (refine is_o 16 ?_ rfl; first | refine ox_e1 (hp:=by exact zDu) ?_ | refine ox_e (hp:=by exact zDu) ?_)
     | (refine is_o 22 ?_ rfl; first | refine ox_e1 (hp:=by exact zB5) ?_ | refine ox_e (hp:=by exact zB5) ?_ | refine ox_en1 (hp:=by exact zB5) ?_ | refine ox_en (hp:=by exact zB5) ?_)
     | (refine is_o 11 ?_ rfl; first | refine ox_e1 (hp:=by exact zDs) ?_ | refine ox_e (hp:=by exact zDs) ?_ | refine ox_r2A (hp:=by exact zCU) ?_ | refine ox_r2 (hp:=by exact zCU) ?_)
     | (refine is_o 14 ?_ rfl; first | refine ox_r2A (hp:=by exact wr_rd (zAZ rfl rfl rfl)) ?_ | (refine ox_r2A (hp:=by exact wr_rd2 (zAZ rfl rfl rfl)) ?_; intro u; refine al_an2 ?_) | refine ox_r2 (hp:=by exact wr_rd (zAZ rfl rfl rfl)) ?_ | (refine ox_r2 (hp:=by exact wr_rd2 (zAZ rfl rfl rfl)) ?_; intro u; refine an_2 ?_))
     | (refine is_o 18 ?_ rfl; first | refine ox_k1 (hp:=by exact zDy) ?_ | refine ox_k (hp:=by exact zDy) ?_)
     | (refine is_o 23 ?_ rfl; first | refine ox_e1 (hp:=by exact zDv) ?_ | refine ox_e (hp:=by exact zDv) ?_)
     | (refine is_o 24 ?_ rfl; first | refine ox_e1 (hp:=by exact zDw) ?_ | refine ox_e (hp:=by exact zDw) ?_)
     | (refine is_o 25 ?_ rfl; first | refine ox_r2A (hp:=by exact zCX) ?_ | refine ox_r2 (hp:=by exact zCX) ?_)
     | refine zCT ?_)
   | refine zJZ ?_ ?_
   | refine ax_all ?_ ?_
   | exact ax_nil
   | refine ax_one ?_
   | (refine is_lx ?_; exact lx_end)
   | (refine is_sx ?_; first
     | refine sx_nil ?_
     | (refine is_gs ?_ rfl; refine sx_no ?_)
     | (refine is_s 0 ?_ rfl; refine sx_p (hp:=by exact au_p0) ?_)
     | (refine is_s 2 ?_ rfl; first | refine sx_p (hp:=by exact au_p2) ?_ | (refine gx_nn ?_; intro b hb; subst hb) | (refine gx_fv ?_; intro g fs cs hf cb; subst hf))
     | (refine is_s 3 ?_ rfl; refine sx_p (hp:=by exact au_p3) ?_)
     | (refine is_s 13 ?_ rfl; refine sx_wr (hp:=by exact zCV) ?_)
     | (refine is_s 10 ?_ rfl; first | refine sx_p (hp:=by exact au_p10) ?_ | refine sx_wp (hp:=by exact zDF) ?_)
     | (refine is_s 8 ?_ rfl; refine sx_wp (hp:=by exact au_wp8) ?_)
     | (refine is_s 20 ?_ rfl; first | refine sx_p (hp:=by exact au_p20) ?_ | refine sx_wr (hp:=by exact zCW) ?_)
     | (refine is_s 27 ?_ rfl; refine sx_wp (hp:=by exact zDK) ?_)
     | (refine is_s 4 ?_ rfl; first | refine sx_p (hp:=by exact au_p4) ?_ | refine sx_wp (hp:=by exact au_wp4) ?_)
     | (refine is_s 1 ?_ rfl; refine sx_p (hp:=by exact au_p1) ?_)
     | (refine is_s 6 ?_ rfl; refine sx_p (hp:=by exact au_p6) ?_)
     | (refine is_s 28 ?_ rfl; refine sx_wp (hp:=by exact zDL) ?_)
     | (refine is_s 11 ?_ rfl; first | refine sx_wp (hp:=by exact zDG) ?_ | refine sx_p (hp:=by exact au_p11) ?_ | refine sx_wr (hp:=by exact zCU) ?_)
     | (refine is_s 26 ?_ rfl; first | refine sx_wp (hp:=by exact zDJ) ?_ | refine sx_p (hp:=by exact au_p26) ?_)
     | (refine is_s 12 ?_ rfl; first | refine sx_wp (hp:=by exact zDH) ?_ | refine sx_p (hp:=by exact au_p12) ?_)
     | (refine is_s 5 ?_ rfl; refine sx_p (hp:=by exact au_p5) ?_)
     | (refine is_s 7 ?_ rfl; refine sx_wp (hp:=by exact au_wp7) ?_)
     | (refine is_s 9 ?_ rfl; refine sx_wp (hp:=by exact au_wp9) ?_)
     | (refine is_s 14 ?_ rfl; first | refine sx_wr (hp:=by exact wr_rd (zAZ rfl rfl rfl)) ?_ | (refine sx_wr (hp:=by exact wr_rd2 (zAZ rfl rfl rfl)) ?_; intro u; refine an_2 ?_))
     | (refine is_s 21 ?_ rfl; refine sx_wp (hp:=by exact zDI) ?_)
     | (refine is_s 25 ?_ rfl; refine sx_wr (hp:=by exact zCX) ?_)
     | (refine sx_ite ?_ ?_ <;> (intro hb; refine zDE ?_; intro a w hs; try rw [hb] at hs; clear hb; revert hs; revert w; revert a; refine gx_unf ?_)))
   | refine bx_b ?_
   | refine bj_b ?_
   | exact zJQ
   | refine zCT ?_) :
  CallF P f args.toArray kk w:=zLg n hk hf h hb hn hl
end Go.Sep
namespace Go.Proofs.YtdemfamgieonbaaGreat
open Go Go.Sep
abbrev ty_int:Nat:=3
abbrev zAd:Nat:=5
abbrev zBy:Nat:=9
abbrev zDU:Nat:=22
abbrev zAj:Nat:=25
abbrev zE8:Nat:=29
abbrev zFF:Nat:=35
abbrev zBz:Nat:=37
abbrev zAO:Nat:=40
abbrev zKJ:Nat:=42
abbrev zC9:Nat:=48
abbrev zEC:Nat:=49
abbrev zA3:Nat:=51
abbrev zB0:Nat:=53
abbrev zNk:Nat:=56
abbrev zAs:Nat:=84
abbrev zH3:Nat:=85
abbrev zA9:Nat:=87
abbrev zH4:Nat:=95
abbrev zBA:Nat:=123
abbrev zE9:Nat:=130
abbrev zKK:Nat:=133
abbrev zAp:Nat:=135
abbrev zBN:Nat:=136
abbrev zB7:Nat:=146
abbrev zIs:Nat:=151
abbrev zDl:Nat:=156
abbrev zIt:Nat:=159
abbrev zBO:Nat:=161
abbrev zA0:Nat:=163
abbrev zBI:Nat:=167
abbrev zC0:Nat:=173
abbrev zAx:Nat:=180
abbrev zBP:Nat:=194
abbrev zEJ:Nat:=195
abbrev zEZ:Nat:=196
abbrev zCn:Nat:=198
abbrev zCb:Nat:=200
abbrev zEx:Nat:=207
abbrev zCu:Nat:=219
abbrev zGa:Nat:=222
abbrev zBQ:Nat:=224
abbrev zDM:Nat:=226
abbrev zEy:Nat:=256
abbrev zEz:Nat:=257
abbrev zEk:Nat:=258
abbrev zFO:Nat:=260
abbrev zFP:Nat:=262
abbrev zCc:Nat:=319
abbrev zDV:Nat:=321
abbrev zFQ:Nat:=331
theorem zE0:zeroT Tryz.prog ty_int (.int .i64 0):=⟨Tryz.t3,by kernel_rfl,by kernel_rfl⟩
theorem zIT:zeroT Tryz.prog zAd (.int .u8 0):=⟨Tryz.t5,by kernel_rfl,by kernel_rfl⟩
theorem zLi:zeroT Tryz.prog zBy (.string ⟨#[]⟩):=⟨Tryz.t9,by kernel_rfl,by kernel_rfl⟩
theorem zIu:zeroT Tryz.prog zA9 (.agg #[(.bool false),(Sl.val ⟨none,0,0⟩),(.int .i64 0),(.int .u64 0)]):=⟨Tryz.t87,by kernel_rfl,by kernel_rfl⟩
theorem zH5:zeroT Tryz.prog zCu (.pointer none):=⟨Tryz.t219,by kernel_rfl,by kernel_rfl⟩
theorem mixed:Tryz.prog.follows .mixedOrders = true:=by kernel_rfl
end Go.Proofs.YtdemfamgieonbaaGreat
namespace Go.Sep
open Go
abbrev dfr (g:FuncId) (fs cs:Array Value) (vs:List Value):Deferred:={ target:=.fn (.func g) cs,args:=fs++vs.toArray }
def CallD (P:Program) (f:FuncId) (args:Array Value) (kk:Value→K):K:=fun w=>∀ u,CallsDIn Fence.wide 0 P f args u w fun e u' w'=>u' = u∧Ret kk e w'
section
variable {P:Program} {dl:List Deferred} {n:Nat} {σ:List (Nat×Value)} {k:K} {ops:Array Oper} {Q:Exit→Act→World→Prop} {l:List Oper} {o:Oper} {a:Act} {w:World}
theorem zNl {K1:Act→World→Prop} {x:Operand} {xs:Array Operand} {ts:Array TypeId} {g:FuncId} {fs cs:Array Value} {vs:List Value} (hs:SlotsD dl a n σ) (ho:o.op = .defer { callee:=.value x,args:=xs,argTypes:=ts }) (hx:ev σ x = some (.func (.func g) fs cs)) (hv:evs σ xs.toList = some vs)
  (h:K1 ({ a with defers:=dfr g fs cs vs::a.defers }.put o.dst undef) w):o.wpIn (fe none) 0 P a w K1 Q:=by
 refine ⟨fun f _=>trivial,?_⟩
 have h1:xs.map a.eval = vs.toArray:=by
  have h0:xs.map (Act.eval { a with defers:=[] }) = vs.toArray:=by apply Array.ext'; simpa using zFi hs.1 hv
  exact h0
 have h3:a.eval x = .func (.func g) fs cs:=hs.1.ev hx
 have h2:(execOp a.eval o).run P w = .ok (.defer (dfr g fs cs vs)) w:=by
  simp [execOp,ho,resolve,h3,h1,Deferred.ofValue,dfr]
 show o.uponIn Fence.wide 0 P a K1 Q ((o.semAt none a.eval).run P w)
 rw [Oper.semAt_none,h2,Oper.uponIn_defer]
 exact h
theorem tx_def {x:Operand} {xs:Array Operand} {ts:Array TypeId} {g:FuncId} {fs cs:Array Value} {vs:List Value} (h:G (dfr g fs cs vs::dl) n σ k (Tx none P ops Q l)) (ho:o.op = .defer { callee:=.value x,args:=xs,argTypes:=ts }:=by rfl) (hd:o.dst = none:=by rfl) (hw:wants ops σ o = some true:=by rfl)
  (hx:ev σ x = some (.func (.func g) fs cs):=by rfl) (hv:evs σ xs.toList = some vs:=by rfl):G dl n σ k (Tx none P ops Q (o::l)):=fun a w hs hk=>by
 refine t_run hs hw (zNl hs ho hx hv ?_)
 rw [hd]
 exact h _ w ⟨hs.1,by rw [← hs.2]; rfl⟩ hk
theorem zTM {fn:Func} {kk kv:Value→K} {g:FuncId} {fs cs A:Array Value} {vs:List Value} {rs:List ResultVar} (h:∀ u,G [dfr g fs cs vs] n σ (kv u) (Rx P kk rs [])) (hr:fn.results = rs.toArray:=by rfl) (hA:fs++vs.toArray++cs = A:=by rfl) [cb:CB P g] :
  G [dfr g fs cs vs] n σ (CallD P g A kv) (Ex (bodyPostT P fn (Ret kk)) .ret):=fun a w hs hk=>by
 show LeavesInM Fence.wide 0 P fn a.tmps (Ret kk) a.defers .returning w
 rw [hs.2]
 refine ⟨by simp,.inr ⟨(fun h=>by cases h),.func g,cs,g,A,rfl,?_,fun _ _=>trivial,?_⟩⟩
 ·show (invoke (.fn (.func g) cs) (fs++vs.toArray)).run P w = _
  simp only [invoke]
  rw [zEU cb.h,hA]
 ·refine (hk .returning).mono fun e u' w' he=>?_
  obtain ⟨rfl,he⟩:=he
  cases e with
  | returned v =>
   obtain ⟨v2,h1,h2⟩:=rx_run (fn:=fn) (a:=a) (w:=w') (by rw [hr]; exact h v a w' hs he)
   exact ⟨v2,h1,h2⟩
  | panicked c=>exact he.elim
  | outgrown=>exact he.elim
theorem zQb {x y:Operand} {T:TypeId} {vx vy:Value} (ho:o.op = .index T x y) (hx:ev σ x = some vx) (hy:ev σ y = some vy):∀ v w w',(Instr.index T vx vy).run P w = .ok v w'→Eff P σ o w (.value v) w':=fun v w w' hr _ _ hs=>by
 simp [execOp,ho,hs.ev hx,hs.ev hy,hr]
theorem ox_def {x:Operand} {xs:Array Operand} {ts:Array TypeId} {g:FuncId} {fs cs:Array Value} {vs:List Value} {S:World→Prop} {ds done:List Nat} {i:Nat} {t:Scr} (h:G (dfr g fs cs vs::dl) n σ k (Dx P ops Q S ds (i::done) t)) (hi:ops[i]? = some o:=by rfl) (ho:o.op = .defer { callee:=.value x,args:=xs,argTypes:=ts }:=by rfl) (hd:o.dst = none:=by rfl) (hw:wants ops σ o = some true:=by rfl)
  (hx:ev σ x = some (.func (.func g) fs cs):=by rfl) (hv:evs σ xs.toList = some vs:=by rfl) (hK:okK ops S ds done i:=by exact zE7):G dl n σ k (Ox P ops Q S ds done i 0 t):=fun a w hs hk=>by
 refine ox_run hs hi hw fun hQ=>(zNl hs ho hx hv ⟨hK.keep w w,?_⟩)
 rw [hd,dn_len (m:=0)]
 exact h _ w ⟨hs.1,by rw [← hs.2]; rfl⟩ hk hQ
theorem zTN {fn:Func} {kk:Value→K} {rs:List ResultVar} (h:G [] n σ k (Rx P kk rs [])) (hr:fn.results = rs.toArray:=by rfl):G [] n σ k (Ex (bodyPost P fn (Ret kk)) .ret):=fun a w hs hk=>by
 obtain ⟨v,h1,h2⟩:=rx_run (fn:=fn) (by rw [hr]; exact h a w hs hk)
 exact ⟨hs.2,v,h1,h2⟩
theorem zTO {fn:Func} {kk:Value→K} (h:G dl n σ k (Ex (bodyPost P fn (Ret kk)) .ret)):G dl n σ k (Ex (bodyPost P fn (Ret kk)) .normal):=h
end
set_option maxRecDepth 100000 in
theorem zTP {P:Program} {f:FuncId} {fn:Func} {c:Code} {args:List Value} {kk:Value→K} {k:K} (n:Nat) {w:World} (hk:k w) (hf:P.funcs[f]? = some fn) (hb:fn.body = some c:=by rfl) (hn:fn.ntmps = n:=by rfl) (hl:Nat.ble args.length n = true:=by rfl)
  (h:G [] n (numb 0 args) k (Cx none P c (bodyPostT P fn (Ret kk))):=by
   repeat' first
   | intro _
   | (refine is_tx ?_; first
     | refine tx_nil ?_
     | (refine is_gd ?_ rfl; first | refine tx_no ?_ | refine tx_no' ?_)
     | (refine is_t 0 ?_ rfl; refine tx_p (hp:=by exact au_p0) ?_)
     | (refine is_t 2 ?_ rfl; first | refine tx_p (hp:=by exact au_p2) ?_ | (refine gx_nn ?_; intro b hb; subst hb) | (refine gx_fv ?_; intro g fs cs hf cb; subst hf))
     | (refine is_t 3 ?_ rfl; refine tx_p (hp:=by exact au_p3) ?_)
     | (refine is_t 13 ?_ rfl; refine tx_wr (hp:=by exact zCV) ?_)
     | (refine is_t 19 ?_ rfl; first | (refine tx_wc (hp:=by exact zCY) ?_; intro u; first | refine an_1 ?_ | refine an_0 ?_ | refine an_2 ?_ | refine an_3 ?_ | refine an_4 ?_ | refine an_5 ?_) | refine tx_wr (hp:=by exact wr_rd (e_ext' rfl rfl rfl)) ?_ | (refine tx_wcn (hp:=by exact zCY) ?_; intro u; first | refine am_0 ?_ | refine am_1 ?_ | refine am_2 ?_ | skip) | (refine tx_wy ?_; intro u; first | refine an_1 ?_ | refine an_0 ?_ | refine an_2 ?_ | refine an_3 ?_ | refine an_4 ?_ | refine an_5 ?_))
     | (refine is_t 10 ?_ rfl; first | refine tx_p (hp:=by exact au_p10) ?_ | refine tx_wp (hp:=by exact zDF) ?_)
     | (refine is_t 8 ?_ rfl; refine tx_wp (hp:=by exact au_wp8) ?_)
     | (refine is_t 20 ?_ rfl; first | refine tx_p (hp:=by exact au_p20) ?_ | refine tx_wr (hp:=by exact zCW) ?_)
     | (refine is_t 27 ?_ rfl; refine tx_wp (hp:=by exact zDK) ?_)
     | (refine is_t 27 ?_ rfl; refine tx_wr (hp:=by exact wr_rd (zQb rfl rfl rfl)) ?_)
     | (refine is_t 4 ?_ rfl; first | refine tx_p (hp:=by exact au_p4) ?_ | refine tx_wp (hp:=by exact au_wp4) ?_)
     | (refine is_t 17 ?_ rfl; refine tx_wk (hp:=by exact zDx) ?_)
     | (refine is_t 1 ?_ rfl; refine tx_p (hp:=by exact au_p1) ?_)
     | (refine is_t 6 ?_ rfl; refine tx_p (hp:=by exact au_p6) ?_)
     | (refine is_t 15 ?_ rfl; refine tx_we (hp:=by exact zDt) ?_)
     | (refine is_t 16 ?_ rfl; refine tx_we (hp:=by exact zDu) ?_)
     | (refine is_t 22 ?_ rfl; first | refine tx_we (hp:=by exact zB5) ?_ | refine tx_wen (hp:=by exact zB5) ?_)
     | (refine is_t 28 ?_ rfl; refine tx_wp (hp:=by exact zDL) ?_)
     | (refine is_t 11 ?_ rfl; first | refine tx_wp (hp:=by exact zDG) ?_ | refine tx_p (hp:=by exact au_p11) ?_ | refine tx_wr (hp:=by exact zCU) ?_ | refine tx_we (hp:=by exact zDs) ?_)
     | (refine is_t 26 ?_ rfl; first | refine tx_wp (hp:=by exact zDJ) ?_ | refine tx_p (hp:=by exact au_p26) ?_)
     | (refine is_t 12 ?_ rfl; first | refine tx_wp (hp:=by exact zDH) ?_ | refine tx_p (hp:=by exact au_p12) ?_)
     | (refine is_t 5 ?_ rfl; refine tx_p (hp:=by exact au_p5) ?_)
     | (refine is_t 7 ?_ rfl; refine tx_wp (hp:=by exact au_wp7) ?_)
     | (refine is_t 9 ?_ rfl; refine tx_wp (hp:=by exact au_wp9) ?_)
     | (refine is_t 14 ?_ rfl; first | refine tx_wr (hp:=by exact wr_rd (zAZ rfl rfl rfl)) ?_ | (refine tx_wr (hp:=by exact wr_rd2 (zAZ rfl rfl rfl)) ?_; intro u; refine an_2 ?_))
     | (refine is_t 18 ?_ rfl; refine tx_wk (hp:=by exact zDy) ?_)
     | (refine is_t 21 ?_ rfl; refine tx_wp (hp:=by exact zDI) ?_)
     | (refine is_t 23 ?_ rfl; refine tx_we (hp:=by exact zDv) ?_)
     | (refine is_t 24 ?_ rfl; refine tx_we (hp:=by exact zDw) ?_)
     | (refine is_t 25 ?_ rfl; refine tx_wr (hp:=by exact zCX) ?_)
     | (refine is_t 99 ?_ rfl; refine tx_def ?_)
     | (refine tx_ite ?_ ?_ <;> (intro hb; refine zDE ?_; intro a w hs; try rw [hb] at hs; clear hb; revert hs; revert w; revert a; refine gx_unf ?_)))
   | (refine is_cx ?_; first
     | refine cx_reg ?_
     | (refine is_seq ?_; first | (refine zJR ?_; (repeat apply ex_i); refine And.intro zE6 (And.intro ?_ ?_)) | refine cx_seq ?_)
     | refine zGw ?_ ?_ rfl
     | refine zJS ?_
     | refine cx_ret ?_
     | refine zHt ?_
     | refine zJT ?_
     | refine zJU ?_
     | (refine zJa ?_; first | refine zGq ?_ | refine zGr ?_)
     | (refine zJb ?_; first | refine zH0 ?_ | refine zHz ?_ | refine zH1 ?_ | refine zH2 ?_)
     | refine zHs ?_
     | refine zGv ?_ ?_
     | refine zGu ?_ ?_ ?_
     | refine zCT ?_)
   | (refine is_ex ?_; first
     | refine zJV ?_
     | refine zGt ?_
     | refine zGs ?_
     | refine ex_blk ?_
     | refine zHu ?_
     | refine zHv ?_
     | refine zHw ?_
     | (refine zTM ?_; intro u; refine am_0 ?_)
     | refine zJW ?_
     | refine ex_ret ?_
     | refine ex_end ?_
     | exact rq_n
     | exact rq_r
     | exact rq_x
     | refine zCT ?_)
   | exact zJP
   | refine gp_in ?_
   | (refine is_rx ?_; first
     | refine rx_tmp ?_
     | refine rx_nil ?_
     | refine zJX ?_
     | refine zHx ?_)
   | (refine is_fx ?_; first
     | exact fx_1
     | exact fx_0
     | exact fx_2
     | exact fx_3
     | exact fx_4
     | exact fx_5)
   | (refine is_dx ?_; first
     | refine dx_end ?_
     | refine dx_nil ?_
     | refine dx_a ?_
     | (refine zJY ?_ ?_ <;> (intro hb; refine zDE ?_; intro a w hs; try rw [hb] at hs; clear hb; revert hs; revert w; revert a; refine gx_unf ?_))
     | (refine dx_ite ?_ ?_ <;> (intro hb; refine zDE ?_; intro a w hs; try rw [hb] at hs; clear hb; revert hs; revert w; revert a; refine gx_unf ?_))
     | (refine is_gdx ?_ rfl; first | refine dx_no ?_ | refine dx_no' ?_)
     | (refine is_d 0 ?_ rfl; refine dx_p (hp:=by exact au_p0) ?_)
     | (refine is_d 2 ?_ rfl; first | refine dx_p (hp:=by exact au_p2) ?_ | (refine al_nn ?_; intro b hb; subst hb) | (refine gx_nn ?_; intro b hb; subst hb) | (refine al_fv ?_; intro g fs cs hf cb; subst hf) | (refine gx_fv ?_; intro g fs cs hf cb; subst hf))
     | (refine is_d 3 ?_ rfl; refine dx_p (hp:=by exact au_p3) ?_)
     | (refine is_d 13 ?_ rfl; first | refine dx_is (hp:=by exact zCV) ?_ | refine dx_S (hp:=by exact zJd) ?_)
     | (refine is_d 10 ?_ rfl; first | refine dx_p (hp:=by exact au_p10) ?_ | refine dx_wpA (hp:=by exact zDF) ?_ | refine dx_wp (hp:=by exact zDF) ?_)
     | (refine is_d 8 ?_ rfl; first | refine dx_wpA (hp:=by exact au_wp8) ?_ | refine dx_wp (hp:=by exact au_wp8) ?_)
     | (refine is_d 20 ?_ rfl; first | refine dx_p (hp:=by exact au_p20) ?_ | refine dx_is (hp:=by exact zCW) ?_ | refine dx_S (hp:=by exact zJe) ?_)
     | (refine is_d 27 ?_ rfl; first | refine dx_wpA (hp:=by exact zDK) ?_ | refine dx_wp (hp:=by exact zDK) ?_)
     | (refine is_d 4 ?_ rfl; first | refine dx_p (hp:=by exact au_p4) ?_ | refine dx_wpA (hp:=by exact au_wp4) ?_ | refine dx_wp (hp:=by exact au_wp4) ?_)
     | (refine is_d 1 ?_ rfl; refine dx_p (hp:=by exact au_p1) ?_)
     | (refine is_d 6 ?_ rfl; refine dx_p (hp:=by exact au_p6) ?_)
     | (refine is_d 28 ?_ rfl; first | refine dx_wpA (hp:=by exact zDL) ?_ | refine dx_wp (hp:=by exact zDL) ?_)
     | (refine is_d 11 ?_ rfl; first | refine dx_wpA (hp:=by exact zDG) ?_ | refine dx_wp (hp:=by exact zDG) ?_ | refine dx_p (hp:=by exact au_p11) ?_ | refine dx_is (hp:=by exact zCU) ?_ | refine dx_S (hp:=by exact zJc) ?_)
     | (refine is_d 26 ?_ rfl; first | refine dx_wpA (hp:=by exact zDJ) ?_ | refine dx_wp (hp:=by exact zDJ) ?_ | refine dx_p (hp:=by exact au_p26) ?_)
     | (refine is_d 12 ?_ rfl; first | refine dx_wpA (hp:=by exact zDH) ?_ | refine dx_wp (hp:=by exact zDH) ?_ | refine dx_p (hp:=by exact au_p12) ?_)
     | (refine is_d 5 ?_ rfl; refine dx_p (hp:=by exact au_p5) ?_)
     | (refine is_d 7 ?_ rfl; first | refine dx_wpA (hp:=by exact au_wp7) ?_ | refine dx_wp (hp:=by exact au_wp7) ?_)
     | (refine is_d 9 ?_ rfl; first | refine dx_wpA (hp:=by exact au_wp9) ?_ | refine dx_wp (hp:=by exact au_wp9) ?_)
     | (refine is_d 14 ?_ rfl; first | refine dx_is (hp:=by exact wr_rd (zAZ rfl rfl rfl)) ?_ | (refine dx_is (hp:=by exact wr_rd2 (zAZ rfl rfl rfl)) ?_; intro u; refine al_an2 ?_) | refine dx_S (hp:=by exact ws_rd (zAZ rfl rfl rfl)) ?_ | (refine dx_S (hp:=by exact ws_rd2 (zAZ rfl rfl rfl)) ?_; intro u; refine al_an2 ?_))
     | (refine is_d 21 ?_ rfl; first | refine dx_wpA (hp:=by exact zDI) ?_ | refine dx_wp (hp:=by exact zDI) ?_)
     | (refine is_d 25 ?_ rfl; first | refine dx_is (hp:=by exact zCX) ?_ | refine dx_S (hp:=by exact zJf) ?_)
     | refine zCT ?_)
   | (refine is_ox ?_; first
     | (refine is_o 13 ?_ rfl; first | refine ox_r2A (hp:=by exact zCV) ?_ | refine ox_r2 (hp:=by exact zCV) ?_)
     | (refine is_o 19 ?_ rfl; first | (refine ox_c1 (hp:=by exact zCY) ?_; intro u; first | refine al_an1 ?_ | refine al_an0 ?_ | refine al_an2 ?_) | (refine ox_c (hp:=by exact zCY) ?_; intro u; first | refine an_1 ?_ | refine an_0 ?_ | refine an_2 ?_ | refine an_3 ?_ | refine an_4 ?_ | refine an_5 ?_) | (refine ox_cn (hp:=by exact zCY) ?_; intro u; first | refine am_0 ?_ | refine am_1 ?_ | refine am_2 ?_ | skip) | (refine ox_y ?_; intro u; first | refine an_1 ?_ | refine an_0 ?_ | refine an_2 ?_ | refine an_3 ?_ | refine an_4 ?_ | refine an_5 ?_))
     | (refine is_o 20 ?_ rfl; first | refine ox_r2A (hp:=by exact zCW) ?_ | refine ox_r2 (hp:=by exact zCW) ?_)
     | (refine is_o 17 ?_ rfl; first | refine ox_k1 (hp:=by exact zDx) ?_ | refine ox_k (hp:=by exact zDx) ?_)
     | (refine is_o 15 ?_ rfl; first | refine ox_e1 (hp:=by exact zDt) ?_ | refine ox_e (hp:=by exact zDt) ?_)
     | (refine is_o 16 ?_ rfl; first | refine ox_e1 (hp:=by exact zDu) ?_ | refine ox_e (hp:=by exact zDu) ?_)
     | (refine is_o 22 ?_ rfl; first | refine ox_e1 (hp:=by exact zB5) ?_ | refine ox_e (hp:=by exact zB5) ?_ | refine ox_en1 (hp:=by exact zB5) ?_ | refine ox_en (hp:=by exact zB5) ?_)
     | (refine is_o 11 ?_ rfl; first | refine ox_e1 (hp:=by exact zDs) ?_ | refine ox_e (hp:=by exact zDs) ?_ | refine ox_r2A (hp:=by exact zCU) ?_ | refine ox_r2 (hp:=by exact zCU) ?_)
     | (refine is_o 14 ?_ rfl; first | refine ox_r2A (hp:=by exact wr_rd (zAZ rfl rfl rfl)) ?_ | (refine ox_r2A (hp:=by exact wr_rd2 (zAZ rfl rfl rfl)) ?_; intro u; refine al_an2 ?_) | refine ox_r2 (hp:=by exact wr_rd (zAZ rfl rfl rfl)) ?_ | (refine ox_r2 (hp:=by exact wr_rd2 (zAZ rfl rfl rfl)) ?_; intro u; refine an_2 ?_))
     | (refine is_o 18 ?_ rfl; first | refine ox_k1 (hp:=by exact zDy) ?_ | refine ox_k (hp:=by exact zDy) ?_)
     | (refine is_o 23 ?_ rfl; first | refine ox_e1 (hp:=by exact zDv) ?_ | refine ox_e (hp:=by exact zDv) ?_)
     | (refine is_o 24 ?_ rfl; first | refine ox_e1 (hp:=by exact zDw) ?_ | refine ox_e (hp:=by exact zDw) ?_)
     | (refine is_o 25 ?_ rfl; first | refine ox_r2A (hp:=by exact zCX) ?_ | refine ox_r2 (hp:=by exact zCX) ?_)
     | (refine is_o 99 ?_ rfl; refine ox_def ?_)
     | refine zCT ?_)
   | refine zJZ ?_ ?_
   | refine ax_all ?_ ?_
   | exact ax_nil
   | refine ax_one ?_
   | (refine is_lx ?_; exact lx_end)
   | (refine is_sx ?_; first
     | refine sx_nil ?_
     | (refine is_gs ?_ rfl; refine sx_no ?_)
     | (refine is_s 0 ?_ rfl; refine sx_p (hp:=by exact au_p0) ?_)
     | (refine is_s 2 ?_ rfl; first | refine sx_p (hp:=by exact au_p2) ?_ | (refine gx_nn ?_; intro b hb; subst hb) | (refine gx_fv ?_; intro g fs cs hf cb; subst hf))
     | (refine is_s 3 ?_ rfl; refine sx_p (hp:=by exact au_p3) ?_)
     | (refine is_s 13 ?_ rfl; refine sx_wr (hp:=by exact zCV) ?_)
     | (refine is_s 10 ?_ rfl; first | refine sx_p (hp:=by exact au_p10) ?_ | refine sx_wp (hp:=by exact zDF) ?_)
     | (refine is_s 8 ?_ rfl; refine sx_wp (hp:=by exact au_wp8) ?_)
     | (refine is_s 20 ?_ rfl; first | refine sx_p (hp:=by exact au_p20) ?_ | refine sx_wr (hp:=by exact zCW) ?_)
     | (refine is_s 27 ?_ rfl; refine sx_wp (hp:=by exact zDK) ?_)
     | (refine is_s 4 ?_ rfl; first | refine sx_p (hp:=by exact au_p4) ?_ | refine sx_wp (hp:=by exact au_wp4) ?_)
     | (refine is_s 1 ?_ rfl; refine sx_p (hp:=by exact au_p1) ?_)
     | (refine is_s 6 ?_ rfl; refine sx_p (hp:=by exact au_p6) ?_)
     | (refine is_s 28 ?_ rfl; refine sx_wp (hp:=by exact zDL) ?_)
     | (refine is_s 11 ?_ rfl; first | refine sx_wp (hp:=by exact zDG) ?_ | refine sx_p (hp:=by exact au_p11) ?_ | refine sx_wr (hp:=by exact zCU) ?_)
     | (refine is_s 26 ?_ rfl; first | refine sx_wp (hp:=by exact zDJ) ?_ | refine sx_p (hp:=by exact au_p26) ?_)
     | (refine is_s 12 ?_ rfl; first | refine sx_wp (hp:=by exact zDH) ?_ | refine sx_p (hp:=by exact au_p12) ?_)
     | (refine is_s 5 ?_ rfl; refine sx_p (hp:=by exact au_p5) ?_)
     | (refine is_s 7 ?_ rfl; refine sx_wp (hp:=by exact au_wp7) ?_)
     | (refine is_s 9 ?_ rfl; refine sx_wp (hp:=by exact au_wp9) ?_)
     | (refine is_s 14 ?_ rfl; first | refine sx_wr (hp:=by exact wr_rd (zAZ rfl rfl rfl)) ?_ | (refine sx_wr (hp:=by exact wr_rd2 (zAZ rfl rfl rfl)) ?_; intro u; refine an_2 ?_))
     | (refine is_s 21 ?_ rfl; refine sx_wp (hp:=by exact zDI) ?_)
     | (refine is_s 25 ?_ rfl; refine sx_wr (hp:=by exact zCX) ?_)
     | (refine sx_ite ?_ ?_ <;> (intro hb; refine zDE ?_; intro a w hs; try rw [hb] at hs; clear hb; revert hs; revert w; revert a; refine gx_unf ?_)))
   | refine bx_b ?_
   | refine bj_b ?_
   | exact zJQ
   | refine zCT ?_) :
  CallF P f args.toArray kk w:=zLg n hk hf h hb hn hl
set_option maxRecDepth 100000 in
theorem zTQ {P:Program} {f:FuncId} {fn:Func} {c:Code} {args:List Value} {kk:Value→K} {k:K} (n:Nat) {w:World} (hk:k w) (hf:P.funcs[f]? = some fn) (hb:fn.body = some c:=by rfl) (hn:fn.ntmps = n:=by rfl) (hl:Nat.ble args.length n = true:=by rfl)
  (h:G [] n (numb 0 args) k (Cx none P c (bodyPost P fn (Ret kk))):=by
   repeat' first
   | intro _
   | (refine is_tx ?_; first
     | refine tx_nil ?_
     | (refine is_gd ?_ rfl; first | refine tx_no ?_ | refine tx_no' ?_)
     | (refine is_t 0 ?_ rfl; refine tx_p (hp:=by exact au_p0) ?_)
     | (refine is_t 2 ?_ rfl; first | refine tx_p (hp:=by exact au_p2) ?_ | (refine gx_nn ?_; intro b hb; subst hb) | (refine gx_fv ?_; intro g fs cs hf cb; subst hf))
     | (refine is_t 3 ?_ rfl; refine tx_p (hp:=by exact au_p3) ?_)
     | (refine is_t 13 ?_ rfl; refine tx_wr (hp:=by exact zCV) ?_)
     | (refine is_t 19 ?_ rfl; first | (refine tx_wc (hp:=by exact zCY) ?_; intro u; first | refine an_1 ?_ | refine an_0 ?_ | refine an_2 ?_ | refine an_3 ?_ | refine an_4 ?_ | refine an_5 ?_) | refine tx_wr (hp:=by exact wr_rd (e_ext' rfl rfl rfl)) ?_ | (refine tx_wcn (hp:=by exact zCY) ?_; intro u; first | refine am_0 ?_ | refine am_1 ?_ | refine am_2 ?_ | skip) | (refine tx_wy ?_; intro u; first | refine an_1 ?_ | refine an_0 ?_ | refine an_2 ?_ | refine an_3 ?_ | refine an_4 ?_ | refine an_5 ?_))
     | (refine is_t 10 ?_ rfl; first | refine tx_p (hp:=by exact au_p10) ?_ | refine tx_wp (hp:=by exact zDF) ?_)
     | (refine is_t 8 ?_ rfl; refine tx_wp (hp:=by exact au_wp8) ?_)
     | (refine is_t 20 ?_ rfl; first | refine tx_p (hp:=by exact au_p20) ?_ | refine tx_wr (hp:=by exact zCW) ?_)
     | (refine is_t 27 ?_ rfl; refine tx_wp (hp:=by exact zDK) ?_)
     | (refine is_t 4 ?_ rfl; first | refine tx_p (hp:=by exact au_p4) ?_ | refine tx_wp (hp:=by exact au_wp4) ?_)
     | (refine is_t 17 ?_ rfl; refine tx_wk (hp:=by exact zDx) ?_)
     | (refine is_t 1 ?_ rfl; refine tx_p (hp:=by exact au_p1) ?_)
     | (refine is_t 6 ?_ rfl; refine tx_p (hp:=by exact au_p6) ?_)
     | (refine is_t 15 ?_ rfl; refine tx_we (hp:=by exact zDt) ?_)
     | (refine is_t 16 ?_ rfl; refine tx_we (hp:=by exact zDu) ?_)
     | (refine is_t 22 ?_ rfl; first | refine tx_we (hp:=by exact zB5) ?_ | refine tx_wen (hp:=by exact zB5) ?_)
     | (refine is_t 28 ?_ rfl; refine tx_wp (hp:=by exact zDL) ?_)
     | (refine is_t 11 ?_ rfl; first | refine tx_wp (hp:=by exact zDG) ?_ | refine tx_p (hp:=by exact au_p11) ?_ | refine tx_wr (hp:=by exact zCU) ?_ | refine tx_we (hp:=by exact zDs) ?_)
     | (refine is_t 26 ?_ rfl; first | refine tx_wp (hp:=by exact zDJ) ?_ | refine tx_p (hp:=by exact au_p26) ?_)
     | (refine is_t 12 ?_ rfl; first | refine tx_wp (hp:=by exact zDH) ?_ | refine tx_p (hp:=by exact au_p12) ?_)
     | (refine is_t 5 ?_ rfl; refine tx_p (hp:=by exact au_p5) ?_)
     | (refine is_t 7 ?_ rfl; refine tx_wp (hp:=by exact au_wp7) ?_)
     | (refine is_t 9 ?_ rfl; refine tx_wp (hp:=by exact au_wp9) ?_)
     | (refine is_t 14 ?_ rfl; first | refine tx_wr (hp:=by exact wr_rd (zAZ rfl rfl rfl)) ?_ | (refine tx_wr (hp:=by exact wr_rd2 (zAZ rfl rfl rfl)) ?_; intro u; refine an_2 ?_))
     | (refine is_t 18 ?_ rfl; refine tx_wk (hp:=by exact zDy) ?_)
     | (refine is_t 21 ?_ rfl; refine tx_wp (hp:=by exact zDI) ?_)
     | (refine is_t 23 ?_ rfl; refine tx_we (hp:=by exact zDv) ?_)
     | (refine is_t 24 ?_ rfl; refine tx_we (hp:=by exact zDw) ?_)
     | (refine is_t 25 ?_ rfl; refine tx_wr (hp:=by exact zCX) ?_)
     | (refine tx_ite ?_ ?_ <;> (intro hb; refine zDE ?_; intro a w hs; try rw [hb] at hs; clear hb; revert hs; revert w; revert a; refine gx_unf ?_)))
   | (refine is_cx ?_; first
     | refine cx_reg ?_
     | (refine is_seq ?_; first | (refine zJR ?_; (repeat apply ex_i); refine And.intro zE6 (And.intro ?_ ?_)) | refine cx_seq ?_)
     | refine zGw ?_ ?_ rfl
     | refine zJS ?_
     | refine cx_ret ?_
     | refine zHt ?_
     | refine zJT ?_
     | refine zJU ?_
     | (refine zJa ?_; first | refine zGq ?_ | refine zGr ?_)
     | (refine zJb ?_; first | refine zH0 ?_ | refine zHz ?_ | refine zH1 ?_ | refine zH2 ?_)
     | refine zHs ?_
     | refine zGv ?_ ?_
     | refine zGu ?_ ?_ ?_
     | refine zCT ?_)
   | (refine is_ex ?_; first
     | refine zJV ?_
     | refine zGt ?_
     | refine zGs ?_
     | refine ex_blk ?_
     | refine zHu ?_
     | refine zHv ?_
     | refine zHw ?_
     | refine zJW ?_
     | refine zTN ?_
     | refine zTO ?_
     | exact rq_n
     | exact rq_r
     | exact rq_x
     | refine zCT ?_)
   | exact zJP
   | refine gp_in ?_
   | (refine is_rx ?_; first
     | refine rx_tmp ?_
     | refine rx_nil ?_
     | refine zJX ?_
     | refine zHx ?_)
   | (refine is_fx ?_; first
     | exact fx_1
     | exact fx_0
     | exact fx_2
     | exact fx_3
     | exact fx_4
     | exact fx_5)
   | (refine is_dx ?_; first
     | refine dx_end ?_
     | refine dx_nil ?_
     | refine dx_a ?_
     | (refine zJY ?_ ?_ <;> (intro hb; refine zDE ?_; intro a w hs; try rw [hb] at hs; clear hb; revert hs; revert w; revert a; refine gx_unf ?_))
     | (refine dx_ite ?_ ?_ <;> (intro hb; refine zDE ?_; intro a w hs; try rw [hb] at hs; clear hb; revert hs; revert w; revert a; refine gx_unf ?_))
     | (refine is_gdx ?_ rfl; first | refine dx_no ?_ | refine dx_no' ?_)
     | (refine is_d 0 ?_ rfl; refine dx_p (hp:=by exact au_p0) ?_)
     | (refine is_d 2 ?_ rfl; first | refine dx_p (hp:=by exact au_p2) ?_ | (refine al_nn ?_; intro b hb; subst hb) | (refine gx_nn ?_; intro b hb; subst hb) | (refine al_fv ?_; intro g fs cs hf cb; subst hf) | (refine gx_fv ?_; intro g fs cs hf cb; subst hf))
     | (refine is_d 3 ?_ rfl; refine dx_p (hp:=by exact au_p3) ?_)
     | (refine is_d 13 ?_ rfl; first | refine dx_is (hp:=by exact zCV) ?_ | refine dx_S (hp:=by exact zJd) ?_)
     | (refine is_d 10 ?_ rfl; first | refine dx_p (hp:=by exact au_p10) ?_ | refine dx_wpA (hp:=by exact zDF) ?_ | refine dx_wp (hp:=by exact zDF) ?_)
     | (refine is_d 8 ?_ rfl; first | refine dx_wpA (hp:=by exact au_wp8) ?_ | refine dx_wp (hp:=by exact au_wp8) ?_)
     | (refine is_d 20 ?_ rfl; first | refine dx_p (hp:=by exact au_p20) ?_ | refine dx_is (hp:=by exact zCW) ?_ | refine dx_S (hp:=by exact zJe) ?_)
     | (refine is_d 27 ?_ rfl; first | refine dx_wpA (hp:=by exact zDK) ?_ | refine dx_wp (hp:=by exact zDK) ?_)
     | (refine is_d 4 ?_ rfl; first | refine dx_p (hp:=by exact au_p4) ?_ | refine dx_wpA (hp:=by exact au_wp4) ?_ | refine dx_wp (hp:=by exact au_wp4) ?_)
     | (refine is_d 1 ?_ rfl; refine dx_p (hp:=by exact au_p1) ?_)
     | (refine is_d 6 ?_ rfl; refine dx_p (hp:=by exact au_p6) ?_)
     | (refine is_d 28 ?_ rfl; first | refine dx_wpA (hp:=by exact zDL) ?_ | refine dx_wp (hp:=by exact zDL) ?_)
     | (refine is_d 11 ?_ rfl; first | refine dx_wpA (hp:=by exact zDG) ?_ | refine dx_wp (hp:=by exact zDG) ?_ | refine dx_p (hp:=by exact au_p11) ?_ | refine dx_is (hp:=by exact zCU) ?_ | refine dx_S (hp:=by exact zJc) ?_)
     | (refine is_d 26 ?_ rfl; first | refine dx_wpA (hp:=by exact zDJ) ?_ | refine dx_wp (hp:=by exact zDJ) ?_ | refine dx_p (hp:=by exact au_p26) ?_)
     | (refine is_d 12 ?_ rfl; first | refine dx_wpA (hp:=by exact zDH) ?_ | refine dx_wp (hp:=by exact zDH) ?_ | refine dx_p (hp:=by exact au_p12) ?_)
     | (refine is_d 5 ?_ rfl; refine dx_p (hp:=by exact au_p5) ?_)
     | (refine is_d 7 ?_ rfl; first | refine dx_wpA (hp:=by exact au_wp7) ?_ | refine dx_wp (hp:=by exact au_wp7) ?_)
     | (refine is_d 9 ?_ rfl; first | refine dx_wpA (hp:=by exact au_wp9) ?_ | refine dx_wp (hp:=by exact au_wp9) ?_)
     | (refine is_d 14 ?_ rfl; first | refine dx_is (hp:=by exact wr_rd (zAZ rfl rfl rfl)) ?_ | (refine dx_is (hp:=by exact wr_rd2 (zAZ rfl rfl rfl)) ?_; intro u; refine al_an2 ?_) | refine dx_S (hp:=by exact ws_rd (zAZ rfl rfl rfl)) ?_ | (refine dx_S (hp:=by exact ws_rd2 (zAZ rfl rfl rfl)) ?_; intro u; refine al_an2 ?_))
     | (refine is_d 21 ?_ rfl; first | refine dx_wpA (hp:=by exact zDI) ?_ | refine dx_wp (hp:=by exact zDI) ?_)
     | (refine is_d 25 ?_ rfl; first | refine dx_is (hp:=by exact zCX) ?_ | refine dx_S (hp:=by exact zJf) ?_)
     | refine zCT ?_)
   | (refine is_ox ?_; first
     | (refine is_o 13 ?_ rfl; first | refine ox_r2A (hp:=by exact zCV) ?_ | refine ox_r2 (hp:=by exact zCV) ?_)
     | (refine is_o 19 ?_ rfl; first | (refine ox_c1 (hp:=by exact zCY) ?_; intro u; first | refine al_an1 ?_ | refine al_an0 ?_ | refine al_an2 ?_) | (refine ox_c (hp:=by exact zCY) ?_; intro u; first | refine an_1 ?_ | refine an_0 ?_ | refine an_2 ?_ | refine an_3 ?_ | refine an_4 ?_ | refine an_5 ?_) | (refine ox_cn (hp:=by exact zCY) ?_; intro u; first | refine am_0 ?_ | refine am_1 ?_ | refine am_2 ?_ | skip) | (refine ox_y ?_; intro u; first | refine an_1 ?_ | refine an_0 ?_ | refine an_2 ?_ | refine an_3 ?_ | refine an_4 ?_ | refine an_5 ?_))
     | (refine is_o 20 ?_ rfl; first | refine ox_r2A (hp:=by exact zCW) ?_ | refine ox_r2 (hp:=by exact zCW) ?_)
     | (refine is_o 17 ?_ rfl; first | refine ox_k1 (hp:=by exact zDx) ?_ | refine ox_k (hp:=by exact zDx) ?_)
     | (refine is_o 15 ?_ rfl; first | refine ox_e1 (hp:=by exact zDt) ?_ | refine ox_e (hp:=by exact zDt) ?_)
     | (refine is_o 16 ?_ rfl; first | refine ox_e1 (hp:=by exact zDu) ?_ | refine ox_e (hp:=by exact zDu) ?_)
     | (refine is_o 22 ?_ rfl; first | refine ox_e1 (hp:=by exact zB5) ?_ | refine ox_e (hp:=by exact zB5) ?_ | refine ox_en1 (hp:=by exact zB5) ?_ | refine ox_en (hp:=by exact zB5) ?_)
     | (refine is_o 11 ?_ rfl; first | refine ox_e1 (hp:=by exact zDs) ?_ | refine ox_e (hp:=by exact zDs) ?_ | refine ox_r2A (hp:=by exact zCU) ?_ | refine ox_r2 (hp:=by exact zCU) ?_)
     | (refine is_o 14 ?_ rfl; first | refine ox_r2A (hp:=by exact wr_rd (zAZ rfl rfl rfl)) ?_ | (refine ox_r2A (hp:=by exact wr_rd2 (zAZ rfl rfl rfl)) ?_; intro u; refine al_an2 ?_) | refine ox_r2 (hp:=by exact wr_rd (zAZ rfl rfl rfl)) ?_ | (refine ox_r2 (hp:=by exact wr_rd2 (zAZ rfl rfl rfl)) ?_; intro u; refine an_2 ?_))
     | (refine is_o 18 ?_ rfl; first | refine ox_k1 (hp:=by exact zDy) ?_ | refine ox_k (hp:=by exact zDy) ?_)
     | (refine is_o 23 ?_ rfl; first | refine ox_e1 (hp:=by exact zDv) ?_ | refine ox_e (hp:=by exact zDv) ?_)
     | (refine is_o 24 ?_ rfl; first | refine ox_e1 (hp:=by exact zDw) ?_ | refine ox_e (hp:=by exact zDw) ?_)
     | (refine is_o 25 ?_ rfl; first | refine ox_r2A (hp:=by exact zCX) ?_ | refine ox_r2 (hp:=by exact zCX) ?_)
     | refine zCT ?_)
   | refine zJZ ?_ ?_
   | refine ax_all ?_ ?_
   | exact ax_nil
   | refine ax_one ?_
   | (refine is_lx ?_; exact lx_end)
   | (refine is_sx ?_; first
     | refine sx_nil ?_
     | (refine is_gs ?_ rfl; refine sx_no ?_)
     | (refine is_s 0 ?_ rfl; refine sx_p (hp:=by exact au_p0) ?_)
     | (refine is_s 2 ?_ rfl; first | refine sx_p (hp:=by exact au_p2) ?_ | (refine gx_nn ?_; intro b hb; subst hb) | (refine gx_fv ?_; intro g fs cs hf cb; subst hf))
     | (refine is_s 3 ?_ rfl; refine sx_p (hp:=by exact au_p3) ?_)
     | (refine is_s 13 ?_ rfl; refine sx_wr (hp:=by exact zCV) ?_)
     | (refine is_s 10 ?_ rfl; first | refine sx_p (hp:=by exact au_p10) ?_ | refine sx_wp (hp:=by exact zDF) ?_)
     | (refine is_s 8 ?_ rfl; refine sx_wp (hp:=by exact au_wp8) ?_)
     | (refine is_s 20 ?_ rfl; first | refine sx_p (hp:=by exact au_p20) ?_ | refine sx_wr (hp:=by exact zCW) ?_)
     | (refine is_s 27 ?_ rfl; refine sx_wp (hp:=by exact zDK) ?_)
     | (refine is_s 4 ?_ rfl; first | refine sx_p (hp:=by exact au_p4) ?_ | refine sx_wp (hp:=by exact au_wp4) ?_)
     | (refine is_s 1 ?_ rfl; refine sx_p (hp:=by exact au_p1) ?_)
     | (refine is_s 6 ?_ rfl; refine sx_p (hp:=by exact au_p6) ?_)
     | (refine is_s 28 ?_ rfl; refine sx_wp (hp:=by exact zDL) ?_)
     | (refine is_s 11 ?_ rfl; first | refine sx_wp (hp:=by exact zDG) ?_ | refine sx_p (hp:=by exact au_p11) ?_ | refine sx_wr (hp:=by exact zCU) ?_)
     | (refine is_s 26 ?_ rfl; first | refine sx_wp (hp:=by exact zDJ) ?_ | refine sx_p (hp:=by exact au_p26) ?_)
     | (refine is_s 12 ?_ rfl; first | refine sx_wp (hp:=by exact zDH) ?_ | refine sx_p (hp:=by exact au_p12) ?_)
     | (refine is_s 5 ?_ rfl; refine sx_p (hp:=by exact au_p5) ?_)
     | (refine is_s 7 ?_ rfl; refine sx_wp (hp:=by exact au_wp7) ?_)
     | (refine is_s 9 ?_ rfl; refine sx_wp (hp:=by exact au_wp9) ?_)
     | (refine is_s 14 ?_ rfl; first | refine sx_wr (hp:=by exact wr_rd (zAZ rfl rfl rfl)) ?_ | (refine sx_wr (hp:=by exact wr_rd2 (zAZ rfl rfl rfl)) ?_; intro u; refine an_2 ?_))
     | (refine is_s 21 ?_ rfl; refine sx_wp (hp:=by exact zDI) ?_)
     | (refine is_s 25 ?_ rfl; refine sx_wr (hp:=by exact zCX) ?_)
     | (refine sx_ite ?_ ?_ <;> (intro hb; refine zDE ?_; intro a w hs; try rw [hb] at hs; clear hb; revert hs; revert w; revert a; refine gx_unf ?_)))
   | refine bx_b ?_
   | refine bj_b ?_
   | exact zJQ
   | refine zCT ?_) :
  CallD P f args.toArray kk w:=fun u=>by
 subst hn
 refine callsDIn_of_wp hf hb trivial ?_
 exact h _ w (by rw [← zO9]; exact SlotsD.init args _ (Nat.le_of_ble_eq_true hl)) hk
end Go.Sep
namespace Go.Proofs.YtdemfamgieonbaaGreat
open Go Go.Sep
def zRx.call (t0:(Array Value)) (first1:Int) (k:Bool→K):K:=CallF Tryz.prog 3 [(.agg t0),(.int .i64 first1)].toArray (Ans1 Value.bool k)
def zAB.call (txns0:Sl) (moves1:Sl) (k:Bool→K):K:=CallF Tryz.prog 4 [(Sl.val txns0),(Sl.val moves1)].toArray (Ans1 Value.bool k)
def zRW.call (script0:Sl) (picks1:Sl) (k:Bool→K):K:=CallF Tryz.prog 5 [(Sl.val script0),(Sl.val picks1)].toArray (Ans1 Value.bool k)
def zRy.call (node0:Int) (script1:Sl) (k:Bool→K):K:=CallF Tryz.prog 6 [(.int .i64 node0),(Sl.val script1)].toArray (Ans1 Value.bool k)
def zRz.call (script0:Sl) (picks1:Sl) (k:Bool→K):K:=CallF Tryz.prog 7 [(Sl.val script0),(Sl.val picks1)].toArray (Ans1 Value.bool k)
def zCw.call  (k:Bool→K):K:=CallF Tryz.prog 8 [].toArray (Ans1 Value.bool k)
def zAo.call (t0:(Array Value)) (k:Bool→K):K:=CallF Tryz.prog 9 [(.agg t0)].toArray (Ans1 Value.bool k)
def zAJ.call (t0:(Array Value)) (regions1:Int) (k:Bool→K):K:=CallF Tryz.prog 10 [(.agg t0),(.int .i64 regions1)].toArray (Ans1 Value.bool k)
def zBZ.call (regions0:Int) (k:(Option Addr)→Int→K):K:=CallF Tryz.prog 11 [(.int .i64 regions0)].toArray (Ans2 (fun r0 r1=>.tuple #[Value.pointer r0,(Value.int .i64) r1]) k)
def zBb.call (s0:(Option Addr)) (tag1:(Array Value)) (t2:(Array Value)) (k:(Array Value)→K):K:=CallF Tryz.prog 12 [(.pointer s0),(.agg tag1),(.agg t2)].toArray (Ans1 Value.agg k)
def zBM.call (o0:(Array Value)) (k:Sl→K):K:=CallF Tryz.prog 13 [(.agg o0)].toArray (Ans1 Sl.val k)
def zB8.call (o0:(Array Value)) (k:Bool→K):K:=CallF Tryz.prog 14 [(.agg o0)].toArray (Ans1 Value.bool k)
def zAF.call (s0:(Option Addr)) (region1:Int) (i2:(Array Value)) (k:Sl→K):K:=CallF Tryz.prog 15 [(.pointer s0),(.int .i64 region1),(.agg i2)].toArray (Ans1 Sl.val k)
def zDQ.call (s0:(Option Addr)) (k:Sl→K):K:=CallF Tryz.prog 16 [(.pointer s0)].toArray (Ans1 Sl.val k)
def zKL.call (s0:(Option Addr)) (k:Sl→K):K:=CallF Tryz.prog 17 [(.pointer s0)].toArray (Ans1 Sl.val k)
def zAm.call  (k:Bool→K):K:=CallF Tryz.prog 18 [].toArray (Ans1 Value.bool k)
def zEa.call (node0:Int) (epoch1:Int) (regions2:Int) (k:(Option Addr)→K):K:=CallF Tryz.prog 19 [(.int .i64 node0),(.int .u64 epoch1),(.int .i64 regions2)].toArray (Ans1 Value.pointer k)
def zCA.call (f0:(Option Addr)) (t1:(Array Value)) (k:(Array Value)→Int→K):K:=CallF Tryz.prog 20 [(.pointer f0),(.agg t1)].toArray (Ans2 (fun r0 r1=>.tuple #[Value.agg r0,(Value.int .i64) r1]) k)
def zAW.call (f0:(Option Addr)) (s1:(Option Addr)) (k:Sl→K):K:=CallF Tryz.prog 21 [(.pointer f0),(.pointer s1)].toArray (Ans1 Sl.val k)
def zB1.call (a0:(Array Value)) (b1:(Array Value)) (k:Bool→K):K:=CallF Tryz.prog 22 [(.agg a0),(.agg b1)].toArray (Ans1 Value.bool k)
def zA5.call (o0:(Array Value)) (regions1:Int) (k:Bool→K):K:=CallF Tryz.prog 23 [(.agg o0),(.int .i64 regions1)].toArray (Ans1 Value.bool k)
def zBu.call (f0:(Option Addr)) (k:Sl→K):K:=CallF Tryz.prog 24 [(.pointer f0)].toArray (Ans1 Sl.val k)
def zFA.call (script0:Sl) (k:Bool→K):K:=CallF Tryz.prog 25 [(Sl.val script0)].toArray (Ans1 Value.bool k)
def zCL.call (regions0:Int) (script1:Sl) (k:(Array Value)→Bool→K):K:=CallF Tryz.prog 26 [(.int .i64 regions0),(Sl.val script1)].toArray (Ans2 (fun r0 r1=>.tuple #[Value.agg r0,Value.bool r1]) k)
def zQc.call (regions0:Int) (k:(Option Addr)→K):K:=CallF Tryz.prog 27 [(.int .i64 regions0)].toArray (Ans1 Value.pointer k)
def zFX.call (s0:(Option Addr)) (region1:Int) (k:Int→K):K:=CallF Tryz.prog 28 [(.pointer s0),(.int .i64 region1)].toArray (Ans1 (Value.int .i64) k)
def zCM.call (s0:(Option Addr)) (key1:ByteArray) (k:(Array Value)→K):K:=CallF Tryz.prog 29 [(.pointer s0),(.string key1)].toArray (Ans1 Value.agg k)
def zCd.call (s0:(Option Addr)) (t1:(Array Value)) (k:(Array Value)→Sl→K):K:=CallF Tryz.prog 30 [(.pointer s0),(.agg t1)].toArray (Ans2 (fun r0 r1=>.tuple #[Value.agg r0,Sl.val r1]) k)
def zG9.call (s0:(Option Addr)) (rows1:Sl) (k:K):K:=CallF Tryz.prog 31 [(.pointer s0),(Sl.val rows1)].toArray (Ans0 (.tuple #[]) k)
def zDW.call (a0:(Array Value)) (b1:(Array Value)) (k:Bool→K):K:=CallF Tryz.prog 32 [(.agg a0),(.agg b1)].toArray (Ans1 Value.bool k)
def zEl.call (a0:Sl) (b1:Sl) (k:Bool→K):K:=CallF Tryz.prog 33 [(Sl.val a0),(Sl.val b1)].toArray (Ans1 Value.bool k)
def zDX.call (script0:Sl) (k:Bool→K):K:=CallF Tryz.prog 34 [(Sl.val script0)].toArray (Ans1 Value.bool k)
def zUL.call (regions0:Int) (k:(Option Addr)→K):K:=CallF Tryz.prog 35 [(.int .i64 regions0)].toArray (Ans1 Value.pointer k)
def zGb.call (a0:Sl) (b1:Sl) (k:Bool→K):K:=CallF Tryz.prog 36 [(Sl.val a0),(Sl.val b1)].toArray (Ans1 Value.bool k)
def zQd.call (f0:(Option Addr)) (s1:(Option Addr)) (k:Sl→K):K:=CallF Tryz.prog 37 [(.pointer f0),(.pointer s1)].toArray (Ans1 Sl.val k)
def zH6.call (s0:(Option Addr)) (t1:(Option Addr)) (o2:(Array Value)) (n3:Int) (k:K):K:=CallF Tryz.prog 38 [(.pointer s0),(.pointer t1),(.agg o2),(.int .i64 n3)].toArray (Ans0 (.tuple #[]) k)
def zCo.call (f0:(Option Addr)) (m1:(Option Addr)) (o2:(Array Value)) (tag3:(Array Value)) (k:Bool→K):K:=CallF Tryz.prog 39 [(.pointer f0),(.pointer m1),(.agg o2),(.agg tag3)].toArray (Ans1 Value.bool k)
def zUB.call (a0:Sl) (b1:Sl) (k:Bool→K):K:=CallF Tryz.prog 40 [(Sl.val a0),(Sl.val b1)].toArray (Ans1 Value.bool k)
def zUC.call (a0:Sl) (b1:Sl) (k:Bool→K):K:=CallF Tryz.prog 41 [(Sl.val a0),(Sl.val b1)].toArray (Ans1 Value.bool k)
def zKM.call (s0:(Option Addr)) (region1:Int) (k:Int→K):K:=CallF Tryz.prog 42 [(.pointer s0),(.int .i64 region1)].toArray (Ans1 (Value.int .i64) k)
def zCe.call (list0:Sl) (k:Bool→K):K:=CallF Tryz.prog 43 [(Sl.val list0)].toArray (Ans1 Value.bool k)
def zDS.call (list0:Sl) (key1:ByteArray) (k:Bool→K):K:=CallF Tryz.prog 44 [(Sl.val list0),(.string key1)].toArray (Ans1 Value.bool k)
def zA1.call (t0:(Array Value)) (o1:(Array Value)) (k:Bool→K):K:=CallF Tryz.prog 45 [(.agg t0),(.agg o1)].toArray (Ans1 Value.bool k)
def zDc.call (regions0:Int) (k:(Option Addr)→Int→K):K:=CallF Tryz.prog 46 [(.int .i64 regions0)].toArray (Ans2 (fun r0 r1=>.tuple #[Value.pointer r0,(Value.int .i64) r1]) k)
def zD1.call  (k:(Option Addr)→K):K:=CallF Tryz.prog 47 [].toArray (Ans1 Value.pointer k)
def zDN.call (region0:Int) (k:(Option Addr)→K):K:=CallF Tryz.prog 48 [(.int .i64 region0)].toArray (Ans1 Value.pointer k)
def zEm.call (s0:(Option Addr)) (tag1:(Array Value)) (t2:(Array Value)) (k:(Array Value)→K):K:=CallF Tryz.prog 49 [(.pointer s0),(.agg tag1),(.agg t2)].toArray (Ans1 Value.agg k)
def zDf.call (x0:Sl) (k:K):K:=CallF Tryz.prog 50 [(Sl.val x0)].toArray (Ans0 (.tuple #[]) k)
def zAY.call (s0:Sl) (k:Sl→K):K:=CallF Tryz.prog 51 [(Sl.val s0)].toArray (Ans1 Sl.val k)
def zAk.call (i0:(Array Value)) (k:Sl→Int→K):K:=CallF Tryz.prog 52 [(.agg i0)].toArray (Ans2 (fun r0 r1=>.tuple #[Sl.val r0,(Value.int .i64) r1]) k)
def zBT.call (s0:(Option Addr)) (region1:Int) (k:Bool→K):K:=CallF Tryz.prog 53 [(.pointer s0),(.int .i64 region1)].toArray (Ans1 Value.bool k)
def zAX.call (o0:(Array Value)) (regions1:Int) (k:Int→K):K:=CallF Tryz.prog 54 [(.agg o0),(.int .i64 regions1)].toArray (Ans1 (Value.int .i64) k)
def zAq.call (f0:(Option Addr)) (i1:(Array Value)) (k:Bool→K):K:=CallF Tryz.prog 55 [(.pointer f0),(.agg i1)].toArray (Ans1 Value.bool k)
def zDT.call (s0:(Option Addr)) (tag1:(Array Value)) (k:(Option Addr)→K):K:=CallF Tryz.prog 56 [(.pointer s0),(.agg tag1)].toArray (Ans1 Value.pointer k)
def zBo.call (s0:(Option Addr)) (k:Sl→K):K:=CallF Tryz.prog 57 [(.pointer s0)].toArray (Ans1 Sl.val k)
def zDY.call (o0:(Array Value)) (k:(Array Value)→K):K:=CallF Tryz.prog 58 [(.agg o0)].toArray (Ans1 Value.agg k)
def zCD.call (o0:(Array Value)) (region1:Int) (k:Sl→K):K:=CallF Tryz.prog 59 [(.agg o0),(.int .i64 region1)].toArray (Ans1 Sl.val k)
def zAt.call (s0:Sl) (del1:Value) (k:Sl→K):K:=CallF Tryz.prog 60 [(Sl.val s0),del1].toArray (Ans1 Sl.val k)
def zD2.call (h0:Int) (t1:Addr) (k:Bool→K):K:=CallF Tryz.prog 61 [(.int .i64 h0),(.pointer (some t1))].toArray (Ans1 Value.bool k)
def zAh.call (l0:(Option Addr)) (s1:(Option Addr)) (tag2:(Array Value)) (marks3:Sl) (k:K):K:=CallF Tryz.prog 62 [(.pointer l0),(.pointer s1),(.agg tag2),(Sl.val marks3)].toArray (Ans0 (.tuple #[]) k)
def zGc.call (s0:(Option Addr)) (k:Sl→K):K:=CallF Tryz.prog 63 [(.pointer s0)].toArray (Ans1 Sl.val k)
def zAb.call (f0:(Option Addr)) (d1:(Array Value)) (k:(Array Value)→Bool→K):K:=CallF Tryz.prog 64 [(.pointer f0),(.agg d1)].toArray (Ans2 (fun r0 r1=>.tuple #[Value.agg r0,Value.bool r1]) k)
def zA6.call (t0:(Array Value)) (regions1:Int) (k:Int→K):K:=CallF Tryz.prog 65 [(.agg t0),(.int .i64 regions1)].toArray (Ans1 (Value.int .i64) k)
def zDO.call (t0:(Array Value)) (k:(Array Value)→K):K:=CallF Tryz.prog 66 [(.agg t0)].toArray (Ans1 Value.agg k)
def zAr.call (a0:(Array Value)) (b1:(Array Value)) (k:Bool→K):K:=CallF Tryz.prog 67 [(.agg a0),(.agg b1)].toArray (Ans1 Value.bool k)
def zA4.call (t0:(Array Value)) (k:Sl→K):K:=CallF Tryz.prog 68 [(.agg t0)].toArray (Ans1 Sl.val k)
def zB6.call (t0:(Option Addr)) (region1:Int) (k:Bool→K):K:=CallF Tryz.prog 69 [(.pointer t0),(.int .i64 region1)].toArray (Ans1 Value.bool k)
def zE5.call (key0:ByteArray) (regions1:Int) (k:Int→K):K:=CallF Tryz.prog 70 [(.string key0),(.int .i64 regions1)].toArray (Ans1 (Value.int .i64) k)
def zGd.call (s0:(Option Addr)) (k:(Option Addr)→K):K:=CallF Tryz.prog 71 [(.pointer s0)].toArray (Ans1 Value.pointer k)
def zDm.call (s0:(Option Addr)) (key1:ByteArray) (home2:Int) (k:Int→K):K:=CallF Tryz.prog 72 [(.pointer s0),(.string key1),(.int .i64 home2)].toArray (Ans1 (Value.int .i64) k)
def zCN.call (s0:(Option Addr)) (o1:(Array Value)) (k:Sl→Int→K):K:=CallF Tryz.prog 73 [(.pointer s0),(.agg o1)].toArray (Ans2 (fun r0 r1=>.tuple #[Sl.val r0,(Value.int .i64) r1]) k)
def zAu.call (s0:(Option Addr)) (key1:ByteArray) (r2:(Array Value)) (k:K):K:=CallF Tryz.prog 74 [(.pointer s0),(.string key1),(.agg r2)].toArray (Ans0 (.tuple #[]) k)
def zC2.call (a0:(Array Value)) (b1:(Array Value)) (k:Bool→K):K:=CallF Tryz.prog 75 [(.agg a0),(.agg b1)].toArray (Ans1 Value.bool k)
def zT7.call (s0:(Option Addr)) (t1:(Array Value)) (k:Sl→K):K:=CallF Tryz.prog 76 [(.pointer s0),(.agg t1)].toArray (Ans1 Sl.val k)
def zKN.call (s0:(Option Addr)) (region1:Int) (i2:(Array Value)) (k:Sl→K):K:=CallF Tryz.prog 77 [(.pointer s0),(.int .i64 region1),(.agg i2)].toArray (Ans1 Sl.val k)
def zIv.call (f0:(Option Addr)) (d1:(Array Value)) (k:(Array Value)→Bool→K):K:=CallF Tryz.prog 78 [(.pointer f0),(.agg d1)].toArray (Ans2 (fun r0 r1=>.tuple #[Value.agg r0,Value.bool r1]) k)
def zDz.call (a0:(Array Value)) (b1:(Array Value)) (k:Bool→K):K:=CallF Tryz.prog 79 [(.agg a0),(.agg b1)].toArray (Ans1 Value.bool k)
def zGe.call (f0:(Option Addr)) (tag1:(Array Value)) (k:(Array Value)→Bool→K):K:=CallF Tryz.prog 80 [(.pointer f0),(.agg tag1)].toArray (Ans2 (fun r0 r1=>.tuple #[Value.agg r0,Value.bool r1]) k)
def zKO.call (f0:(Option Addr)) (tag1:(Array Value)) (k:(Array Value)→Bool→K):K:=CallF Tryz.prog 81 [(.pointer f0),(.agg tag1)].toArray (Ans2 (fun r0 r1=>.tuple #[Value.agg r0,Value.bool r1]) k)
def zBi.call (t0:(Array Value)) (k:(Array Value)→K):K:=CallF Tryz.prog 82 [(.agg t0)].toArray (Ans1 Value.agg k)
def zIw.call (f0:(Option Addr)) (t1:(Array Value)) (k:(Array Value)→Int→K):K:=CallF Tryz.prog 83 [(.pointer f0),(.agg t1)].toArray (Ans2 (fun r0 r1=>.tuple #[Value.agg r0,(Value.int .i64) r1]) k)
def zF7.call (f0:(Option Addr)) (k:Int→K):K:=CallF Tryz.prog 84 [(.pointer f0)].toArray (Ans1 (Value.int .i64) k)
def zCB.call  (k:(Option Addr)→K):K:=CallF Tryz.prog 85 [].toArray (Ans1 Value.pointer k)
def zDA.call (s0:(Option Addr)) (t1:(Array Value)) (k:Sl→K):K:=CallF Tryz.prog 86 [(.pointer s0),(.agg t1)].toArray (Ans1 Sl.val k)
def zGH.call (data0:Sl) (a1:Int) (b2:Int) (limit3:Int) (k:K):K:=CallF Tryz.prog 87 [(Sl.val data0),(.int .i64 a1),(.int .i64 b2),(.int .i64 limit3)].toArray (Ans0 (.tuple #[]) k)
def zIU.call (x0:Int) (k:Int→K):K:=CallF Tryz.prog 88 [(.int .u64 x0)].toArray (Ans1 (Value.int .i64) k)
def zDC.call (p0:(Option Addr)) (list1:Sl) (k:K):K:=CallF Tryz.prog 89 [(.pointer p0),(Sl.val list1)].toArray (Ans0 (.tuple #[]) k)
def zB9.call (p0:(Option Addr)) (o1:(Array Value)) (k:K):K:=CallF Tryz.prog 90 [(.pointer p0),(.agg o1)].toArray (Ans0 (.tuple #[]) k)
def zD0.call (p0:(Option Addr)) (k:Sl→K):K:=CallF Tryz.prog 91 [(.pointer p0)].toArray (Ans1 Sl.val k)
def zEF.call (t0:(Array Value)) (k:Sl→K):K:=CallF Tryz.prog 92 [(.agg t0)].toArray (Ans1 Sl.val k)
def zBs.call (s0:Sl) (v1:Int) (k:Bool→K):K:=CallF Tryz.prog 93 [(Sl.val s0),(.int .i64 v1)].toArray (Ans1 Value.bool k)
def zCF.call (f0:(Option Addr)) (tag1:(Array Value)) (k:Bool→K):K:=CallF Tryz.prog 94 [(.pointer f0),(.agg tag1)].toArray (Ans1 Value.bool k)
def zAw.call (s0:Sl) (f1:Value) (k:Int→K):K:=CallF Tryz.prog 95 [(Sl.val s0),f1].toArray (Ans1 (Value.int .i64) k)
def zD3.call (j0:(Option Addr)) (t1:Addr) (k:Bool→K):K:=CallF Tryz.prog 96 [(.pointer j0),(.pointer (some t1))].toArray (Ans1 Value.bool k)
def zBh.call (j0:(Option Addr)) (t1:Addr) (k:Bool→K):K:=CallF Tryz.prog 97 [(.pointer j0),(.pointer (some t1))].toArray (Ans1 Value.bool k)
def zCf.call (l0:(Option Addr)) (tag1:(Array Value)) (k:Bool→K):K:=CallF Tryz.prog 98 [(.pointer l0),(.agg tag1)].toArray (Ans1 Value.bool k)
def zBB.call (l0:(Option Addr)) (tag1:(Array Value)) (k:Bool→K):K:=CallF Tryz.prog 99 [(.pointer l0),(.agg tag1)].toArray (Ans1 Value.bool k)
def zBj.call (s0:Sl) (i1:Int) (j2:Int) (k:Sl→K):K:=CallF Tryz.prog 100 [(Sl.val s0),(.int .i64 i1),(.int .i64 j2)].toArray (Ans1 Sl.val k)
def zAc.call (s0:(Option Addr)) (o1:(Array Value)) (k:(Array Value)→K):K:=CallF Tryz.prog 101 [(.pointer s0),(.agg o1)].toArray (Ans1 Value.agg k)
def zBC.call (s0:Sl) (k:Sl→K):K:=CallF Tryz.prog 102 [(Sl.val s0)].toArray (Ans1 Sl.val k)
def zBU.call (s0:Sl) (f1:Value) (k:Int→K):K:=CallF Tryz.prog 103 [(Sl.val s0),f1].toArray (Ans1 (Value.int .i64) k)
def zBc.call (l0:(Option Addr)) (key1:ByteArray) (k:(Option Addr)→K):K:=CallF Tryz.prog 104 [(.pointer l0),(.string key1)].toArray (Ans1 Value.pointer k)
def zAl.call (s0:Sl) (f1:Value) (k:Bool→K):K:=CallF Tryz.prog 105 [(Sl.val s0),f1].toArray (Ans1 Value.bool k)
def zDn.call (tag0:(Array Value)) (k:Value→K):K:=CallF Tryz.prog 106 [(.agg tag0)].toArray (Ans1 id k)
def zCO.call (r0:(Array Value)) (m1:(Array Value)) (k:Int→K):K:=CallF Tryz.prog 107 [(.agg r0),(.agg m1)].toArray (Ans1 (Value.int .i64) k)
def zA7.call (s0:(Option Addr)) (key1:ByteArray) (k:(Array Value)→K):K:=CallF Tryz.prog 108 [(.pointer s0),(.string key1)].toArray (Ans1 Value.agg k)
def zDo.call (t0:(Option Addr)) (k:Value→K):K:=CallF Tryz.prog 109 [(.pointer t0)].toArray (Ans1 id k)
def zBS.call (b0:Sl) (k:Sl→K):K:=CallF Tryz.prog 110 [(Sl.val b0)].toArray (Ans1 Sl.val k)
def zC3.call (f0:(Option Addr)) (tag1:(Array Value)) (k:Int→K):K:=CallF Tryz.prog 111 [(.pointer f0),(.agg tag1)].toArray (Ans1 (Value.int .i64) k)
def zBk.call (s0:Sl) (k:Sl→K):K:=CallF Tryz.prog 112 [(Sl.val s0)].toArray (Ans1 Sl.val k)
def zCg.call (f0:(Option Addr)) (at1:Int) (r2:(Array Value)) (k:(Array Value)→Bool→K):K:=CallF Tryz.prog 113 [(.pointer f0),(.int .i64 at1),(.agg r2)].toArray (Ans2 (fun r0 r1=>.tuple #[Value.agg r0,Value.bool r1]) k)
def zBp.call (t0:(Array Value)) (k:Bool→K):K:=CallF Tryz.prog 114 [(.agg t0)].toArray (Ans1 Value.bool k)
def zFY.call (o0:(Array Value)) (t1:Addr) (k:Bool→K):K:=CallF Tryz.prog 115 [(.agg o0),(.pointer (some t1))].toArray (Ans1 Value.bool k)
def zAn.call (t0:(Array Value)) (o1:(Array Value)) (k:Bool→K):K:=CallF Tryz.prog 116 [(.agg t0),(.agg o1)].toArray (Ans1 Value.bool k)
def zBl.call (s0:Sl) (f1:Value) (k:Bool→K):K:=CallF Tryz.prog 117 [(Sl.val s0),f1].toArray (Ans1 Value.bool k)
def zBd.call (s0:Sl) (k:Sl→K):K:=CallF Tryz.prog 118 [(Sl.val s0)].toArray (Ans1 Sl.val k)
def zBt.call (s0:Sl) (k:Sl→K):K:=CallF Tryz.prog 119 [(Sl.val s0)].toArray (Ans1 Sl.val k)
def zB2.call (a0:Sl) (b1:Sl) (k:Bool→K):K:=CallF Tryz.prog 120 [(Sl.val a0),(Sl.val b1)].toArray (Ans1 Value.bool k)
def zH7.call (global0:Sl) (region1:Int) (last2:Int) (k:(Array Value)→Bool→K):K:=CallF Tryz.prog 121 [(Sl.val global0),(.int .i64 region1),(.int .i64 last2)].toArray (Ans2 (fun r0 r1=>.tuple #[Value.agg r0,Value.bool r1]) k)
def zFZ.call (s0:(Option Addr)) (key1:ByteArray) (value2:Sl) (k:K):K:=CallF Tryz.prog 122 [(.pointer s0),(.string key1),(Sl.val value2)].toArray (Ans0 (.tuple #[]) k)
def zF8.call (s0:(Option Addr)) (key1:ByteArray) (k:K):K:=CallF Tryz.prog 123 [(.pointer s0),(.string key1)].toArray (Ans0 (.tuple #[]) k)
def zFa.call (v0:Sl) (k:Int→Bool→K):K:=CallF Tryz.prog 124 [(Sl.val v0)].toArray (Ans2 (fun r0 r1=>.tuple #[(Value.int .i64) r0,Value.bool r1]) k)
def zC5.call (a0:Int) (b1:Int) (k:Int→Bool→K):K:=CallF Tryz.prog 125 [(.int .i64 a0),(.int .i64 b1)].toArray (Ans2 (fun r0 r1=>.tuple #[(Value.int .i64) r0,Value.bool r1]) k)
def zF1.call (n0:Int) (k:Sl→K):K:=CallF Tryz.prog 126 [(.int .i64 n0)].toArray (Ans1 Sl.val k)
def zCP.call (i0:(Array Value)) (k:Bool→K):K:=CallF Tryz.prog 127 [(.agg i0)].toArray (Ans1 Value.bool k)
def zQe.call (s0:(Option Addr)) (region1:Int) (k:Bool→K):K:=CallF Tryz.prog 128 [(.pointer s0),(.int .i64 region1)].toArray (Ans1 Value.bool k)
def zR0.call (s0:(Option Addr)) (tag1:(Array Value)) (k:Int→K):K:=CallF Tryz.prog 129 [(.pointer s0),(.agg tag1)].toArray (Ans1 (Value.int .i64) k)
def zR1.call (s0:(Option Addr)) (k:Sl→K):K:=CallF Tryz.prog 130 [(.pointer s0)].toArray (Ans1 Sl.val k)
def zUD.call (o0:(Array Value)) (region1:Int) (k:Sl→K):K:=CallF Tryz.prog 131 [(.agg o0),(.int .i64 region1)].toArray (Ans1 Sl.val k)
def zRX.call (l0:(Option Addr)) (s1:(Option Addr)) (tag2:(Array Value)) (marks3:Sl) (k:K):K:=CallF Tryz.prog 132 [(.pointer l0),(.pointer s1),(.agg tag2),(Sl.val marks3)].toArray (Ans0 (.tuple #[]) k)
def zR2.call (f0:(Option Addr)) (tag1:(Array Value)) (k:Int→K):K:=CallF Tryz.prog 133 [(.pointer f0),(.agg tag1)].toArray (Ans1 (Value.int .i64) k)
def zR3.call (f0:(Option Addr)) (at1:Int) (k:K):K:=CallF Tryz.prog 134 [(.pointer f0),(.int .i64 at1)].toArray (Ans0 (.tuple #[]) k)
def zKp.call (data0:Sl) (a1:Int) (b2:Int) (k:K):K:=CallF Tryz.prog 135 [(Sl.val data0),(.int .i64 a1),(.int .i64 b2)].toArray (Ans0 (.tuple #[]) k)
def zMz.call (data0:Sl) (a1:Int) (b2:Int) (k:K):K:=CallF Tryz.prog 136 [(Sl.val data0),(.int .i64 a1),(.int .i64 b2)].toArray (Ans0 (.tuple #[]) k)
def zKq.call (data0:Sl) (a1:Int) (b2:Int) (k:K):K:=CallF Tryz.prog 137 [(Sl.val data0),(.int .i64 a1),(.int .i64 b2)].toArray (Ans0 (.tuple #[]) k)
def zLU.call (data0:Sl) (a1:Int) (b2:Int) (k:Int→Int→K):K:=CallF Tryz.prog 138 [(Sl.val data0),(.int .i64 a1),(.int .i64 b2)].toArray (Ans2 (fun r0 r1=>.tuple #[(Value.int .i64) r0,(Value.int .i64) r1]) k)
def zK4.call (data0:Sl) (a1:Int) (b2:Int) (k:K):K:=CallF Tryz.prog 139 [(Sl.val data0),(.int .i64 a1),(.int .i64 b2)].toArray (Ans0 (.tuple #[]) k)
def zIZ.call (data0:Sl) (a1:Int) (b2:Int) (k:Bool→K):K:=CallF Tryz.prog 140 [(Sl.val data0),(.int .i64 a1),(.int .i64 b2)].toArray (Ans1 Value.bool k)
def cmp_Less_int.call (x0:Int) (y1:Int) (k:Bool→K):K:=CallF Tryz.prog 141 [(.int .i64 x0),(.int .i64 y1)].toArray (Ans1 Value.bool k)
def zKP.call (data0:Sl) (a1:Int) (b2:Int) (pivot3:Int) (k:Int→K):K:=CallF Tryz.prog 142 [(Sl.val data0),(.int .i64 a1),(.int .i64 b2),(.int .i64 pivot3)].toArray (Ans1 (Value.int .i64) k)
def zMS.call (data0:Sl) (a1:Int) (b2:Int) (pivot3:Int) (k:Int→Bool→K):K:=CallF Tryz.prog 143 [(Sl.val data0),(.int .i64 a1),(.int .i64 b2),(.int .i64 pivot3)].toArray (Ans2 (fun r0 r1=>.tuple #[(Value.int .i64) r0,Value.bool r1]) k)
def zSv.call (x0:Int) (k:Int→K):K:=CallF Tryz.prog 144 [(.int .u32 x0)].toArray (Ans1 (Value.int .i64) k)
def zSw.call (x0:Int) (k:Int→K):K:=CallF Tryz.prog 145 [(.int .u64 x0)].toArray (Ans1 (Value.int .i64) k)
def zBY.call (p0:(Option Addr)) (n1:Int) (k:K):K:=CallF Tryz.prog 146 [(.pointer p0),(.int .u64 n1)].toArray (Ans0 (.tuple #[]) k)
def zCx.call (p0:(Option Addr)) (list1:Sl) (k:K):K:=CallF Tryz.prog 147 [(.pointer p0),(Sl.val list1)].toArray (Ans0 (.tuple #[]) k)
def zC1.call (p0:(Option Addr)) (b1:Sl) (k:K):K:=CallF Tryz.prog 148 [(.pointer p0),(Sl.val b1)].toArray (Ans0 (.tuple #[]) k)
def zED.call (n0:Int) (k:Int→K):K:=CallF Tryz.prog 149 [(.int .i64 n0)].toArray (Ans1 (Value.int .u64) k)
def zCh.call (s0:Sl) (k:Sl→K):K:=CallF Tryz.prog 150 [(Sl.val s0)].toArray (Ans1 Sl.val k)
def zAK.call (slices0:Sl) (k:Sl→K):K:=CallF Tryz.prog 151 [(Sl.val slices0)].toArray (Ans1 Sl.val k)
def zCC.call (x0:Sl) (k:K):K:=CallF Tryz.prog 152 [(Sl.val x0)].toArray (Ans0 (.tuple #[]) k)
def zAG.call (s0:Sl) (k:Sl→K):K:=CallF Tryz.prog 153 [(Sl.val s0)].toArray (Ans1 Sl.val k)
def zBf.call (s0:Sl) (v1:Int) (k:Int→K):K:=CallF Tryz.prog 154 [(Sl.val s0),(.int .i64 v1)].toArray (Ans1 (Value.int .i64) k)
def zAM.call (s0:Sl) (f1:Value) (k:Int→K):K:=CallF Tryz.prog 155 [(Sl.val s0),f1].toArray (Ans1 (Value.int .i64) k)
def zAz.call (l0:(Option Addr)) (tag1:(Array Value)) (k:K):K:=CallF Tryz.prog 156 [(.pointer l0),(.agg tag1)].toArray (Ans0 (.tuple #[]) k)
def zAz.calld (l0:(Option Addr)) (tag1:(Array Value)) (k:K):K:=CallD Tryz.prog 156 [(.pointer l0),(.agg tag1)].toArray (Ans0 (.tuple #[]) k)
def zBq.call (s0:(Option Addr)) (t1:(Array Value)) (k:(Array Value)→Sl→K):K:=CallF Tryz.prog 157 [(.pointer s0),(.agg t1)].toArray (Ans2 (fun r0 r1=>.tuple #[Value.agg r0,Sl.val r1]) k)
def zBX.call (s0:(Option Addr)) (writes1:Sl) (k:K):K:=CallF Tryz.prog 158 [(.pointer s0),(Sl.val writes1)].toArray (Ans0 (.tuple #[]) k)
def zBG.call (l0:(Option Addr)) (s1:(Option Addr)) (key2:ByteArray) (k:K):K:=CallF Tryz.prog 159 [(.pointer l0),(.pointer s1),(.string key2)].toArray (Ans0 (.tuple #[]) k)
def zGI.call (c0:(Array Value)) (t1:Addr) (k:Bool→K):K:=CallF Tryz.prog 160 [(.agg c0),(.pointer (some t1))].toArray (Ans1 Value.bool k)
def zBD.call (t0:(Option Addr)) (key1:ByteArray) (k:(Array Value)→Bool→K):K:=CallF Tryz.prog 161 [(.pointer t0),(.string key1)].toArray (Ans2 (fun r0 r1=>.tuple #[Value.agg r0,Value.bool r1]) k)
def zCi.call (key0:ByteArray) (regions1:Int) (k:Int→K):K:=CallF Tryz.prog 162 [(.string key0),(.int .i64 regions1)].toArray (Ans1 (Value.int .i64) k)
def zEv.call (yield0:Value) (t1:Addr) (k:K):K:=CallF Tryz.prog 163 [yield0,(.pointer (some t1))].toArray (Ans0 (.tuple #[]) k)
def zAU.call (n0:(Option Addr)) (from1:(Option Addr)) (yield2:Value) (k:Bool→K):K:=CallF Tryz.prog 164 [(.pointer n0),(.pointer from1),yield2].toArray (Ans1 Value.bool k)
def zAy.call (s0:Sl) (f1:Value) (k:Int→K):K:=CallF Tryz.prog 165 [(Sl.val s0),f1].toArray (Ans1 (Value.int .i64) k)
def zB3.call (e0:(Option Addr)) (t1:Addr) (k:Bool→K):K:=CallF Tryz.prog 166 [(.pointer e0),(.pointer (some t1))].toArray (Ans1 Value.bool k)
def zBV.call (s0:Sl) (i1:Int) (j2:Int) (k:Sl→K):K:=CallF Tryz.prog 167 [(Sl.val s0),(.int .i64 i1),(.int .i64 j2)].toArray (Ans1 Sl.val k)
def zBg.call (keys0:Sl) (k:Bool→K):K:=CallF Tryz.prog 168 [(Sl.val keys0)].toArray (Ans1 Value.bool k)
def zBm.call (s0:Sl) (f1:Value) (k:Bool→K):K:=CallF Tryz.prog 169 [(Sl.val s0),f1].toArray (Ans1 Value.bool k)
def zES.call (k0:ByteArray) (t1:Addr) (k:Bool→K):K:=CallF Tryz.prog 170 [(.string k0),(.pointer (some t1))].toArray (Ans1 Value.bool k)
def zBF.call (s0:Sl) (v1:ByteArray) (k:Bool→K):K:=CallF Tryz.prog 171 [(Sl.val s0),(.string v1)].toArray (Ans1 Value.bool k)
def zBK.call (s0:Sl) (f1:Value) (k:Int→K):K:=CallF Tryz.prog 172 [(Sl.val s0),f1].toArray (Ans1 (Value.int .i64) k)
def zIx.call (global0:Sl) (region1:Int) (k:Value→K):K:=CallF Tryz.prog 173 [(Sl.val global0),(.int .i64 region1)].toArray (Ans1 id k)
def zT6.call (region0:Int) (log1:Sl) (at2:Int) (k:Bool→K):K:=CallF Tryz.prog 174 [(.int .i64 region0),(Sl.val log1),(.int .i64 at2)].toArray (Ans1 Value.bool k)
def zUU.call (list0:Sl) (tag1:(Array Value)) (k:Bool→K):K:=CallF Tryz.prog 175 [(Sl.val list0),(.agg tag1)].toArray (Ans1 Value.bool k)
def zR4.call (l0:(Option Addr)) (k:K):K:=CallF Tryz.prog 176 [(.pointer l0)].toArray (Ans0 (.tuple #[]) k)
def zTR.call (j0:(Array Value)) (k:Bool→K):K:=CallF Tryz.prog 177 [(.agg j0)].toArray (Ans1 Value.bool k)
def zRY.call (l0:(Option Addr)) (tag1:(Array Value)) (k:Bool→K):K:=CallF Tryz.prog 178 [(.pointer l0),(.agg tag1)].toArray (Ans1 Value.bool k)
def zRZ.call (l0:(Option Addr)) (tag1:(Array Value)) (k:K):K:=CallF Tryz.prog 179 [(.pointer l0),(.agg tag1)].toArray (Ans0 (.tuple #[]) k)
def zRa.call (l0:(Option Addr)) (s1:(Option Addr)) (key2:ByteArray) (k:K):K:=CallF Tryz.prog 180 [(.pointer l0),(.pointer s1),(.string key2)].toArray (Ans0 (.tuple #[]) k)
def zUM.call (list0:Sl) (key1:ByteArray) (tag2:(Array Value)) (k:Bool→K):K:=CallF Tryz.prog 181 [(Sl.val list0),(.string key1),(.agg tag2)].toArray (Ans1 Value.bool k)
def zUE.call (r0:(Array Value)) (m1:(Array Value)) (k:Int→K):K:=CallF Tryz.prog 182 [(.agg r0),(.agg m1)].toArray (Ans1 (Value.int .i64) k)
def zR5.call (l0:(Option Addr)) (tag1:(Array Value)) (k:K):K:=CallF Tryz.prog 183 [(.pointer l0),(.agg tag1)].toArray (Ans0 (.tuple #[]) k)
def zM0.call (data0:Sl) (lo1:Int) (hi2:Int) (first3:Int) (k:K):K:=CallF Tryz.prog 184 [(Sl.val data0),(.int .i64 lo1),(.int .i64 hi2),(.int .i64 first3)].toArray (Ans0 (.tuple #[]) k)
def zPB.call (length0:Int) (k:Int→K):K:=CallF Tryz.prog 185 [(.int .i64 length0)].toArray (Ans1 (Value.int .u64) k)
def zPv.call (r0:(Option Addr)) (k:Int→K):K:=CallF Tryz.prog 186 [(.pointer r0)].toArray (Ans1 (Value.int .u64) k)
def zKQ.call (data0:Sl) (a1:Int) (swaps2:(Option Addr)) (k:Int→K):K:=CallF Tryz.prog 187 [(Sl.val data0),(.int .i64 a1),(.pointer swaps2)].toArray (Ans1 (Value.int .i64) k)
def zNm.call (data0:Sl) (a1:Int) (b2:Int) (c3:Int) (swaps4:(Option Addr)) (k:Int→K):K:=CallF Tryz.prog 188 [(Sl.val data0),(.int .i64 a1),(.int .i64 b2),(.int .i64 c3),(.pointer swaps4)].toArray (Ans1 (Value.int .i64) k)
def cmp_isNaN_int.call (x0:Int) (k:Bool→K):K:=CallF Tryz.prog 189 [(.int .i64 x0)].toArray (Ans1 Value.bool k)
def zAe.call (s0:Sl) (n1:Int) (k:Sl→K):K:=CallF Tryz.prog 190 [(Sl.val s0),(.int .i64 n1)].toArray (Ans1 Sl.val k)
def zFn.call (data0:Sl) (a1:Int) (b2:Int) (limit3:Int) (k:K):K:=CallF Tryz.prog 191 [(Sl.val data0),(.int .i64 a1),(.int .i64 b2),(.int .i64 limit3)].toArray (Ans0 (.tuple #[]) k)
def zAC.call (s0:Sl) (del1:Value) (k:Sl→K):K:=CallF Tryz.prog 192 [(Sl.val s0),del1].toArray (Ans1 Sl.val k)
def zCj.call (r0:(Option Addr)) (t1:(Array Value)) (k:Int→K):K:=CallF Tryz.prog 193 [(.pointer r0),(.agg t1)].toArray (Ans1 (Value.int .i64) k)
def zAi.call (r0:(Option Addr)) (o1:(Array Value)) (k:Int→K):K:=CallF Tryz.prog 194 [(.pointer r0),(.agg o1)].toArray (Ans1 (Value.int .i64) k)
def zCp.call (seq0:Value) (k:Sl→K):K:=CallF Tryz.prog 195 [seq0].toArray (Ans1 Sl.val k)
def zAv.call (m0:(Option Nat)) (k:Value→K):K:=CallF Tryz.prog 196 [(.map m0)].toArray (Ans1 id k)
def zBe.call (s0:(Option Addr)) (key1:ByteArray) (home2:Int) (k:Int→K):K:=CallF Tryz.prog 197 [(.pointer s0),(.string key1),(.int .i64 home2)].toArray (Ans1 (Value.int .i64) k)
def zDg.call (s0:(Option Addr)) (key1:ByteArray) (value2:Sl) (k:K):K:=CallF Tryz.prog 198 [(.pointer s0),(.string key1),(Sl.val value2)].toArray (Ans0 (.tuple #[]) k)
def zC6.call (s0:(Option Addr)) (key1:ByteArray) (k:K):K:=CallF Tryz.prog 199 [(.pointer s0),(.string key1)].toArray (Ans0 (.tuple #[]) k)
def zBR.call (c0:(Array Value)) (t1:Addr) (t2:Addr) (t3:Addr) (k:Bool→K):K:=CallF Tryz.prog 200 [(.agg c0),(.pointer (some t1)),(.pointer (some t2)),(.pointer (some t3))].toArray (Ans1 Value.bool k)
def zA2.call (n0:(Option Addr)) (key1:ByteArray) (k:Int→Bool→K):K:=CallF Tryz.prog 201 [(.pointer n0),(.string key1)].toArray (Ans2 (fun r0 r1=>.tuple #[(Value.int .i64) r0,Value.bool r1]) k)
def zBL.call (s0:Sl) (f1:Value) (k:Int→K):K:=CallF Tryz.prog 202 [(Sl.val s0),f1].toArray (Ans1 (Value.int .i64) k)
def zBE.call (s0:Sl) (v1:ByteArray) (k:Int→K):K:=CallF Tryz.prog 203 [(Sl.val s0),(.string v1)].toArray (Ans1 (Value.int .i64) k)
def zCq.call (yield0:Value) (t1:Addr) (t2:Addr) (k:K):K:=CallF Tryz.prog 204 [yield0,(.pointer (some t1)),(.pointer (some t2))].toArray (Ans0 (.tuple #[]) k)
def zIV.call  (k:(Option Addr)→K):K:=CallF Tryz.prog 205 [].toArray (Ans1 Value.pointer k)
def zDR.call (f0:(Option Addr)) (o1:(Array Value)) (k:Bool→K):K:=CallF Tryz.prog 206 [(.pointer f0),(.agg o1)].toArray (Ans1 Value.bool k)
def zGf.call (o0:(Array Value)) (region1:Int) (k:Bool→K):K:=CallF Tryz.prog 207 [(.agg o0),(.int .i64 region1)].toArray (Ans1 Value.bool k)
def zFb.call (o0:(Array Value)) (k:Bool→K):K:=CallF Tryz.prog 208 [(.agg o0)].toArray (Ans1 Value.bool k)
def zUF.call (region0:Int) (log1:Sl) (k:Int→K):K:=CallF Tryz.prog 209 [(.int .i64 region0),(Sl.val log1)].toArray (Ans1 (Value.int .i64) k)
def zT5.call (list0:Sl) (tag1:(Array Value)) (k:Sl→K):K:=CallF Tryz.prog 210 [(Sl.val list0),(.agg tag1)].toArray (Ans1 Sl.val k)
def zBn.call (o0:(Array Value)) (k:Sl→K):K:=CallF Tryz.prog 211 [(.agg o0)].toArray (Ans1 Sl.val k)
def zRb.call (l0:(Option Addr)) (tag1:(Array Value)) (k:Sl→K):K:=CallF Tryz.prog 212 [(.pointer l0),(.agg tag1)].toArray (Ans1 Sl.val k)
def zNn.call (data0:Sl) (a1:Int) (b2:Int) (swaps3:(Option Addr)) (k:Int→Int→K):K:=CallF Tryz.prog 213 [(Sl.val data0),(.int .i64 a1),(.int .i64 b2),(.pointer swaps3)].toArray (Ans2 (fun r0 r1=>.tuple #[(Value.int .i64) r0,(Value.int .i64) r1]) k)
def zJ0.call (data0:Sl) (a1:Int) (b2:Int) (k:K):K:=CallF Tryz.prog 214 [(Sl.val data0),(.int .i64 a1),(.int .i64 b2)].toArray (Ans0 (.tuple #[]) k)
def zLV.call (data0:Sl) (a1:Int) (b2:Int) (k:K):K:=CallF Tryz.prog 215 [(Sl.val data0),(.int .i64 a1),(.int .i64 b2)].toArray (Ans0 (.tuple #[]) k)
def zJ1.call (data0:Sl) (a1:Int) (b2:Int) (k:K):K:=CallF Tryz.prog 216 [(Sl.val data0),(.int .i64 a1),(.int .i64 b2)].toArray (Ans0 (.tuple #[]) k)
def zKR.call (data0:Sl) (a1:Int) (b2:Int) (k:Int→Int→K):K:=CallF Tryz.prog 217 [(Sl.val data0),(.int .i64 a1),(.int .i64 b2)].toArray (Ans2 (fun r0 r1=>.tuple #[(Value.int .i64) r0,(Value.int .i64) r1]) k)
def zKB.call (data0:Sl) (a1:Int) (b2:Int) (k:K):K:=CallF Tryz.prog 218 [(Sl.val data0),(.int .i64 a1),(.int .i64 b2)].toArray (Ans0 (.tuple #[]) k)
def zHl.call (data0:Sl) (a1:Int) (b2:Int) (k:Bool→K):K:=CallF Tryz.prog 219 [(Sl.val data0),(.int .i64 a1),(.int .i64 b2)].toArray (Ans1 Value.bool k)
def cmp_Less_string.call (x0:ByteArray) (y1:ByteArray) (k:Bool→K):K:=CallF Tryz.prog 220 [(.string x0),(.string y1)].toArray (Ans1 Value.bool k)
def zJg.call (data0:Sl) (a1:Int) (b2:Int) (pivot3:Int) (k:Int→K):K:=CallF Tryz.prog 221 [(Sl.val data0),(.int .i64 a1),(.int .i64 b2),(.int .i64 pivot3)].toArray (Ans1 (Value.int .i64) k)
def zK5.call (data0:Sl) (a1:Int) (b2:Int) (pivot3:Int) (k:Int→Bool→K):K:=CallF Tryz.prog 222 [(Sl.val data0),(.int .i64 a1),(.int .i64 b2),(.int .i64 pivot3)].toArray (Ans2 (fun r0 r1=>.tuple #[(Value.int .i64) r0,Value.bool r1]) k)
def zDD.call (r0:(Option Addr)) (key1:ByteArray) (k:(Array Value)→K):K:=CallF Tryz.prog 223 [(.pointer r0),(.string key1)].toArray (Ans1 Value.agg k)
def zCy.call (r0:(Option Addr)) (key1:ByteArray) (has2:Bool) (value3:Sl) (k:K):K:=CallF Tryz.prog 224 [(.pointer r0),(.string key1),(.bool has2),(Sl.val value3)].toArray (Ans0 (.tuple #[]) k)
def bytes_Equal.call (a0:Sl) (b1:Sl) (k:Bool→K):K:=CallF Tryz.prog 225 [(Sl.val a0),(Sl.val b1)].toArray (Ans1 Value.bool k)
def zA8.call (r0:(Option Addr)) (o1:(Array Value)) (k:Int→K):K:=CallF Tryz.prog 226 [(.pointer r0),(.agg o1)].toArray (Ans1 (Value.int .i64) k)
def zCZ.call (seq0:Value) (k:Sl→K):K:=CallF Tryz.prog 227 [seq0].toArray (Ans1 Sl.val k)
def zAa.call (yield0:Value) (t1:Addr) (k:K):K:=CallF Tryz.prog 228 [yield0,(.pointer (some t1))].toArray (Ans0 (.tuple #[]) k)
def zBH.call (s0:(Option Addr)) (key1:ByteArray) (r2:(Array Value)) (k:K):K:=CallF Tryz.prog 229 [(.pointer s0),(.string key1),(.agg r2)].toArray (Ans0 (.tuple #[]) k)
def zAA.call (x0:Sl) (target1:ByteArray) (cmp2:Value) (k:Int→Bool→K):K:=CallF Tryz.prog 230 [(Sl.val x0),(.string target1),cmp2].toArray (Ans2 (fun r0 r1=>.tuple #[(Value.int .i64) r0,Value.bool r1]) k)
def zBx.call (x0:(Array Value)) (k1:ByteArray) (k:Int→K):K:=CallF Tryz.prog 231 [(.agg x0),(.string k1)].toArray (Ans1 (Value.int .i64) k)
def zC7.call (x0:ByteArray) (y1:ByteArray) (k:Int→K):K:=CallF Tryz.prog 232 [(.string x0),(.string y1)].toArray (Ans1 (Value.int .i64) k)
def zR6.call (l0:(Option Addr)) (k:Sl→K):K:=CallF Tryz.prog 233 [(.pointer l0)].toArray (Ans1 Sl.val k)
def zUG.call (list0:Sl) (key1:ByteArray) (k:Sl→K):K:=CallF Tryz.prog 234 [(Sl.val list0),(.string key1)].toArray (Ans1 Sl.val k)
def zLW.call (data0:Sl) (lo1:Int) (hi2:Int) (first3:Int) (k:K):K:=CallF Tryz.prog 235 [(Sl.val data0),(.int .i64 lo1),(.int .i64 hi2),(.int .i64 first3)].toArray (Ans0 (.tuple #[]) k)
def zJh.call (data0:Sl) (a1:Int) (swaps2:(Option Addr)) (k:Int→K):K:=CallF Tryz.prog 236 [(Sl.val data0),(.int .i64 a1),(.pointer swaps2)].toArray (Ans1 (Value.int .i64) k)
def zMT.call (data0:Sl) (a1:Int) (b2:Int) (c3:Int) (swaps4:(Option Addr)) (k:Int→K):K:=CallF Tryz.prog 237 [(Sl.val data0),(.int .i64 a1),(.int .i64 b2),(.int .i64 c3),(.pointer swaps4)].toArray (Ans1 (Value.int .i64) k)
def cmp_isNaN_string.call (x0:ByteArray) (k:Bool→K):K:=CallF Tryz.prog 238 [(.string x0)].toArray (Ans1 Value.bool k)
def zCz.call (value0:Sl) (k:Int→Bool→K):K:=CallF Tryz.prog 239 [(Sl.val value0)].toArray (Ans2 (fun r0 r1=>.tuple #[(Value.int .i64) r0,Value.bool r1]) k)
def zDZ.call (n0:Int) (k:Sl→K):K:=CallF Tryz.prog 240 [(.int .i64 n0)].toArray (Ans1 Sl.val k)
def zBv.call (s0:Sl) (seq1:Value) (k:Sl→K):K:=CallF Tryz.prog 241 [(Sl.val s0),seq1].toArray (Ans1 Sl.val k)
def zAD.call (t0:(Option Addr)) (key1:ByteArray) (k:(Array Value)→Bool→K):K:=CallF Tryz.prog 242 [(.pointer t0),(.string key1)].toArray (Ans2 (fun r0 r1=>.tuple #[Value.agg r0,Value.bool r1]) k)
def zAE.call (t0:(Option Addr)) (key1:ByteArray) (value2:(Array Value)) (k:(Array Value)→Bool→K):K:=CallF Tryz.prog 243 [(.pointer t0),(.string key1),(.agg value2)].toArray (Ans2 (fun r0 r1=>.tuple #[Value.agg r0,Value.bool r1]) k)
def zMU.call (data0:Sl) (a1:Int) (b2:Int) (swaps3:(Option Addr)) (k:Int→Int→K):K:=CallF Tryz.prog 244 [(Sl.val data0),(.int .i64 a1),(.int .i64 b2),(.pointer swaps3)].toArray (Ans2 (fun r0 r1=>.tuple #[(Value.int .i64) r0,(Value.int .i64) r1]) k)
def zAV.call (n0:(Option Addr)) (key1:ByteArray) (k:(Array Value)→Bool→K):K:=CallF Tryz.prog 245 [(.pointer n0),(.string key1)].toArray (Ans2 (fun r0 r1=>.tuple #[Value.agg r0,Value.bool r1]) k)
def zAN.call (n0:(Option Addr)) (x1:(Array Value)) (k:(Array Value)→Bool→(Option Addr)→(Option Addr)→K):K:=CallF Tryz.prog 246 [(.pointer n0),(.agg x1)].toArray (Ans4 (fun r0 r1 r2 r3=>.tuple #[Value.agg r0,Value.bool r1,Value.pointer r2,Value.pointer r3]) k)
def zAH.call (s0:Sl) (i1:Int) (j2:Int) (k:Sl→K):K:=CallF Tryz.prog 247 [(Sl.val s0),(.int .i64 i1),(.int .i64 j2)].toArray (Ans1 Sl.val k)
def zBW.call (n0:(Option Addr)) (k:(Array Value)→K):K:=CallF Tryz.prog 248 [(.pointer n0)].toArray (Ans1 Value.agg k)
def zAP.call (n0:(Option Addr)) (i1:Int) (k:K):K:=CallF Tryz.prog 249 [(.pointer n0),(.int .i64 i1)].toArray (Ans0 (.tuple #[]) k)
def zAI.call (s0:Sl) (i1:Int) (v2:Sl) (k:Sl→K):K:=CallF Tryz.prog 250 [(Sl.val s0),(.int .i64 i1),(Sl.val v2)].toArray (Ans1 Sl.val k)
def zAS.call (s0:Sl) (i1:Int) (v2:Sl) (k:Sl→K):K:=CallF Tryz.prog 251 [(Sl.val s0),(.int .i64 i1),(Sl.val v2)].toArray (Ans1 Sl.val k)
def zAf.call (s0:Sl) (k:Sl→K):K:=CallF Tryz.prog 252 [(Sl.val s0)].toArray (Ans1 Sl.val k)
def zAg.call (s0:Sl) (k:Sl→K):K:=CallF Tryz.prog 253 [(Sl.val s0)].toArray (Ans1 Sl.val k)
def zAT.call (s0:Sl) (i1:Int) (j2:Int) (k:Sl→K):K:=CallF Tryz.prog 254 [(Sl.val s0),(.int .i64 i1),(.int .i64 j2)].toArray (Ans1 Sl.val k)
def zCk.call (s0:Sl) (r1:Int) (k:K):K:=CallF Tryz.prog 256 [(Sl.val s0),(.int .i64 r1)].toArray (Ans0 (.tuple #[]) k)
def zCl.call (s0:Sl) (r1:Int) (k:K):K:=CallF Tryz.prog 258 [(Sl.val s0),(.int .i64 r1)].toArray (Ans0 (.tuple #[]) k)
def zCr.call (s0:Sl) (r1:Int) (k:K):K:=CallF Tryz.prog 259 [(Sl.val s0),(.int .i64 r1)].toArray (Ans0 (.tuple #[]) k)
def zCs.call (s0:Sl) (r1:Int) (k:K):K:=CallF Tryz.prog 260 [(Sl.val s0),(.int .i64 r1)].toArray (Ans0 (.tuple #[]) k)
def zAQ.call (s0:Sl) (k:K):K:=CallF Tryz.prog 261 [(Sl.val s0)].toArray (Ans0 (.tuple #[]) k)
def zAR.call (s0:Sl) (k:K):K:=CallF Tryz.prog 262 [(Sl.val s0)].toArray (Ans0 (.tuple #[]) k)
end Go.Proofs.YtdemfamgieonbaaGreat
namespace Go.Proofs.YtdemfamgieonbaaGreat
open Go Go.Sep
set_option maxRecDepth 100000
set_option maxHeartbeats 4000000
attribute [local irreducible] G Gp Cx Tx Ex Sx Dx Ox Ax Lx Rx Fx Bx Bj Al Do Ld LdN St StN New CallF Ar DoU Rd Rd2 Pu Cd Ite Fv CallV CallY Ans0 Ans1 Ans2 Ans3 Ans4 Ans5 Ext Dead Dr WithS Sv LdS LdNS RdS Rd2S Nn Idx IdxA IdxS Fld Bld Slc SlcS Cat All LoopK RangeF RangeJ TakeD
namespace F_IRLibSlices
instance at_123:AT Tryz.prog 123 4:=⟨by kernel_rfl⟩
instance at_224:AT Tryz.prog 224 7:=⟨by kernel_rfl⟩
instance cb_103:CB Tryz.prog 103:=⟨by kernel_rfl⟩
instance cb_152:CB Tryz.prog 152:=⟨by kernel_rfl⟩
instance cb_154:CB Tryz.prog 154:=⟨by kernel_rfl⟩
instance cb_155:CB Tryz.prog 155:=⟨by kernel_rfl⟩
instance cb_172:CB Tryz.prog 172:=⟨by kernel_rfl⟩
instance cb_190:CB Tryz.prog 190:=⟨by kernel_rfl⟩
instance cb_191:CB Tryz.prog 191:=⟨by kernel_rfl⟩
instance cb_202:CB Tryz.prog 202:=⟨by kernel_rfl⟩
instance cb_203:CB Tryz.prog 203:=⟨by kernel_rfl⟩
instance cb_227:CB Tryz.prog 227:=⟨by kernel_rfl⟩
instance cb_241:CB Tryz.prog 241:=⟨by kernel_rfl⟩
instance cb_87:CB Tryz.prog 87:=⟨by kernel_rfl⟩
instance cb_88:CB Tryz.prog 88:=⟨by kernel_rfl⟩
instance ct_146:CT Tryz.prog 146:=⟨by kernel_rfl⟩
instance ct_163:CT Tryz.prog 163:=⟨by kernel_rfl⟩
instance ct_22:CT Tryz.prog 22:=⟨by kernel_rfl⟩
instance ct_3:CT Tryz.prog 3:=⟨by kernel_rfl⟩
instance ct_9:CT Tryz.prog 9:=⟨by kernel_rfl⟩
instance in_204:INT Tryz.prog 204 .u64:=⟨by kernel_rfl⟩
instance in_3:INT Tryz.prog 3 .i64:=⟨by kernel_rfl⟩
instance mx:MX Tryz.prog:=⟨mixed⟩
instance sl_133:SLT Tryz.prog 133 146 1:=⟨by kernel_rfl⟩
instance sl_159:SLT Tryz.prog 159 163 1:=⟨by kernel_rfl⟩
instance sl_22:SLT Tryz.prog 22 9 1:=⟨by kernel_rfl⟩
instance sl_222:SLT Tryz.prog 222 224 7:=⟨by kernel_rfl⟩
instance sl_23:SLT Tryz.prog 23 123 4:=⟨by kernel_rfl⟩
instance sl_314:SLT Tryz.prog 314 22 1:=⟨by kernel_rfl⟩
instance sl_38:SLT Tryz.prog 38 84 3:=⟨by kernel_rfl⟩
instance sl_42:SLT Tryz.prog 42 3 1:=⟨by kernel_rfl⟩
instance sl_49:SLT Tryz.prog 49 180 2:=⟨by kernel_rfl⟩
instance sl_85:SLT Tryz.prog 85 5 1:=⟨by kernel_rfl⟩
instance sz_22:SZ Tryz.prog 22 1:=⟨by kernel_rfl⟩
instance sz_224:SZ Tryz.prog 224 7:=⟨by kernel_rfl⟩
instance sz_3:SZ Tryz.prog 3 1:=⟨by kernel_rfl⟩
instance sz_9:SZ Tryz.prog 9 1:=⟨by kernel_rfl⟩
instance un_22:UN Tryz.prog 22 (.slice 9):=⟨Tryz.underlying22⟩
instance un_23:UN Tryz.prog 23 (.slice 123):=⟨Tryz.underlying23⟩
instance un_38:UN Tryz.prog 38 (.slice 84):=⟨Tryz.underlying38⟩
instance un_49:UN Tryz.prog 49 (.slice 180):=⟨Tryz.underlying49⟩
instance un_85:UN Tryz.prog 85 (.slice 5):=⟨Tryz.underlying85⟩
instance zt_123:ZT Tryz.prog 123 (.agg #[(.int .i64 0),(.string ⟨#[]⟩),(Sl.val ⟨none,0,0⟩),(.int .i64 0)]):=⟨Tryz.t123,by kernel_rfl,by kernel_rfl⟩
instance zt_180:ZT Tryz.prog 180 (.agg #[(.bool false),(Sl.val ⟨none,0,0⟩)]):=⟨Tryz.t180,by kernel_rfl,by kernel_rfl⟩
instance zt_224:ZT Tryz.prog 224 (.agg #[(.int .i64 0),(.int .u64 0),(.int .u64 0),(.int .i64 0),(.string ⟨#[]⟩),(.int .i64 0),(.int .u64 0)]):=⟨Tryz.t224,by kernel_rfl,by kernel_rfl⟩
instance zt_5:ZT Tryz.prog 5 (.int .u8 0):=⟨Tryz.t5,by kernel_rfl,by kernel_rfl⟩
instance zt_84:ZT Tryz.prog 84 (.agg #[(.string ⟨#[]⟩),(.int .i64 0),(.int .u64 0)]):=⟨Tryz.t84,by kernel_rfl,by kernel_rfl⟩
instance zt_9:ZT Tryz.prog 9 (.string ⟨#[]⟩):=⟨Tryz.t9,by kernel_rfl,by kernel_rfl⟩
end F_IRLibSlices
def zDf (x0:Sl) (Q:K):K :=
 Ar (IntKind.wrap .u64 (x0.n:Int)) fun t8 =>
 zIU.call t8 fun t9 =>
 zGH.call x0 0 (x0.n:Int) t9 <|
 Q
def zAY.s3 (Q:Sl→K) (X1:Int→K) (X2:Int→Int→K) (s0_3:Sl) (k3_3:Int) (s4_3:Sl) (k5_3:Int):K :=
 Ar (IntKind.wrap .i64 (k5_3 + 1)) fun t34 =>
 X2 k3_3 t34
def zAY.b2 (Q:Sl→K) (X1:Int→K) (X2:Int→Int→K) (s0_2:Sl) (s4_2:Sl) (k3_2:Int) (k5_2:Int):K :=
 Ite (decide (k5_2 < (s4_2.n:Int)))
  (Dr <|
  Idx s4_2 k5_2 1 fun t37 =>
  Ld t37 (Value.int .i64) fun t38 =>
  Ar (IntKind.wrap .i64 (k5_2 - 1)) fun t41 =>
  Idx s4_2 t41 1 fun t42 =>
  Ld t42 (Value.int .i64) fun t43 =>
  Ite (decide (t38 ≠ t43))
   (Idx s4_2 k5_2 1 fun t49 =>
   Ld t49 (Value.int .i64) fun t50 =>
   Idx s0_2 k3_2 1 fun t51 =>
   St t51 (.int .i64 t50) <|
   Ar (IntKind.wrap .i64 (k3_2 + 1)) fun t53 =>
   zAY.s3 Q X1 X2 s0_2 t53 s4_2 k5_2)
   (zAY.s3 Q X1 X2 s0_2 k3_2 s4_2 k5_2))
  (Slc s0_2 k3_2 (s0_2.n:Int) (s0_2.c:Int) 1 fun t56 =>
  Do Tryz.prog (Builtin.clear_ #[42] 0 #[(Sl.val t56)]) id fun _ =>
  Slc s0_2 0 k3_2 (s0_2.c:Int) 1 fun t59 =>
  Q t59)
def zAY.b1 (Q:Sl→K)  (X1:Int→K) (s0_1:Sl) (k3_1:Int):K :=
 Ite (decide (k3_1 < (s0_1.n:Int)))
  (Dr <|
  Idx s0_1 k3_1 1 fun t18 =>
  Ld t18 (Value.int .i64) fun t19 =>
  Ar (IntKind.wrap .i64 (k3_1 - 1)) fun t22 =>
  Idx s0_1 t22 1 fun t23 =>
  Ld t23 (Value.int .i64) fun t24 =>
  Ite (decide (t19 = t24))
   (Slc s0_1 k3_1 (s0_1.n:Int) (s0_1.c:Int) 1 fun t28 =>
   LoopK (α:=Int×Int) (fun X x=>zAY.b2 Q X1 (fun k3_2 k5_2=>X (k3_2,k5_2)) s0_1 t28 x.1 x.2) (k3_1,1))
   (Ar (IntKind.wrap .i64 (k3_1 + 1)) fun t15 =>
   X1 t15))
  (Q s0_1)
def zAY (s0:Sl) (Q:Sl→K):K :=
 Ite (decide ((s0.n:Int) < 2))
  (Q s0)
  (LoopK (α:=Int) (fun X x=>zAY.b1 Q X s0 x) 1)
theorem zF9 (s0:Sl) (Q:Sl→K) (w:World) (h:zAY s0 Q w):zAY.call s0 Q w:=by
 have hJ10:∀ (X1:Int→K),XH 4 X1→∀ (X2:(Int×Int)→K),XH 9 X2→JH 10 fun D=>∃ (s0_3:Sl) (s4_3:Sl) (k5_3:Int),D [(0,(Sl.val s0_3)),(4,(Sl.val s4_3)),(5,(.int .i64 k5_3))] (fun C=>∀ (k3_3:Int),C [(0,(Sl.val s0_3)),(3,(.int .i64 k3_3)),(4,(Sl.val s4_3)),(5,(.int .i64 k5_3))] (zAY.s3 Q X1 (fun k3_2 k5_2=>X2 (k3_2,k5_2)) s0_3 k3_3 s4_3 k5_3)):=by intros; exact ⟨fun _ ⟨_,_,_,h⟩=>⟨_,_,h⟩⟩
 have hL9:∀ (X1:Int→K),XH 4 X1→∀ (s0_2:Sl) (s4_2:Sl),LH 9 (fun x:Int×Int=>[(0,(Sl.val s0_2)),(3,(.int .i64 x.1)),(4,(Sl.val s4_2)),(5,(.int .i64 x.2))]) (fun X x=>zAY.b2 Q X1 (fun k3_2 k5_2=>X (k3_2,k5_2)) s0_2 s4_2 x.1 x.2):=by intros; exact ⟨⟩
 have hL4:∀ (s0_1:Sl),LH 4 (fun x:Int=>[(0,(Sl.val s0_1)),(3,(.int .i64 x))]) (fun X x=>zAY.b1 Q X s0_1 x):=by intros; exact ⟨⟩
 exact g_walk 61 h Tryz.func51
def zAt.s2 (Q:Sl→K) (X1:Int→Int→K) (s0_2:Sl) (del1_2:Value) (i5_2:Int) (j6_2:Int):K :=
 Ar (IntKind.wrap .i64 (j6_2 + 1)) fun t21 =>
 X1 i5_2 t21
def zAt.b1 (Q:Sl→K)  (X1:Int→Int→K) (s0_1:Sl) (del1_1:Value) (i5_1:Int) (j6_1:Int):K :=
 Ite (decide (j6_1 < (s0_1.n:Int)))
  (Idx s0_1 j6_1 1 fun t24 =>
  Ld t24 (Value.int .i64) fun t25 =>
  CallV Tryz.prog del1_1 [(.int .i64 t25)] <| Ans1 (fun (t28:Bool)=>Value.bool t28) fun t28 =>
  Ite (!t28)
   (Idx s0_1 i5_1 1 fun t33 =>
   St t33 (.int .i64 t25) <|
   Ar (IntKind.wrap .i64 (i5_1 + 1)) fun t35 =>
   zAt.s2 Q X1 s0_1 del1_1 t35 j6_1)
   (zAt.s2 Q X1 s0_1 del1_1 i5_1 j6_1))
  (Slc s0_1 i5_1 (s0_1.n:Int) (s0_1.c:Int) 1 fun t38 =>
  Do Tryz.prog (Builtin.clear_ #[42] 0 #[(Sl.val t38)]) id fun _ =>
  Slc s0_1 0 i5_1 (s0_1.c:Int) 1 fun t41 =>
  Q t41)
def zAt (s0:Sl) (del1:Value) (Q:Sl→K):K :=
 zBU.call s0 del1 fun t10 =>
 Ite (decide (t10 = (-1)))
  (Q s0)
  (Ar (IntKind.wrap .i64 (t10 + 1)) fun t15 =>
  LoopK (α:=Int×Int) (fun X x=>zAt.b1 Q (fun i5_1 j6_1=>X (i5_1,j6_1)) s0 del1 x.1 x.2) (t10,t15))
theorem zFc (s0:Sl) (del1:Value) (Q:Sl→K) (w:World) (h:zAt s0 del1 Q w):zAt.call s0 del1 Q w:=by
 have hJ6:∀ (X1:(Int×Int)→K),XH 5 X1→JH 6 fun D=>∃ (s0_2:Sl) (del1_2:Value) (j6_2:Int),D [(0,(Sl.val s0_2)),(1,del1_2),(6,(.int .i64 j6_2))] (fun C=>∀ (i5_2:Int),C [(0,(Sl.val s0_2)),(1,del1_2),(5,(.int .i64 i5_2)),(6,(.int .i64 j6_2))] (zAt.s2 Q (fun i5_1 j6_1=>X1 (i5_1,j6_1)) s0_2 del1_2 i5_2 j6_2)):=by intros; exact ⟨fun _ ⟨_,_,_,h⟩=>⟨_,_,h⟩⟩
 have hL5:∀ (s0_1:Sl) (del1_1:Value),LH 5 (fun x:Int×Int=>[(0,(Sl.val s0_1)),(1,del1_1),(5,(.int .i64 x.1)),(6,(.int .i64 x.2))]) (fun X x=>zAt.b1 Q (fun i5_1 j6_1=>X (i5_1,j6_1)) s0_1 del1_1 x.1 x.2):=by intros; exact ⟨⟩
 exact g_walk 42 h Tryz.func60
def zBs (s0:Sl) (v1:Int) (Q:Bool→K):K :=
 zBf.call s0 v1 fun t7 =>
 Q (decide ((0:Int) ≤ t7))
theorem zFo (s0:Sl) (v1:Int) (Q:Bool→K) (w:World) (h:zBs s0 v1 Q w):zBs.call s0 v1 Q w:=by
 exact g_walk 9 h Tryz.func93
def zAw.b1 (Q:Int→K)  (X1:Int→K) (s0_1:Sl) (f1_1:Value) (t7_1:Int) (t8_1:Int):K :=
 Ite (decide (t8_1 < t7_1))
  (Idx s0_1 t8_1 1 fun t14 =>
  Ld t14 Value.pointer fun t15 =>
  CallV Tryz.prog f1_1 [(.pointer t15)] <| Ans1 (fun (t16:Bool)=>Value.bool t16) fun t16 =>
  Ite t16
   (Q t8_1)
   (Ar (IntKind.wrap .i64 (t8_1 + 1)) fun t18 =>
   X1 t18))
  (Q (-1))
def zAw (s0:Sl) (f1:Value) (Q:Int→K):K :=
 LoopK (α:=Int) (fun X x=>zAw.b1 Q X s0 f1 (s0.n:Int) x) 0
theorem zC8 (s0:Sl) (f1:Value) (Q:Int→K) (w:World) (h:zAw s0 f1 Q w):zAw.call s0 f1 Q w:=by
 have hL2:∀ (s0_1:Sl) (f1_1:Value) (t7_1:Int),LH 2 (fun x:Int=>[(0,(Sl.val s0_1)),(1,f1_1),(7,(.int .i64 t7_1)),(8,(.int .i64 x))]) (fun X x=>zAw.b1 Q X s0_1 f1_1 t7_1 x):=by intros; exact ⟨⟩
 exact g_walk 19 h Tryz.func95
def zBj (s0:Sl) (i1:Int) (j2:Int) (Q:Sl→K):K :=
 Slc s0 i1 j2 (s0.n:Int) 1 fun t13 =>
 Ite (decide (i1 = j2))
  (Q s0)
  (Dr <|
  Slc s0 0 i1 (s0.c:Int) 1 fun t22 =>
  Slc s0 j2 (s0.n:Int) (s0.c:Int) 1 fun t25 =>
  Do Tryz.prog (Builtin.append_ #[133,133] 133 #[(Sl.val t22),(Sl.val t25)]) Sl.val fun t26 =>
  Slc t26 (t26.n:Int) (s0.n:Int) (t26.c:Int) 1 fun t31 =>
  Do Tryz.prog (Builtin.clear_ #[133] 0 #[(Sl.val t31)]) id fun _ =>
  Q t26)
theorem zEN (s0:Sl) (i1:Int) (j2:Int) (Q:Sl→K) (w:World) (h:zBj s0 i1 j2 Q w):zBj.call s0 i1 j2 Q w:=by
 have hD5:DH 5 0 [] (.s [0,1,2,3,4,5] (.a [(6,0,.s [7] .e)])):=by intros; exact ⟨⟩
 exact g_walk 33 h Tryz.func100
def zBC (s0:Sl) (Q:Sl→K):K :=
 Ite ((s0).a.isNone)
  (Q (Sl.mk none 0 0))
  (New 84 #[] fun t5 =>
  Do Tryz.prog (Builtin.append_ #[38,38] 38 #[(Sl.val (Sl.mk (some t5) 0 0)),(Sl.val s0)]) Sl.val fun t7 =>
  Q t7)
theorem zDh (s0:Sl) (Q:Sl→K) (w:World) (h:zBC s0 Q w):zBC.call s0 Q w:=by
 exact g_walk 8 h Tryz.func102
def zBU.b1 (Q:Int→K)  (X1:Int→K) (s0_1:Sl) (f1_1:Value) (t7_1:Int) (t8_1:Int):K :=
 Ite (decide (t8_1 < t7_1))
  (Idx s0_1 t8_1 1 fun t14 =>
  Ld t14 (Value.int .i64) fun t15 =>
  CallV Tryz.prog f1_1 [(.int .i64 t15)] <| Ans1 (fun (t16:Bool)=>Value.bool t16) fun t16 =>
  Ite t16
   (Q t8_1)
   (Ar (IntKind.wrap .i64 (t8_1 + 1)) fun t18 =>
   X1 t18))
  (Q (-1))
def zBU (s0:Sl) (f1:Value) (Q:Int→K):K :=
 LoopK (α:=Int) (fun X x=>zBU.b1 Q X s0 f1 (s0.n:Int) x) 0
theorem zFg (s0:Sl) (f1:Value) (Q:Int→K) (w:World) (h:zBU s0 f1 Q w):zBU.call s0 f1 Q w:=by
 have hL2:∀ (s0_1:Sl) (f1_1:Value) (t7_1:Int),LH 2 (fun x:Int=>[(0,(Sl.val s0_1)),(1,f1_1),(7,(.int .i64 t7_1)),(8,(.int .i64 x))]) (fun X x=>zBU.b1 Q X s0_1 f1_1 t7_1 x):=by intros; exact ⟨⟩
 exact g_walk 19 h Tryz.func103
def zAl (s0:Sl) (f1:Value) (Q:Bool→K):K :=
 zAM.call s0 f1 fun t7 =>
 Q (decide ((0:Int) ≤ t7))
theorem zDp (s0:Sl) (f1:Value) (Q:Bool→K) (w:World) (h:zAl s0 f1 Q w):zAl.call s0 f1 Q w:=by
 exact g_walk 9 h Tryz.func105
def zBk (s0:Sl) (Q:Sl→K):K :=
 Ite ((s0).a.isNone)
  (Q (Sl.mk none 0 0))
  (New 180 #[] fun t5 =>
  Do Tryz.prog (Builtin.append_ #[49,49] 49 #[(Sl.val (Sl.mk (some t5) 0 0)),(Sl.val s0)]) Sl.val fun t7 =>
  Q t7)
theorem zE1 (s0:Sl) (Q:Sl→K) (w:World) (h:zBk s0 Q w):zBk.call s0 Q w:=by
 exact g_walk 8 h Tryz.func112
def zBl (s0:Sl) (f1:Value) (Q:Bool→K):K :=
 zBK.call s0 f1 fun t7 =>
 Q (decide ((0:Int) ≤ t7))
theorem zEO (s0:Sl) (f1:Value) (Q:Bool→K) (w:World) (h:zBl s0 f1 Q w):zBl.call s0 f1 Q w:=by
 exact g_walk 9 h Tryz.func117
def zBd (s0:Sl) (Q:Sl→K):K :=
 Ite ((s0).a.isNone)
  (Q (Sl.mk none 0 0))
  (New 9 #[] fun t5 =>
  Do Tryz.prog (Builtin.append_ #[22,22] 22 #[(Sl.val (Sl.mk (some t5) 0 0)),(Sl.val s0)]) Sl.val fun t7 =>
  Q t7)
theorem zFR (s0:Sl) (Q:Sl→K) (w:World) (h:zBd s0 Q w):zBd.call s0 Q w:=by
 exact g_walk 8 h Tryz.func118
def zBt (s0:Sl) (Q:Sl→K):K :=
 Ite ((s0).a.isNone)
  (Q (Sl.mk none 0 0))
  (New 123 #[] fun t5 =>
  Do Tryz.prog (Builtin.append_ #[23,23] 23 #[(Sl.val (Sl.mk (some t5) 0 0)),(Sl.val s0)]) Sl.val fun t7 =>
  Q t7)
theorem zFS (s0:Sl) (Q:Sl→K) (w:World) (h:zBt s0 Q w):zBt.call s0 Q w:=by
 exact g_walk 8 h Tryz.func119
def zCh (s0:Sl) (Q:Sl→K):K :=
 Ite ((s0).a.isNone)
  (Q (Sl.mk none 0 0))
  (New 5 #[] fun t5 =>
  Do Tryz.prog (Builtin.append_ #[85,85] 85 #[(Sl.val (Sl.mk (some t5) 0 0)),(Sl.val s0)]) Sl.val fun t7 =>
  Q t7)
theorem zGA (s0:Sl) (Q:Sl→K) (w:World) (h:zCh s0 Q w):zCh.call s0 Q w:=by
 exact g_walk 8 h Tryz.func150
def zAK.s2 (Q:Sl→K) (X1:Int→Int→K) (slices0_2:Sl) (size3_2:Int) (t9_2:Sl) (t10_2:Int) (t11_2:Int):K :=
 Ar (IntKind.wrap .i64 (t11_2 + 1)) fun t22 =>
 X1 size3_2 t22
def zAK.b3 (Q:Sl→K) (X1:Int→Int→K) (X3:Sl→Int→K) (t25_3:Sl) (t26_3:Int) (newslice6_3:Sl) (t27_3:Int):K :=
 Ite (decide (t27_3 < t26_3))
  (Idx t25_3 t27_3 1 fun t29 =>
  Ld t29 Sl.val fun t30 =>
  Do Tryz.prog (Builtin.append_ #[22,22] 22 #[(Sl.val newslice6_3),(Sl.val t30)]) Sl.val fun t33 =>
  Ar (IntKind.wrap .i64 (t27_3 + 1)) fun t34 =>
  X3 t33 t34)
  (Q newslice6_3)
def zAK.b1 (Q:Sl→K)  (X1:Int→Int→K) (slices0_1:Sl) (t9_1:Sl) (t10_1:Int) (size3_1:Int) (t11_1:Int):K :=
 Ite (decide (t11_1 < t10_1))
  (Idx t9_1 t11_1 1 fun t13 =>
  Ld t13 Sl.val fun t14 =>
  Ar (IntKind.wrap .i64 (size3_1 + (t14.n:Int))) fun t18 =>
  Ite (decide (t18 < 0))
   (Rd Tryz.prog (Instr.makeInterface 9 (.string ⟨#[108,101,110,32,111,117,116,32,111,102,32,114,97,110,103,101]⟩)) id fun t21 =>
   Dead)
   (zAK.s2 Q X1 slices0_1 t18 t9_1 t10_1 t11_1))
  (zAe.call (Sl.mk none 0 0) size3_1 fun t24 =>
  LoopK (α:=Sl×Int) (fun X x=>zAK.b3 Q X1 (fun newslice6_3 t27_3=>X (newslice6_3,t27_3)) slices0_1 (slices0_1.n:Int) x.1 x.2) (t24,0))
def zAK (slices0:Sl) (Q:Sl→K):K :=
 LoopK (α:=Int×Int) (fun X x=>zAK.b1 Q (fun size3_1 t11_1=>X (size3_1,t11_1)) slices0 slices0 (slices0.n:Int) x.1 x.2) (0,0)
theorem zFB (slices0:Sl) (Q:Sl→K) (w:World) (h:zAK slices0 Q w):zAK.call slices0 Q w:=by
 have hJ8:∀ (X1:(Int×Int)→K),XH 3 X1→JH 8 fun D=>∃ (slices0_2:Sl) (t9_2:Sl) (t10_2:Int) (t11_2:Int),D [(0,(Sl.val slices0_2)),(9,(Sl.val t9_2)),(10,(.int .i64 t10_2)),(11,(.int .i64 t11_2))] (fun C=>∀ (size3_2:Int),C [(0,(Sl.val slices0_2)),(3,(.int .i64 size3_2)),(9,(Sl.val t9_2)),(10,(.int .i64 t10_2)),(11,(.int .i64 t11_2))] (zAK.s2 Q (fun size3_1 t11_1=>X1 (size3_1,t11_1)) slices0_2 size3_2 t9_2 t10_2 t11_2)):=by intros; exact ⟨fun _ ⟨_,_,_,_,h⟩=>⟨_,_,h⟩⟩
 have hL11:∀ (X1:(Int×Int)→K),XH 3 X1→∀ (t25_3:Sl) (t26_3:Int),LH 11 (fun x:Sl×Int=>[(6,(Sl.val x.1)),(25,(Sl.val t25_3)),(26,(.int .i64 t26_3)),(27,(.int .i64 x.2))]) (fun X x=>zAK.b3 Q (fun size3_1 t11_1=>X1 (size3_1,t11_1)) (fun newslice6_3 t27_3=>X (newslice6_3,t27_3)) t25_3 t26_3 x.1 x.2):=by intros; exact ⟨⟩
 have hL3:∀ (slices0_1:Sl) (t9_1:Sl) (t10_1:Int),LH 3 (fun x:Int×Int=>[(0,(Sl.val slices0_1)),(3,(.int .i64 x.1)),(9,(Sl.val t9_1)),(10,(.int .i64 t10_1)),(11,(.int .i64 x.2))]) (fun X x=>zAK.b1 Q (fun size3_1 t11_1=>X (size3_1,t11_1)) slices0_1 t9_1 t10_1 x.1 x.2):=by intros; exact ⟨⟩
 exact g_walk 36 h Tryz.func151
def zCC (x0:Sl) (Q:K):K :=
 Ar (IntKind.wrap .u64 (x0.n:Int)) fun t8 =>
 zIU.call t8 fun t9 =>
 zFn.call x0 0 (x0.n:Int) t9 <|
 Q
def zAG.s3 (Q:Sl→K) (X1:Int→K) (X2:Int→Int→K) (s0_3:Sl) (k3_3:Int) (s4_3:Sl) (k5_3:Int):K :=
 Ar (IntKind.wrap .i64 (k5_3 + 1)) fun t34 =>
 X2 k3_3 t34
def zAG.b2 (Q:Sl→K) (X1:Int→K) (X2:Int→Int→K) (s0_2:Sl) (s4_2:Sl) (k3_2:Int) (k5_2:Int):K :=
 Ite (decide (k5_2 < (s4_2.n:Int)))
  (Dr <|
  Idx s4_2 k5_2 1 fun t37 =>
  Ld t37 Value.string fun t38 =>
  Ar (IntKind.wrap .i64 (k5_2 - 1)) fun t41 =>
  Idx s4_2 t41 1 fun t42 =>
  Ld t42 Value.string fun t43 =>
  Ite (!(t38.toList == t43.toList))
   (Idx s4_2 k5_2 1 fun t49 =>
   Ld t49 Value.string fun t50 =>
   Idx s0_2 k3_2 1 fun t51 =>
   St t51 (.string t50) <|
   Ar (IntKind.wrap .i64 (k3_2 + 1)) fun t53 =>
   zAG.s3 Q X1 X2 s0_2 t53 s4_2 k5_2)
   (zAG.s3 Q X1 X2 s0_2 k3_2 s4_2 k5_2))
  (Slc s0_2 k3_2 (s0_2.n:Int) (s0_2.c:Int) 1 fun t56 =>
  Do Tryz.prog (Builtin.clear_ #[22] 0 #[(Sl.val t56)]) id fun _ =>
  Slc s0_2 0 k3_2 (s0_2.c:Int) 1 fun t59 =>
  Q t59)
def zAG.b1 (Q:Sl→K)  (X1:Int→K) (s0_1:Sl) (k3_1:Int):K :=
 Ite (decide (k3_1 < (s0_1.n:Int)))
  (Dr <|
  Idx s0_1 k3_1 1 fun t18 =>
  Ld t18 Value.string fun t19 =>
  Ar (IntKind.wrap .i64 (k3_1 - 1)) fun t22 =>
  Idx s0_1 t22 1 fun t23 =>
  Ld t23 Value.string fun t24 =>
  Ite (t19.toList == t24.toList)
   (Slc s0_1 k3_1 (s0_1.n:Int) (s0_1.c:Int) 1 fun t28 =>
   LoopK (α:=Int×Int) (fun X x=>zAG.b2 Q X1 (fun k3_2 k5_2=>X (k3_2,k5_2)) s0_1 t28 x.1 x.2) (k3_1,1))
   (Ar (IntKind.wrap .i64 (k3_1 + 1)) fun t15 =>
   X1 t15))
  (Q s0_1)
def zAG (s0:Sl) (Q:Sl→K):K :=
 Ite (decide ((s0.n:Int) < 2))
  (Q s0)
  (LoopK (α:=Int) (fun X x=>zAG.b1 Q X s0 x) 1)
theorem zE2 (s0:Sl) (Q:Sl→K) (w:World) (h:zAG s0 Q w):zAG.call s0 Q w:=by
 have hJ10:∀ (X1:Int→K),XH 4 X1→∀ (X2:(Int×Int)→K),XH 9 X2→JH 10 fun D=>∃ (s0_3:Sl) (s4_3:Sl) (k5_3:Int),D [(0,(Sl.val s0_3)),(4,(Sl.val s4_3)),(5,(.int .i64 k5_3))] (fun C=>∀ (k3_3:Int),C [(0,(Sl.val s0_3)),(3,(.int .i64 k3_3)),(4,(Sl.val s4_3)),(5,(.int .i64 k5_3))] (zAG.s3 Q X1 (fun k3_2 k5_2=>X2 (k3_2,k5_2)) s0_3 k3_3 s4_3 k5_3)):=by intros; exact ⟨fun _ ⟨_,_,_,h⟩=>⟨_,_,h⟩⟩
 have hL9:∀ (X1:Int→K),XH 4 X1→∀ (s0_2:Sl) (s4_2:Sl),LH 9 (fun x:Int×Int=>[(0,(Sl.val s0_2)),(3,(.int .i64 x.1)),(4,(Sl.val s4_2)),(5,(.int .i64 x.2))]) (fun X x=>zAG.b2 Q X1 (fun k3_2 k5_2=>X (k3_2,k5_2)) s0_2 s4_2 x.1 x.2):=by intros; exact ⟨⟩
 have hL4:∀ (s0_1:Sl),LH 4 (fun x:Int=>[(0,(Sl.val s0_1)),(3,(.int .i64 x))]) (fun X x=>zAG.b1 Q X s0_1 x):=by intros; exact ⟨⟩
 exact g_walk 61 h Tryz.func153
def zBf.b1 (Q:Int→K)  (X1:Int→K) (s0_1:Sl) (v1_1:Int) (t7_1:Int) (t8_1:Int):K :=
 Ite (decide (t8_1 < t7_1))
  (Idx s0_1 t8_1 1 fun t14 =>
  Ld t14 (Value.int .i64) fun t15 =>
  Ite (decide (v1_1 = t15))
   (Q t8_1)
   (Ar (IntKind.wrap .i64 (t8_1 + 1)) fun t18 =>
   X1 t18))
  (Q (-1))
def zBf (s0:Sl) (v1:Int) (Q:Int→K):K :=
 LoopK (α:=Int) (fun X x=>zBf.b1 Q X s0 v1 (s0.n:Int) x) 0
theorem zGJ (s0:Sl) (v1:Int) (Q:Int→K) (w:World) (h:zBf s0 v1 Q w):zBf.call s0 v1 Q w:=by
 have hL2:∀ (s0_1:Sl) (v1_1:Int) (t7_1:Int),LH 2 (fun x:Int=>[(0,(Sl.val s0_1)),(1,(.int .i64 v1_1)),(7,(.int .i64 t7_1)),(8,(.int .i64 x))]) (fun X x=>zBf.b1 Q X s0_1 v1_1 t7_1 x):=by intros; exact ⟨⟩
 exact g_walk 19 h Tryz.func154
def zAM.b1 (Q:Int→K)  (X1:Int→K) (s0_1:Sl) (f1_1:Value) (t7_1:Int) (t8_1:Int):K :=
 Ite (decide (t8_1 < t7_1))
  (Idx s0_1 t8_1 7 fun t14 =>
  LdN t14 7 fun t15 =>
  CallV Tryz.prog f1_1 [(.agg t15)] <| Ans1 (fun (t16:Bool)=>Value.bool t16) fun t16 =>
  Ite t16
   (Q t8_1)
   (Ar (IntKind.wrap .i64 (t8_1 + 1)) fun t18 =>
   X1 t18))
  (Q (-1))
def zAM (s0:Sl) (f1:Value) (Q:Int→K):K :=
 LoopK (α:=Int) (fun X x=>zAM.b1 Q X s0 f1 (s0.n:Int) x) 0
theorem zB4 (s0:Sl) (f1:Value) (Q:Int→K) (w:World) (h:zAM s0 f1 Q w):zAM.call s0 f1 Q w:=by
 have hL2:∀ (s0_1:Sl) (f1_1:Value) (t7_1:Int),LH 2 (fun x:Int=>[(0,(Sl.val s0_1)),(1,f1_1),(7,(.int .i64 t7_1)),(8,(.int .i64 x))]) (fun X x=>zAM.b1 Q X s0_1 f1_1 t7_1 x):=by intros; exact ⟨⟩
 exact g_walk 19 h Tryz.func155
def zAy.b1 (Q:Int→K)  (X1:Int→K) (s0_1:Sl) (f1_1:Value) (t7_1:Int) (t8_1:Int):K :=
 Ite (decide (t8_1 < t7_1))
  (Idx s0_1 t8_1 1 fun t14 =>
  Ld t14 Value.pointer fun t15 =>
  CallV Tryz.prog f1_1 [(.pointer t15)] <| Ans1 (fun (t16:Bool)=>Value.bool t16) fun t16 =>
  Ite t16
   (Q t8_1)
   (Ar (IntKind.wrap .i64 (t8_1 + 1)) fun t18 =>
   X1 t18))
  (Q (-1))
def zAy (s0:Sl) (f1:Value) (Q:Int→K):K :=
 LoopK (α:=Int) (fun X x=>zAy.b1 Q X s0 f1 (s0.n:Int) x) 0
theorem zD4 (s0:Sl) (f1:Value) (Q:Int→K) (w:World) (h:zAy s0 f1 Q w):zAy.call s0 f1 Q w:=by
 have hL2:∀ (s0_1:Sl) (f1_1:Value) (t7_1:Int),LH 2 (fun x:Int=>[(0,(Sl.val s0_1)),(1,f1_1),(7,(.int .i64 t7_1)),(8,(.int .i64 x))]) (fun X x=>zAy.b1 Q X s0_1 f1_1 t7_1 x):=by intros; exact ⟨⟩
 exact g_walk 19 h Tryz.func165
def zBV (s0:Sl) (i1:Int) (j2:Int) (Q:Sl→K):K :=
 Slc s0 i1 j2 (s0.n:Int) 1 fun t13 =>
 Ite (decide (i1 = j2))
  (Q s0)
  (Dr <|
  Slc s0 0 i1 (s0.c:Int) 1 fun t22 =>
  Slc s0 j2 (s0.n:Int) (s0.c:Int) 1 fun t25 =>
  Do Tryz.prog (Builtin.append_ #[159,159] 159 #[(Sl.val t22),(Sl.val t25)]) Sl.val fun t26 =>
  Slc t26 (t26.n:Int) (s0.n:Int) (t26.c:Int) 1 fun t31 =>
  Do Tryz.prog (Builtin.clear_ #[159] 0 #[(Sl.val t31)]) id fun _ =>
  Q t26)
theorem zEE (s0:Sl) (i1:Int) (j2:Int) (Q:Sl→K) (w:World) (h:zBV s0 i1 j2 Q w):zBV.call s0 i1 j2 Q w:=by
 have hD5:DH 5 0 [] (.s [0,1,2,3,4,5] (.a [(6,0,.s [7] .e)])):=by intros; exact ⟨⟩
 exact g_walk 33 h Tryz.func167
def zBm (s0:Sl) (f1:Value) (Q:Bool→K):K :=
 zBL.call s0 f1 fun t7 =>
 Q (decide ((0:Int) ≤ t7))
theorem zEP (s0:Sl) (f1:Value) (Q:Bool→K) (w:World) (h:zBm s0 f1 Q w):zBm.call s0 f1 Q w:=by
 exact g_walk 9 h Tryz.func169
def zBF (s0:Sl) (v1:ByteArray) (Q:Bool→K):K :=
 zBE.call s0 v1 fun t7 =>
 Q (decide ((0:Int) ≤ t7))
theorem zEw (s0:Sl) (v1:ByteArray) (Q:Bool→K) (w:World) (h:zBF s0 v1 Q w):zBF.call s0 v1 Q w:=by
 exact g_walk 9 h Tryz.func171
def zBK.b1 (Q:Int→K)  (X1:Int→K) (s0_1:Sl) (f1_1:Value) (t7_1:Int) (t8_1:Int):K :=
 Ite (decide (t8_1 < t7_1))
  (Idx s0_1 t8_1 4 fun t14 =>
  LdN t14 4 fun t15 =>
  CallV Tryz.prog f1_1 [(.agg t15)] <| Ans1 (fun (t16:Bool)=>Value.bool t16) fun t16 =>
  Ite t16
   (Q t8_1)
   (Ar (IntKind.wrap .i64 (t8_1 + 1)) fun t18 =>
   X1 t18))
  (Q (-1))
def zBK (s0:Sl) (f1:Value) (Q:Int→K):K :=
 LoopK (α:=Int) (fun X x=>zBK.b1 Q X s0 f1 (s0.n:Int) x) 0
theorem zEn (s0:Sl) (f1:Value) (Q:Int→K) (w:World) (h:zBK s0 f1 Q w):zBK.call s0 f1 Q w:=by
 have hL2:∀ (s0_1:Sl) (f1_1:Value) (t7_1:Int),LH 2 (fun x:Int=>[(0,(Sl.val s0_1)),(1,f1_1),(7,(.int .i64 t7_1)),(8,(.int .i64 x))]) (fun X x=>zBK.b1 Q X s0_1 f1_1 t7_1 x):=by intros; exact ⟨⟩
 exact g_walk 19 h Tryz.func172
def zAe.s2 (Q:Sl→K)  (s0_2:Sl):K :=
 Q s0_2
def zAe.s1 (Q:Sl→K)  (s0_1:Sl) (n1_1:Int):K :=
 Do Tryz.prog (Builtin.cap_ #[22] 3 #[(Sl.val s0_1)]) (Value.int .i64) fun t10 =>
 Ar (IntKind.wrap .i64 (t10 - (s0_1.n:Int))) fun t13 =>
 Ar (IntKind.wrap .i64 (n1_1 - t13)) fun t14 =>
 Ite (decide ((0:Int) < t14))
  (Do Tryz.prog (Builtin.cap_ #[22] 3 #[(Sl.val s0_1)]) (Value.int .i64) fun t19 =>
  Slc s0_1 0 t19 (s0_1.c:Int) 1 fun t20 =>
  Do Tryz.prog (Builtin.append_ #[22,3] 22 #[(Sl.val t20),(.int .i64 t14)]) Sl.val fun t22 =>
  Slc t22 0 (s0_1.n:Int) (t22.c:Int) 1 fun t25 =>
  zAe.s2 Q t25)
  (zAe.s2 Q s0_1)
def zAe (s0:Sl) (n1:Int) (Q:Sl→K):K :=
 Ite (decide (n1 < 0))
  (Rd Tryz.prog (Instr.makeInterface 9 (.string ⟨#[99,97,110,110,111,116,32,98,101,32,110,101,103,97,116,105,118,101]⟩)) id fun t7 =>
  Dead)
  (zAe.s1 Q s0 n1)
theorem zFd (s0:Sl) (n1:Int) (Q:Sl→K) (w:World) (h:zAe s0 n1 Q w):zAe.call s0 n1 Q w:=by
 have hJ6:JH 6 fun D=>D [] (fun C=>∀ (s0_2:Sl),C [(0,(Sl.val s0_2))] (zAe.s2 Q s0_2)):=by intros; exact ⟨fun _ h=>⟨_,_,h⟩⟩
 have hJ3:JH 3 fun D=>∃ (s0_1:Sl) (n1_1:Int),D [(0,(Sl.val s0_1)),(1,(.int .i64 n1_1))] (fun C=>C [(0,(Sl.val s0_1)),(1,(.int .i64 n1_1))] (zAe.s1 Q s0_1 n1_1)):=by intros; exact ⟨fun _ ⟨_,_,h⟩=>⟨_,_,h⟩⟩
 exact g_walk 27 h Tryz.func190
def zAC.s2 (Q:Sl→K) (X1:Int→Int→K) (s0_2:Sl) (del1_2:Value) (i5_2:Int) (j6_2:Int):K :=
 Ar (IntKind.wrap .i64 (j6_2 + 1)) fun t21 =>
 X1 i5_2 t21
def zAC.b1 (Q:Sl→K)  (X1:Int→Int→K) (s0_1:Sl) (del1_1:Value) (i5_1:Int) (j6_1:Int):K :=
 Ite (decide (j6_1 < (s0_1.n:Int)))
  (Idx s0_1 j6_1 7 fun t24 =>
  LdN t24 7 fun t25 =>
  New 224 #[(.int .i64 0),(.int .u64 0),(.int .u64 0),(.int .i64 0),(.string ⟨#[]⟩),(.int .i64 0),(.int .u64 0)] fun v7 =>
  StN v7 7 t25 <|
  LdN v7 7 fun t27 =>
  CallV Tryz.prog del1_1 [(.agg t27)] <| Ans1 (fun (t28:Bool)=>Value.bool t28) fun t28 =>
  Ite (!t28)
   (LdN v7 7 fun t32 =>
   Idx s0_1 i5_1 7 fun t33 =>
   StN t33 7 t32 <|
   Ar (IntKind.wrap .i64 (i5_1 + 1)) fun t35 =>
   zAC.s2 Q X1 s0_1 del1_1 t35 j6_1)
   (zAC.s2 Q X1 s0_1 del1_1 i5_1 j6_1))
  (Slc s0_1 i5_1 (s0_1.n:Int) (s0_1.c:Int) 7 fun t38 =>
  Do Tryz.prog (Builtin.clear_ #[222] 0 #[(Sl.val t38)]) id fun _ =>
  Slc s0_1 0 i5_1 (s0_1.c:Int) 7 fun t41 =>
  Q t41)
def zAC (s0:Sl) (del1:Value) (Q:Sl→K):K :=
 zAM.call s0 del1 fun t10 =>
 Ite (decide (t10 = (-1)))
  (Q s0)
  (Ar (IntKind.wrap .i64 (t10 + 1)) fun t15 =>
  LoopK (α:=Int×Int) (fun X x=>zAC.b1 Q (fun i5_1 j6_1=>X (i5_1,j6_1)) s0 del1 x.1 x.2) (t10,t15))
theorem zCt (s0:Sl) (del1:Value) (Q:Sl→K) (w:World) (h:zAC s0 del1 Q w):zAC.call s0 del1 Q w:=by
 have hJ6:∀ (X1:(Int×Int)→K),XH 5 X1→JH 6 fun D=>∃ (s0_2:Sl) (del1_2:Value) (j6_2:Int),D [(0,(Sl.val s0_2)),(1,del1_2),(6,(.int .i64 j6_2))] (fun C=>∀ (i5_2:Int),C [(0,(Sl.val s0_2)),(1,del1_2),(5,(.int .i64 i5_2)),(6,(.int .i64 j6_2))] (zAC.s2 Q (fun i5_1 j6_1=>X1 (i5_1,j6_1)) s0_2 del1_2 i5_2 j6_2)):=by intros; exact ⟨fun _ ⟨_,_,_,h⟩=>⟨_,_,h⟩⟩
 have hL5:∀ (s0_1:Sl) (del1_1:Value),LH 5 (fun x:Int×Int=>[(0,(Sl.val s0_1)),(1,del1_1),(5,(.int .i64 x.1)),(6,(.int .i64 x.2))]) (fun X x=>zAC.b1 Q (fun i5_1 j6_1=>X (i5_1,j6_1)) s0_1 del1_1 x.1 x.2):=by intros; exact ⟨⟩
 exact g_walk 42 h Tryz.func192
def zCp (seq0:Value) (Q:Sl→K):K :=
 zCZ.call seq0 fun t5 =>
 zCC.call t5 <|
 Q t5
theorem zGk (seq0:Value) (Q:Sl→K) (w:World) (h:zCp seq0 Q w):zCp.call seq0 Q w:=by
 exact g_walk 9 h Tryz.func195
def zBL.b1 (Q:Int→K)  (X1:Int→K) (s0_1:Sl) (f1_1:Value) (t7_1:Int) (t8_1:Int):K :=
 Ite (decide (t8_1 < t7_1))
  (Idx s0_1 t8_1 1 fun t14 =>
  Ld t14 Value.string fun t15 =>
  CallV Tryz.prog f1_1 [(.string t15)] <| Ans1 (fun (t16:Bool)=>Value.bool t16) fun t16 =>
  Ite t16
   (Q t8_1)
   (Ar (IntKind.wrap .i64 (t8_1 + 1)) fun t18 =>
   X1 t18))
  (Q (-1))
def zBL (s0:Sl) (f1:Value) (Q:Int→K):K :=
 LoopK (α:=Int) (fun X x=>zBL.b1 Q X s0 f1 (s0.n:Int) x) 0
theorem zEo (s0:Sl) (f1:Value) (Q:Int→K) (w:World) (h:zBL s0 f1 Q w):zBL.call s0 f1 Q w:=by
 have hL2:∀ (s0_1:Sl) (f1_1:Value) (t7_1:Int),LH 2 (fun x:Int=>[(0,(Sl.val s0_1)),(1,f1_1),(7,(.int .i64 t7_1)),(8,(.int .i64 x))]) (fun X x=>zBL.b1 Q X s0_1 f1_1 t7_1 x):=by intros; exact ⟨⟩
 exact g_walk 19 h Tryz.func202
def zBE.b1 (Q:Int→K)  (X1:Int→K) (s0_1:Sl) (v1_1:ByteArray) (t7_1:Int) (t8_1:Int):K :=
 Ite (decide (t8_1 < t7_1))
  (Idx s0_1 t8_1 1 fun t14 =>
  Ld t14 Value.string fun t15 =>
  Ite (v1_1.toList == t15.toList)
   (Q t8_1)
   (Ar (IntKind.wrap .i64 (t8_1 + 1)) fun t18 =>
   X1 t18))
  (Q (-1))
def zBE (s0:Sl) (v1:ByteArray) (Q:Int→K):K :=
 LoopK (α:=Int) (fun X x=>zBE.b1 Q X s0 v1 (s0.n:Int) x) 0
theorem zFT (s0:Sl) (v1:ByteArray) (Q:Int→K) (w:World) (h:zBE s0 v1 Q w):zBE.call s0 v1 Q w:=by
 have hL2:∀ (s0_1:Sl) (v1_1:ByteArray) (t7_1:Int),LH 2 (fun x:Int=>[(0,(Sl.val s0_1)),(1,(.string v1_1)),(7,(.int .i64 t7_1)),(8,(.int .i64 x))]) (fun X x=>zBE.b1 Q X s0_1 v1_1 t7_1 x):=by intros; exact ⟨⟩
 exact g_walk 19 h Tryz.func203
def zCZ (seq0:Value) (Q:Sl→K):K :=
 zBv.call (Sl.mk none 0 0) seq0 fun t4 =>
 Q t4
theorem zGg (seq0:Value) (Q:Sl→K) (w:World) (h:zCZ seq0 Q w):zCZ.call seq0 Q w:=by
 exact g_walk 5 h Tryz.func227
def zBv (s0:Sl) (seq1:Value) (Q:Sl→K):K :=
 New 22 #[(Sl.val s0)] fun s2 =>
 RangeF Tryz.prog seq1 Value.string (fun KN1 x7 =>
  Ld s2 Sl.val fun t8 =>
  New 9 #[(.string x7)] fun t10 =>
  Do Tryz.prog (Builtin.append_ #[22,22] 22 #[(Sl.val t8),(Sl.val (Sl.mk (some t10) 1 1))]) Sl.val fun t11 =>
  St s2 (Sl.val t11) <|
  KN1)
 fun D1 =>
 Ld s2 Sl.val fun t12 =>
 TakeD D1 <|
 Q t12
theorem zEp (s0:Sl) (seq1:Value) (Q:Sl→K) (w:World) (h:zBv s0 seq1 Q w):zBv.call s0 seq1 Q w:=by
 exact g_walk 13 h Tryz.func241
end Go.Proofs.YtdemfamgieonbaaGreat
namespace Go.Proofs.YtdemfamgieonbaaGreat
open Go Go.Sep
set_option maxRecDepth 100000
abbrev sortL (ss:List (List UInt8)):List (List UInt8):=ss.mergeSort fun x y=>decide (x ≤ y)
section
variable {B w:World} {Γ:List HProp}
theorem holds_grow (h:Holds B Γ w) (os:Array Obj):Holds B Γ (Sort.grow w os):=by
 obtain ⟨l⟩:=os
 induction l generalizing w with
 | nil=>simpa [Sort.grow] using h
 | cons o l ih =>
  have h1:=ih (h.alloc o).tail
  have e:Sort.grow { w with heap:=w.heap.push o } ⟨l⟩ = Sort.grow w ⟨o::l⟩:=by
   have e2:w.heap.push o++(⟨l⟩:Array Obj) = w.heap++(⟨o::l⟩:Array Obj):=by
    apply Array.ext'
    rw [Array.toList_append,Array.toList_append,Array.toList_push,List.append_assoc]
    rfl
   unfold Sort.grow
   rw [← e2]
  rw [e] at h1
  exact h1
theorem zGh {s:Sl} {ss:List (List UInt8)} {k:K} (hl:ss.length ≤ 1000000) (h:Holds B (SlC zBy 1 s (ss.map strV)::Γ) w) (hk:∀ w,Holds B (SlC zBy 1 s ((sortL ss).map strV)::Γ) w→k w):zCC.call s k w:=by
 have hsc:=h.slCap
 have hn:ss.length = s.n:=by have:=hsc.1; simpa using this
 unfold zCC.call CallF
 cases ha:s.a with
 | none =>
  have hs0:s.n = 0:=by have:=hsc.2.2.2 ha; omega
  have hss:ss = []:=List.length_eq_zero_iff.1 (by omega)
  subst hss
  have h1:=AnyM.slices_Sort_string_none sortLay none s.c w
  have e:[Sl.val s].toArray = #[.slice none 0 s.c]:=by
   show #[Value.slice s.a s.n s.c] = _
   rw [ha,hs0]
  rw [e]
  refine Calls.mono h1 fun e w' he=>?_
  obtain ⟨rfl,rfl⟩:=he
  exact ⟨rfl,hk _ (by simpa [sortL] using h)⟩
 | some a =>
  obtain ⟨cs,fz,h,hsp,hf,hsz,hr,hlen,hc⟩:=slOpen h ha
  obtain ⟨b,off,sp⟩:=a
  simp only at hsp
  subst hsp
  simp only at h hf hsz hr
  have hb:=h.block
  have hH:Sort.Holds Proofs.encStr w b off ss.toArray:=fun j hj=>by
   simp only [List.size_toArray] at hj
   have h1:=hr j (by simpa using hj)
   constructor
   ·refine zBr hb ?_
    rw [h1,List.getElem?_map,List.getElem?_eq_getElem hj]
    simp [getElem!_pos,hj]
   ·exact zDb hb (hf _ (by omega) (by omega))
  have h1:=AnyM.slices_Sort_string sortLay b off s.c ss w hH (Array.getElem?_eq_some_iff.1 hb).1 (by omega)
  have e:[Sl.val s].toArray = #[.slice (some ⟨b,off,none⟩) ss.length s.c]:=by
   show #[Value.slice s.a s.n s.c] = _
   rw [ha,hn]
  rw [e]
  refine Calls.mono h1 fun e w' he=>?_
  obtain ⟨rfl,n,os,rfl⟩:=he
  refine ⟨rfl,hk _ ?_⟩
  have h2:Holds B (blk b (.cells cs zBy fz)::Γ) (Sort.ahead w n):=h.drew _
  have h3:=h2.setBlock (o':=.cells (Sort.putCells Proofs.encStr off (sortL ss).toArray cs) zBy fz) rfl
  have e2:({ (Sort.ahead w n) with heap:=(Sort.ahead w n).heap.setIfInBounds b (.cells (Sort.putCells Proofs.encStr off (sortL ss).toArray cs) zBy fz) }:World) = Sort.putRow Proofs.encStr (Sort.ahead w n) b off (sortL ss).toArray:=by
   have harr:(Sort.ahead w n).heap.setIfInBounds b (.cells (Sort.putCells Proofs.encStr off (sortL ss).toArray cs) zBy fz) = (Sort.ahead w n).heap.modify b (Sort.onCells (Sort.putCells Proofs.encStr off (sortL ss).toArray)):=by
    apply Array.ext_getElem?
    intro i
    rw [Array.getElem?_modify]
    by_cases hi:b = i
    ·subst hi
     rw [if_pos rfl,h2.block,Array.getElem?_setIfInBounds_self_of_lt (Array.getElem?_eq_some_iff.1 h2.block).1]
     rfl
    ·rw [if_neg hi,Array.getElem?_setIfInBounds_ne hi]
   unfold Sort.putRow Sort.mapBlock
   rw [← harr]
  rw [e2] at h3
  have h4:=holds_grow h3 os
  have hsl:(sortL ss).length = ss.length:=by simp [sortL]
  refine slShut (a:=⟨b,off,none⟩) ha h4 ⟨rfl,hf,?_,fun i hi=>?_,by rw [List.length_map,hsl]; simpa using hlen,hc⟩
  ·have:(Sort.putCells Proofs.encStr off (sortL ss).toArray cs).size = cs.size:=by simp [Sort.putCells]
   rw [this]; exact hsz
  ·simp only [List.length_map] at hi
   unfold Sort.putCells
   rw [Array.getElem?_mapIdx]
   have hlt:off + i < cs.size:=by omega
   rw [Array.getElem?_eq_getElem hlt,Option.map_some,if_pos (by simp; omega),List.getElem?_map,List.getElem?_eq_getElem hi,Option.map_some,Nat.add_sub_cancel_left,getElem!_pos (sortL ss).toArray i (by simpa using hi)]
   simp
end
end Go.Proofs.YtdemfamgieonbaaGreat
namespace Go.Sep
open Go Go.RowKit Go.MapKept
section
variable {α β:Type} [DecidableEq α] {P:Program} {B w:World} {Γ:List HProp} {enc:α→Value} {cV:β→Value}
def itLeft (es:Array MapEntry) (seen:Array Nat) (m:List (α×β)):List (α×β):=((es.toList.zip m).filter fun p=>!seen.contains p.1.born).map Prod.snd
structure ItF (enc:α→Value) (cV:β→Value) (es:Array MapEntry) (c:Nat) (seen:Array Nat) (m left:List (α×β)) (cur:Option (α×β)):Prop where
 rel:mrel enc cV es m
 st:stamps es c
 lf:left = itLeft es seen m
 cnt:seen.size + left.length = m.length
 cur:∀ p,cur = some p→∃ (seen':Array Nat) (e:MapEntry),seen = seen'.push e.born∧e ∈ es.toList∧e.key = enc p.1∧e.val = cV p.2
def MapIt (enc:α→Value) (cV:β→Value) (b r:Nat) (m left:List (α×β)) (cur:Option (α×β)):HProp:=ex fun es:Array MapEntry=>ex fun c:Nat=>ex fun seen:Array Nat =>
 stars [pur (ItF enc cV es c seen m left cur),blk b (.map es c),blk r (.mapIter (some b) c seen c)]
theorem MapIt.opens {b r:Nat} {m left:List (α×β)} {cur:Option (α×β)} (h:Holds B (MapIt enc cV b r m left cur::Γ) w):∃ es c seen,ItF enc cV es c seen m left cur∧Holds B (blk b (.map es c)::blk r (.mapIter (some b) c seen c)::Γ) w:=by
 obtain ⟨es,h⟩:=Holds.ex.1 h
 obtain ⟨c,h⟩:=Holds.ex.1 h
 obtain ⟨seen,h⟩:=Holds.ex.1 h
 obtain ⟨hp,h⟩:=Holds.pur.1 (Holds.flat.1 h)
 exact ⟨es,c,seen,hp,h⟩
theorem MapIt.shuts {b r:Nat} {m left:List (α×β)} {cur:Option (α×β)} {es:Array MapEntry} {c:Nat} {seen:Array Nat} (hp:ItF enc cV es c seen m left cur) (h:Holds B (blk b (.map es c)::blk r (.mapIter (some b) c seen c)::Γ) w):Holds B (MapIt enc cV b r m left cur::Γ) w :=
 Holds.ex.2 ⟨es,Holds.ex.2 ⟨c,Holds.ex.2 ⟨seen,Holds.flat.2 (Holds.pur.2 ⟨hp,h⟩)⟩⟩⟩
theorem MapIt.ends {b r:Nat} {m left:List (α×β)} {cur:Option (α×β)} (h:Holds B (MapIt enc cV b r m left cur::Γ) w):Holds B (MapR enc cV b m::Γ) w:=by
 obtain ⟨es,c,seen,hp,h⟩:=MapIt.opens h
 exact MapR.shuts ⟨hp.rel,hp.st⟩ (h.del 1 rfl)
theorem zNo {es:Array MapEntry} {m:List (α×β)} (h:mrel enc cV es m):es.toList.length = m.length:=by have:=congrArg List.length h; simpa using this
theorem zR7 {es:Array MapEntry} {m:List (α×β)} (h:mrel enc cV es m):∀ p ∈ es.toList.zip m,p.1.key = enc p.2.1∧p.1.val = cV p.2.2:=by
 intro p hp
 obtain ⟨i,hi⟩:=List.getElem?_of_mem hp
 rw [List.getElem?_zip_eq_some] at hi
 have:=zFE h i
 rw [hi.1,hi.2] at this
 simp only [Option.map_some,Option.some.injEq,Prod.mk.injEq] at this
 exact this
theorem zPC {T E:TypeId} {d:TypeDesc} {b:Nat} {m:List (α×β)} {k:Option Addr→K} (hT:mapIs P T d E) (h:Holds B (MapR enc cV b m::Γ) w) (hk:∀ r w,Holds B (MapIt enc cV b r m m none::Γ) w→k (some ⟨r,0,none⟩) w) :
  Do P (Instr.range T (.map (some b))) Value.pointer k w:=by
 obtain ⟨kt,hT,hd⟩:=hT
 obtain ⟨es,c,⟨hr,hst⟩,h⟩:=MapR.opens h
 have hb:=h.block
 refine ⟨some ⟨w.heap.size,0,none⟩,{ w with heap:=w.heap.push (.mapIter (some b) c #[] c) },?_,hk _ _ (MapIt.shuts (seen:=#[]) ⟨hr,hst,?_,by simp,fun p hp=>by cases hp⟩ (h.alloc _).swap)⟩
 ·unfold Instr.range
  simp only [Sem.run_bind,run_underlying hT,Result.andThen,MapKept.run_getObj_map hb,Sem.run_pure]
  rfl
 ·unfold itLeft
  have e:(es.toList.zip m).filter (fun p=>!(#[]:Array Nat).contains p.1.born) = es.toList.zip m:=List.filter_eq_self.2 (fun p _=>by simp)
  rw [e,List.map_snd_zip (by rw [zNo hr]; exact Nat.le_refl _)]
theorem zKS {es:List MapEntry} {m:List (α×β)} (seen:Array Nat) (hn:(es.map (·.born)).Nodup) (hl:es.length = m.length) {e:MapEntry} (he:e ∈ es.filter (fun e=>!seen.contains e.born)) :
  ∃ l1 p l2,(e,p) ∈ es.zip m∧((es.zip m).filter fun p=>!seen.contains p.1.born).map Prod.snd = l1++p::l2∧((es.zip m).filter fun p=>!(seen.push e.born).contains p.1.born).map Prod.snd = l1++l2:=by
 induction es generalizing m with
 | nil=>simp at he
 | cons x es ih =>
  cases m with
  | nil=>simp at hl
  | cons q m =>
   simp only [List.map_cons,List.nodup_cons] at hn
   simp only [List.zip_cons_cons]
   by_cases hx:x = e
   ·subst hx
    have hxs:(!seen.contains x.born) = true:=(List.mem_filter.1 he).2
    refine ⟨[],q,((es.zip m).filter fun p=>!seen.contains p.1.born).map Prod.snd,List.mem_cons_self,?_,?_⟩
    ·simp only [List.filter_cons]; rw [if_pos hxs]; rfl
    ·simp only [List.filter_cons]
     rw [if_neg (by simp)]
     simp only [List.nil_append]
     congr 1
     refine List.filter_congr fun p hp=>?_
     have hpe:p.1.born ≠ x.born:=fun heq=>hn.1 (by rw [← heq]; exact List.mem_map_of_mem (List.of_mem_zip hp).1)
     simp [Array.contains_push,hpe]
   ·have he2:e ∈ es.filter (fun e=>!seen.contains e.born):=by
     have h1:=List.mem_filter.1 he
     rcases List.mem_cons.1 h1.1 with h2 | h2
     ·exact absurd h2.symm hx
     ·exact List.mem_filter.2 ⟨h2,h1.2⟩
    obtain ⟨l1,p,l2,h1,h2,h3⟩:=ih hn.2 (by simpa using hl) he2
    have hxb:x.born ≠ e.born:=fun heq=>hn.1 (by rw [heq]; exact List.mem_map_of_mem (List.mem_filter.1 he2).1)
    by_cases hs:(!seen.contains x.born) = true
    ·refine ⟨q::l1,p,l2,List.mem_cons_of_mem _ h1,?_,?_⟩
     ·simp only [List.filter_cons]
      rw [if_pos hs,List.map_cons,h2]; rfl
     ·simp only [List.filter_cons]
      rw [if_pos (by simp [Array.contains_push,hxb] at hs ⊢; exact hs),List.map_cons,h3]; rfl
    ·refine ⟨l1,p,l2,List.mem_cons_of_mem _ h1,?_,?_⟩
     ·simp only [List.filter_cons]
      rw [if_neg hs,h2]
     ·simp only [List.filter_cons]
      rw [if_neg (by simp [Array.contains_push,hxb] at hs ⊢; exact hs),h3]
theorem r_next {b r:Nat} {m left:List (α×β)} {cur:Option (α×β)} {k:Value→K} (h:Holds B (MapIt enc cV b r m left cur::Γ) w)
  (h0:left = []→∀ w,Holds B (MapR enc cV b m::Γ) w→k (.tuple #[.bool false]) w)
  (h1:∀ l1 p l2 w,left = l1++p::l2→p ∈ m→Holds B (MapIt enc cV b r m (l1++l2) (some p)::Γ) w→k (.tuple #[.bool true,enc p.1,cV p.2]) w) :
  Do P (Instr.next (.pointer (some ⟨r,0,none⟩)) false 0) id k w:=by
 have hend:=MapIt.ends h
 obtain ⟨es,c,seen,hp,h⟩:=MapIt.opens h
 have hb:=h.block
 have hr:=h.tail.block
 rcases run_next_at (P:=P) w 0 r b c c seen es c hr hb hp.st.2 (Nat.le_refl _) with ⟨hz,hrun⟩ | ⟨e,he,w1,hw1,hrun⟩
 ·refine ⟨_,w,hrun,h0 ?_ w hend⟩
  rw [hp.lf]
  unfold itLeft
  have hnone:es.toList.filter (fun e=>!seen.contains e.born) = []:=by
   have:(leftOf es seen).toList.length = 0:=by simpa using hz
   unfold leftOf at this
   rw [Array.toList_filter] at this
   exact List.length_eq_zero_iff.1 this
  have:(es.toList.zip m).filter (fun p=>!seen.contains p.1.born) = []:=by
   rw [List.filter_eq_nil_iff] at hnone ⊢
   intro p hpz
   exact hnone p.1 (List.of_mem_zip hpz).1
  rw [this]; rfl
 ·have he2:e ∈ es.toList.filter (fun e=>!seen.contains e.born):=by
   unfold leftOf at he
   rw [Array.toList_filter] at he
   exact he
  obtain ⟨l1,p,l2,hz,hl,hl2⟩:=zKS seen hp.st.1 (zNo hp.rel) he2
  have hkv:=zR7 hp.rel _ hz
  simp only at hkv
  refine ⟨_,_,hrun,?_⟩
  show k (.tuple #[.bool true,e.key,e.val]) _
  rw [hkv.1,hkv.2]
  have hw:∃ w',w1 = w'∧Holds B (blk b (.map es c)::blk r (.mapIter (some b) c seen c)::Γ) w':=by
   rcases hw1 with rfl | rfl
   ·exact ⟨_,rfl,h⟩
   ·exact ⟨_,rfl,h.drew _⟩
  obtain ⟨w',rfl,h⟩:=hw
  refine h1 l1 p l2 _ (by rw [hp.lf]; exact hl) (List.of_mem_zip hz).2 (MapIt.shuts (es:=es) (c:=c) (seen:=seen.push e.born) ⟨hp.rel,hp.st,hl2.symm,?_,fun q hq=>?_⟩ ?_)
  ·have h3:=hp.cnt
   have h4:left = l1++p::l2:=by rw [hp.lf]; exact hl
   rw [h4] at h3
   simp only [List.length_append,List.length_cons,Array.size_push] at h3 ⊢
   omega
  ·cases hq
   exact ⟨seen,e,rfl,(List.of_mem_zip hz).1,hkv.1,hkv.2⟩
  ·exact (h.swap.setBlock (o':=.mapIter (some b) c (seen.push e.born) c) rfl).swap
def itCount (r n:Nat) (w:World):Nat:=match w.heap[r]? with
 | some (.mapIter _ _ seen _)=>n - seen.size
 | _=>0
theorem zNp {b r:Nat} {m left:List (α×β)} {cur:Option (α×β)} (h:Holds B (MapIt enc cV b r m left cur::Γ) w):itCount r m.length w = left.length:=by
 obtain ⟨es,c,seen,hp,h⟩:=MapIt.opens h
 have:=hp.cnt
 unfold itCount
 rw [h.tail.block]
 simp only
 omega
theorem zPD {b r:Nat} {m left:List (α×β)} {p:α×β} {k:Value→K} (h:Holds B (MapIt enc cV b r m left (some p)::Γ) w) (hk:k (.tuple #[enc p.1,cV p.2]) w) :
  Do P (Instr.entry (.pointer (some ⟨r,0,none⟩))) id k w:=by
 obtain ⟨es,c,seen,hp,h⟩:=MapIt.opens h
 obtain ⟨seen',e,hs,he,hk1,hk2⟩:=hp.cur p rfl
 subst hs
 refine ⟨_,w,run_entry_at (P:=P) w r b c seen' es c e h.tail.block h.block he hp.st.1,?_⟩
 show k (.tuple #[e.key,e.val]) w
 rw [hk1,hk2]
 exact hk
theorem zQf {zv:Value} {T E:TypeId} {d:TypeDesc} {b:Nat} {m:List (α×β)} {a:α} (hT:mapIs P T d E) (hE:KeyE d enc) (hz:zeroT P E zv) {es:Array MapEntry} {c:Nat} (hb:w.heap[b]? = some (.map es c)) (hr:mrel enc cV es m) (ok:Bool) :
  (Instr.lookup T (.map (some b)) (enc a) ok).run P w = .ok (if ok then .tuple #[((mget a m).map cV).getD zv,.bool (mget a m).isSome] else ((mget a m).map cV).getD zv) w:=by
 obtain ⟨kt,hT,hd⟩:=hT
 unfold Instr.lookup
 simp only [Sem.run_bind,run_underlying hT,Result.andThen,MapKept.run_getObj_map hb,run_checkKey hd (hE.key a),Sem.run_pure]
 rcases mfound hE hr a with ⟨h1,h2,_⟩ | ⟨j,x,h1,_,_,h2,_⟩
 ·simp only [run_findKey hd h1,Result.andThen,Sem.run_bind,zDB hz,Sem.run_pure,h2]
  cases ok <;> rfl
 ·simp only [run_findKey hd h1,Result.andThen,Sem.run_bind,Sem.run_pure,h2]
  cases ok <;> rfl
end
end Go.Sep
namespace Go.Proofs.YtdemfamgieonbaaGreat
open Go Go.Sep
set_option maxRecDepth 100000
theorem zFp:KeyE .string strV:=⟨fun _=>trivial,fun a b h=>by
 have h1:bs a = bs b:=by injection h
 have h2:=congrArg (fun x:ByteArray=>x.data.toList) h1
 simpa using h2,fun a=>zOc.bits (bs a)⟩
theorem zPw {l l':List (List UInt8)} (h:l.Perm l'):sortL l = sortL l':=by
 have tr:∀ a b c:List UInt8,decide (a ≤ b) = true→decide (b ≤ c) = true→decide (a ≤ c) = true:=fun a b c h1 h2=>by
  simp only [decide_eq_true_eq] at *
  exact List.le_trans h1 h2
 have tot:∀ a b:List UInt8,(decide (a ≤ b) || decide (b ≤ a)) = true:=fun a b=>by
  simp only [Bool.or_eq_true,decide_eq_true_eq]
  exact List.le_total a b
 refine List.Perm.eq_of_pairwise (le:=fun a b=>decide (a ≤ b) = true) (fun a b _ _ h1 h2=>?_) (List.pairwise_mergeSort tr tot l) (List.pairwise_mergeSort tr tot l') ?_
 ·simp only [decide_eq_true_eq] at h1 h2
  exact List.le_antisymm h1 h2
 ·exact ((List.mergeSort_perm l _).trans h).trans (List.mergeSort_perm l' _).symm
theorem zMV (l:List (List UInt8)):(sortL l).length = l.length:=(List.mergeSort_perm l _).length_eq
theorem zQg {l:List (List UInt8)} {x:List UInt8}:x ∈ sortL l ↔ x ∈ l:=(List.mergeSort_perm l _).mem_iff
abbrev SlS (s:Sl) (ss:List (List UInt8)):HProp:=SlC zBy 1 s (ss.map strV)
end Go.Proofs.YtdemfamgieonbaaGreat
namespace Go.Sep
open Go Go.RowKit
class Nx (B:World) (Γ:List HProp) (k:K) (Δ:outParam (List HProp)) (j:outParam K):Prop where h:HG B Δ j→HG B Γ k
class NthV (l:List Value) (n:Nat) (v:outParam Value):Prop where h:nth l n = some v
class Cv {α:Type} (c:α→Value) (v:Value) (x:outParam α):Prop where h:v = c x
class SetV (l:List Value) (n:Nat) (v:Value) (l':outParam (List Value)):Prop where h:l.set n v = l'∧n < l.length
class TakeV (l:List Value) (m n:Nat) (l':outParam (List Value)):Prop where h:(l.drop m).take n = l'∧l'.length = n
class FlatV (v:Value):Prop where h:flatV v = true
class FlatL (l:List Value):Prop where h:l.all flatV = true
class LenV (l:List Value) (n:outParam Nat):Prop where h:l.length = n
class BoolV (b:Bool) (v:outParam Bool):Prop where h:b = v
instance nthV0 {v:Value} {l:List Value}:NthV (v::l) 0 v:=⟨rfl⟩
instance nthV1 {v u:Value} {l:List Value} {n:Nat} [h:NthV l n v]:NthV (u::l) (n + 1) v:=⟨h.h⟩
instance cvBool {b:Bool}:Cv Value.bool (.bool b) b:=⟨rfl⟩
instance cvInt {k:IntKind} {n:Int}:Cv (Value.int k) (.int k n) n:=⟨rfl⟩
instance cvStr {b:ByteArray}:Cv Value.string (.string b) b:=⟨rfl⟩
instance cvPtr {p:Option Addr}:Cv Value.pointer (.pointer p) p:=⟨rfl⟩
instance cvMap {p:Option Nat}:Cv Value.map (.map p) p:=⟨rfl⟩
instance (priority:=high) cvSl {s:Sl}:Cv Sl.val s.val s:=⟨rfl⟩
instance cvSl2 {a:Option Addr} {n c:Nat}:Cv Sl.val (.slice a n c) ⟨a,n,c⟩:=⟨rfl⟩
instance cvId {v:Value}:Cv id v v:=⟨rfl⟩
instance cvAgg {v:Array Value}:Cv Value.agg (.agg v) v:=⟨rfl⟩
instance setV0 {v u:Value} {l:List Value}:SetV (u::l) 0 v (v::l):=⟨⟨rfl,Nat.zero_lt_succ _⟩⟩
instance setV1 {v u:Value} {l l':List Value} {n:Nat} [h:SetV l n v l']:SetV (u::l) (n + 1) v (u::l'):=⟨⟨by rw [List.set_cons_succ,h.h.1],Nat.succ_lt_succ h.h.2⟩⟩
instance takeV0 {l:List Value}:TakeV l 0 0 []:=⟨⟨rfl,rfl⟩⟩
instance takeV1 {u:Value} {l l':List Value} {n:Nat} [h:TakeV l 0 n l']:TakeV (u::l) 0 (n + 1) (u::l'):=⟨⟨by have:=h.h.1; rw [List.drop_zero] at this ⊢; rw [List.take_succ_cons,this],by rw [List.length_cons,h.h.2]⟩⟩
instance takeV2 {u:Value} {l l':List Value} {m n:Nat} [h:TakeV l m n l']:TakeV (u::l) (m + 1) n l':=⟨h.h⟩
instance flatVB {b:Bool}:FlatV (.bool b):=⟨rfl⟩
instance flatVI {k:IntKind} {n:Int}:FlatV (.int k n):=⟨rfl⟩
instance flatVS {b:ByteArray}:FlatV (.string b):=⟨rfl⟩
instance flatVP {p:Option Addr}:FlatV (.pointer p):=⟨rfl⟩
instance flatVM {p:Option Nat}:FlatV (.map p):=⟨rfl⟩
instance flatVSl {a:Option Addr} {n c:Nat}:FlatV (.slice a n c):=⟨rfl⟩
instance flatL0:FlatL []:=⟨rfl⟩
instance flatL1 {v:Value} {l:List Value} [h:FlatV v] [g:FlatL l]:FlatL (v::l):=⟨by rw [List.all_cons,h.h,g.h]; rfl⟩
instance lenV0:LenV [] 0:=⟨rfl⟩
instance lenV1 {v:Value} {l:List Value} {n:Nat} [h:LenV l n]:LenV (v::l) (n + 1):=⟨by rw [List.length_cons,h.h]⟩
instance boolVT:BoolV true true:=⟨rfl⟩
instance boolVF:BoolV false false:=⟨rfl⟩
instance boolVN1 {b:Bool} [h:BoolV b true]:BoolV (!b) false:=⟨by rw [h.h]; rfl⟩
instance boolVN0 {b:Bool} [h:BoolV b false]:BoolV (!b) true:=⟨by rw [h.h]; rfl⟩
instance boolVS {α:Type} {x:α}:BoolV (some x).isNone false:=⟨rfl⟩
instance boolV0 {α:Type}:BoolV (none:Option α).isNone true:=⟨rfl⟩
instance (priority:=high) zUV {b n:Nat}:AdrIs ((⟨b,0,none⟩:Addr).add n) b n:=⟨by rw [add_mk,Nat.zero_add]⟩
section
variable {B:World} {Γ Δ Γ0:List HProp} {k j:K}
theorem s_wsD {k:(World→Prop)→K} (Γ0:List HProp) (h:HG B Γ (k (Holds B Γ0))) [d:Drops Γ Γ0]:HG B Γ (WithS k):=fun w hw=>⟨Holds B Γ0,hw.drops,h w hw⟩
theorem s_nx (h:HG B Δ j) [n:Nx B Γ k Δ j]:HG B Γ k:=n.h h
instance nx_nn {a:Addr} {k:Addr→K}:Nx B Γ (Nn (some a) k) Γ (k a):=⟨s_nn⟩
instance nx_dr:Nx B Γ (Dr k) Γ k:=⟨s_dr⟩
instance nx_ws {k:(World→Prop)→K}:Nx B Γ (WithS k) Γ (k (Holds B Γ)):=⟨s_ws⟩
instance nx_sv [d:Drops Γ Δ]:Nx B Γ (Sv (Holds B Δ) k) Γ k:=⟨fun h=>s_sv h⟩
instance nx_ld {α:Type} {a:Addr} {b off:Nat} {l:List Value} {T:TypeId} {fz:Nat×Nat} {c:α→Value} {v:Value} {x:α} {k:α→K} [ad:AdrIs a b off] [p:Own b Γ (blk b (.cells l.toArray T fz)) Δ] [n:NthV l off v] [e:Cv c v x]:Nx B Γ (Ld a c k) Γ (k x):=⟨fun h=>s_ld h (by rw [n.h,e.h])⟩
instance nx_ldS {α:Type} {a:Addr} {b off:Nat} {l:List Value} {T:TypeId} {fz:Nat×Nat} {c:α→Value} {v:Value} {x:α} {k:α→K} [ad:AdrIs a b off] [p:Own b Γ0 (blk b (.cells l.toArray T fz)) Δ] [n:NthV l off v] [e:Cv c v x]:Nx B Γ (LdS (Holds B Γ0) a c k) Γ (k x):=⟨fun h=>s_ldS h (by rw [n.h,e.h])⟩
instance nx_ldN {a:Addr} {b off n:Nat} {l l':List Value} {T:TypeId} {fz:Nat×Nat} {k:Array Value→K} [ad:AdrIs a b off] [p:Own b Γ (blk b (.cells l.toArray T fz)) Δ] [t:TakeV l off n l']:Nx B Γ (LdN a n k) Γ (k l'.toArray):=⟨fun h=>s_ldN h t.h.1 t.h.2⟩
instance zVQ {a:Addr} {b off n:Nat} {l l':List Value} {T:TypeId} {fz:Nat×Nat} {k:Array Value→K} [ad:AdrIs a b off] [p:Own b Γ0 (blk b (.cells l.toArray T fz)) Δ] [t:TakeV l off n l']:Nx B Γ (LdNS (Holds B Γ0) a n k) Γ (k l'.toArray):=⟨fun h=>s_ldNS h t.h.1 t.h.2⟩
instance nx_st {a:Addr} {b off:Nat} {l l':List Value} {T:TypeId} {v:Value} [ad:AdrIs a b off] [p:Own b Γ (blk b (.cells l.toArray T (0,0))) Δ] [s:SetV l off v l'] [f:FlatV v]:Nx B Γ (St a v k) (blk b (.cells l'.toArray T (0,0))::Δ) k:=⟨fun h=>s_st h (Nat.ble_eq_true_of_le s.h.2) s.h.1 f.h⟩
instance nx_stN {a:Addr} {b n:Nat} {l l':List Value} {T:TypeId} [ad:AdrIs a b 0] [p:Own b Γ (blk b (.cells l.toArray T (0,0))) Δ] [h1:LenV l n] [h2:LenV l' n] [f:FlatL l']:Nx B Γ (StN a n l'.toArray k) (blk b (.cells l'.toArray T (0,0))::Δ) k:=⟨fun h=>s_stN h h1.h h2.h f.h⟩
instance nx_fld {α:Type} {l:List Value} {off:Nat} {c:α→Value} {v:Value} {x:α} {k:α→K} [n:NthV l off v] [e:Cv c v x]:Nx B Γ (Fld l.toArray off c k) Γ (k x):=⟨fun h=>s_fld h (by rw [n.h,e.h])⟩
instance zVR {zero cs:List Value} {n:Nat} {k:Array Value→K} [h1:LenV zero n] [h2:LenV cs n]:Nx B Γ (Bld zero.toArray (fun i=>some (i * n,n)) [(0,.agg cs.toArray)] k) Γ (k cs.toArray):=⟨fun h=>s_bld1 h h1.h h2.h⟩
instance nx_t {b:Bool} {x y:K} [h:BoolV b true]:Nx B Γ (Ite b x y) Γ x:=⟨fun g=>s_t g h.h⟩
instance nx_f {b:Bool} {x y:K} [h:BoolV b false]:Nx B Γ (Ite b x y) Γ y:=⟨fun g=>s_f g h.h⟩
end
class CellsV (v:Value) (us:outParam (List Value)):Prop where h:v.cells = us.toArray
class OverV (z:List Value) (off:Nat) (us:List Value) (z':outParam (List Value)):Prop where h:off + us.length ≤ z.length∧z' = z.take off++us++z.drop (off + us.length)
class PlaceV (pl:List (Nat×Nat)) (i:Nat) (off n:outParam Nat):Prop where h:pl[i]? = some (off,n)
class FillV (pl:List (Nat×Nat)) (z:List Value) (ps:List (Nat×Value)) (cs:outParam (List Value)):Prop where h:Instr.fill (pl[·]?) z.toArray ps = some cs.toArray
instance cellsVA {l:List Value}:CellsV (.agg l.toArray) l:=⟨rfl⟩
instance cellsVB {b:Bool}:CellsV (.bool b) [.bool b]:=⟨rfl⟩
instance cellsVI {k:IntKind} {n:Int}:CellsV (.int k n) [.int k n]:=⟨rfl⟩
instance cellsVS {b:ByteArray}:CellsV (.string b) [.string b]:=⟨rfl⟩
instance cellsVP {p:Option Addr}:CellsV (.pointer p) [.pointer p]:=⟨rfl⟩
instance cellsVM {p:Option Nat}:CellsV (.map p) [.map p]:=⟨rfl⟩
instance cellsVSl {a:Option Addr} {n c:Nat}:CellsV (.slice a n c) [.slice a n c]:=⟨rfl⟩
instance overV0 {z:List Value}:OverV z 0 [] z:=⟨⟨by simp,by simp⟩⟩
instance overV1 {v u:Value} {z us z':List Value} [h:OverV z 0 us z']:OverV (v::z) 0 (u::us) (u::z'):=⟨by
 obtain ⟨h1,h2⟩:=h.h
 simp only [Nat.zero_add,List.take_zero,List.nil_append] at h1 h2
 refine ⟨by simp; omega,?_⟩
 simp only [List.length_cons,Nat.zero_add,List.take_zero,List.nil_append,List.drop_succ_cons,List.cons_append]
 rw [h2]⟩
instance overV2 {v:Value} {z us z':List Value} {off:Nat} [h:OverV z off us z']:OverV (v::z) (off + 1) us (v::z'):=⟨by
 obtain ⟨h1,h2⟩:=h.h
 refine ⟨by simp; omega,?_⟩
 rw [h2,show off + 1 + us.length = (off + us.length) + 1 by omega]
 simp⟩
instance placeV0 {o n:Nat} {pl:List (Nat×Nat)}:PlaceV ((o,n)::pl) 0 o n:=⟨rfl⟩
instance placeV1 {x:Nat×Nat} {o n i:Nat} {pl:List (Nat×Nat)} [h:PlaceV pl i o n]:PlaceV (x::pl) (i + 1) o n:=⟨h.h⟩
instance fillV0 {pl:List (Nat×Nat)} {z:List Value}:FillV pl z [] z:=⟨rfl⟩
theorem zQh {pl:Nat→Option (Nat×Nat)} {z us z':List Value} {i off:Nat} {v:Value} {ps:List (Nat×Value)} (hp:pl i = some (off,us.length)) (hc:v.cells = us.toArray) (h:off + us.length ≤ z.length∧z' = z.take off++us++z.drop (off + us.length)) :
  Instr.fill pl z.toArray ((i,v)::ps) = Instr.fill pl z'.toArray ps:=by
 obtain ⟨h1,rfl⟩:=h
 rw [Instr.fill,hp,hc]
 simp only [List.size_toArray]
 rw [if_neg (by simp; omega)]
 congr 1
 have hl:(z.take off).length = off:=by rw [List.length_take]; omega
 have key:∀ (us m pre C:List Value),pre.length = off→m.length = us.length→∀ (o:Nat) (pre2:List Value),pre2.length = off + o→(us.zipIdx o).foldl (fun (cs:Array Value) (p:Value×Nat)=>cs.setIfInBounds (off + p.2) p.1) (pre2++m++C).toArray = (pre2++us++C).toArray:=by
  intro us
  induction us with
  | nil=>intro m pre C _ hm o pre2 _; rw [List.length_eq_zero_iff.1 hm]; rfl
  | cons u us ih =>
   intro m pre C hp hm o pre2 hp2
   cases m with
   | nil=>simp at hm
   | cons x m =>
    simp only [List.zipIdx_cons,List.foldl_cons]
    have e:(pre2++x::m++C).toArray.setIfInBounds (off + o) u = ((pre2++[u])++m++C).toArray:=by
     apply Array.ext'
     rw [← hp2]
     simp
    rw [e,ih m pre C hp (by simpa using hm) (o + 1) (pre2++[u]) (by simp; omega)]
    simp
 have e:z = z.take off++(z.drop off).take us.length++z.drop (off + us.length):=by
  rw [← List.drop_drop,List.append_assoc,List.take_append_drop,List.take_append_drop]
 have h3:=key us ((z.drop off).take us.length) (z.take off) (z.drop (off + us.length)) hl (by rw [List.length_take,List.length_drop]; omega) 0 (z.take off) (by omega)
 rw [← e] at h3
 rw [← Array.foldl_toList,Array.toList_zipIdx]
 exact h3
instance fillV1 {pl:List (Nat×Nat)} {z z' us cs:List Value} {i off n:Nat} {v:Value} {ps:List (Nat×Value)} [p:PlaceV pl i off n] [c:CellsV v us] [l:LenV us n] [o:OverV z off us z'] [f:FillV pl z' ps cs]:FillV pl z ((i,v)::ps) cs :=
 ⟨by rw [zQh (by rw [l.h]; exact p.h) c.h o.h]; exact f.h⟩
instance nx_bld {pl:List (Nat×Nat)} {B:World} {Γ:List HProp} {z cs:List Value} {ps:List (Nat×Value)} {k:Array Value→K} [f:FillV pl z ps cs]:Nx B Γ (Bld z.toArray (pl[·]?) ps k) Γ (k cs.toArray):=⟨fun h w hw=>⟨_,f.h,h w hw⟩⟩
end Go.Sep
namespace Go.Sep
open Go Go.RowKit
inductive Ck where
 | int (k:IntKind)
 | str
 | bool
def Ck.fit:Ck→Value→Bool
 | .int k,.int k' _=>k' == k
 | .str,.string _=>true
 | .bool,.bool _=>true
 | _,_=>false
def fits:List Ck→List Value→Bool
 | [],[]=>true
 | c::cs,v::vs=>c.fit v && fits cs vs
 | _,_=>false
def cksF (P:Program) (f:TypeId→Option (List Ck)):List Field→Nat→Option (List Ck)
 | [],_=>some []
 | x::fs,off=>match f x.type with
  | none=>none
  | some ks => if x.name != "_" && Nat.beq x.offset off && sizeT P x.type ks.length then (cksF P f fs (off + ks.length)).map (ks ++ ·) else none
def cksT (P:Program):Nat→TypeId→Option (List Ck)
 | 0,_=>none
 | d + 1,t=>match P.underlying t with
  | some (.int k)=>some [.int k]
  | some .string=>some [.str]
  | some .bool=>some [.bool]
  | some (.struct fs)=>if P.stoodInHeld t then none else cksF P (cksT P d) fs.toList 0
  | _=>none
def isStT (P:Program) (t:TypeId):Bool:=match P.underlying t with
 | some (.struct _)=>true
 | _=>false
def cellsV (P:Program) (t:TypeId) (vs:List Value):Value:=if isStT P t then .agg vs.toArray else vs.headD .nilIface
theorem zPE {k:IntKind} {v:Value} (h:(Ck.int k).fit v = true):∃ n,v = .int k n:=by
 cases v <;> simp [Ck.fit] at h
 subst h; exact ⟨_,rfl⟩
theorem zPF {v:Value} (h:Ck.str.fit v = true):∃ n,v = .string n:=by
 cases v <;> simp [Ck.fit] at h
 exact ⟨_,rfl⟩
theorem zNq {v:Value} (h:Ck.bool.fit v = true):∃ n,v = .bool n:=by
 cases v <;> simp [Ck.fit] at h
 exact ⟨_,rfl⟩
theorem zEG:∀ {ks:List Ck} {vs:List Value},fits ks vs = true→vs.length = ks.length
 | [],[],_=>rfl
 | c::ks,v::vs,h=>by
  simp only [fits,Bool.and_eq_true] at h
  simp [zEG h.2]
 | [],_::_,h=>by simp [fits] at h
 | _::_,[],h=>by simp [fits] at h
theorem zH8:∀ {ks ks':List Ck} {vs:List Value},fits (ks++ks') vs = true→fits ks (vs.take ks.length) = true∧fits ks' (vs.drop ks.length) = true
 | [],ks',vs,h=>by simpa [fits] using h
 | c::ks,ks',[],h=>by simp [fits] at h
 | c::ks,ks',v::vs,h=>by
  simp only [List.cons_append,fits,Bool.and_eq_true] at h
  obtain ⟨h1,h2⟩:=zH8 h.2
  simp only [List.length_cons,List.take_succ_cons,List.drop_succ_cons,fits,Bool.and_eq_true]
  exact ⟨⟨h.1,h1⟩,h2⟩
section
variable {P:Program}
theorem zQi {t:TypeId} {d:Nat} {ks:List Ck} (h:cksT P d t = some ks) (w:World):(isAgg t).run P w = .ok (isStT P t) w:=by
 cases d with
 | zero=>cases h
 | succ d =>
  unfold cksT at h
  unfold isAgg isStT
  split at h <;> rename_i hu
  ·simp [run_underlying hu,hu]
  ·simp [run_underlying hu,hu]
  ·simp [run_underlying hu,hu]
  ·simp [run_underlying hu,hu]
  ·cases h
theorem one_of {t:TypeId} {d:Nat} {ks:List Ck} (h:cksT P d t = some ks) (hs:isStT P t = false):∃ c,ks = [c]:=by
 cases d with
 | zero=>cases h
 | succ d =>
  unfold cksT at h
  unfold isStT at hs
  split at h <;> rename_i hu
  ·exact ⟨_,(Option.some.inj h).symm⟩
  ·exact ⟨_,(Option.some.inj h).symm⟩
  ·exact ⟨_,(Option.some.inj h).symm⟩
  ·rw [hu] at hs; cases hs
  ·cases h
theorem zGE {t:TypeId} {d:Nat} {ks:List Ck} (h:cksT P d t = some ks) (hz:sizeT P t ks.length = true) {cs:List Value} {off:Nat} (hl:off + ks.length ≤ cs.length) (w:World) :
  (part t cs.toArray off).run P w = .ok (cellsV P t ((cs.drop off).take ks.length)) w:=by
 unfold part cellsV
 simp only [Sem.run_bind,zQi h,Result.andThen]
 cases hs:isStT P t with
 | true =>
  simp only [if_true,Sem.run_bind,zCK hz,Result.andThen,Sem.run_pure]
  congr 2
  apply Array.ext'
  simp [List.extract]
 | false =>
  obtain ⟨c,rfl⟩:=one_of h hs
  simp only [List.length_cons,List.length_nil,Nat.zero_add] at hl ⊢
  have hlt:off < cs.length:=by omega
  have e:cs.toArray[off]? = some cs[off]:=by simp [hlt]
  simp only [Bool.false_eq_true,if_false,e,Sem.run_pure]
  rw [List.drop_eq_getElem_cons hlt]
  rfl
theorem zPG {D d:Nat} (ih:∀ t ks xs ys,cksT P d t = some ks→fits ks xs = true→fits ks ys = true→∀ w,∃ r:Bool,(Op.equalIn D t (cellsV P t xs) (cellsV P t ys)).run P w = .ok r w∧(r = true ↔ xs = ys)) (xs ys:List Value) :
  ∀ (fs:List Field) (off:Nat) (ks:List Ck),cksF P (cksT P d) fs off = some ks→off ≤ xs.length→off ≤ ys.length→fits ks (xs.drop off) = true→fits ks (ys.drop off) = true→∀ w,∃ r:Bool,(Op.eqFields D xs.toArray ys.toArray fs).run P w = .ok r w∧(r = true ↔ xs.drop off = ys.drop off)
 | [],off,ks,h,_,_,hx,hy,w=>by
  simp only [cksF,Option.some.injEq] at h
  subst h
  have h1:=List.length_eq_zero_iff.1 (zEG hx)
  have h2:=List.length_eq_zero_iff.1 (zEG hy)
  exact ⟨true,by simp [Op.eqFields],by simp [h1,h2]⟩
 | f::fs,off,ks,h,lx,ly,hx,hy,w=>by
  unfold cksF at h
  split at h
  ·cases h
  rename_i k1 hk1
  split at h
  ·rename_i hc
   simp only [Bool.and_eq_true,bne_iff_ne,ne_eq,Nat.beq_eq] at hc
   obtain ⟨⟨hn,rfl⟩,hz⟩:=hc
   simp only [Option.map_eq_some_iff] at h
   obtain ⟨k2,hk2,rfl⟩:=h
   have ax:=zH8 hx
   have ay:=zH8 hy
   have cx:=zEG hx
   have cy:=zEG hy
   simp only [List.length_append,List.length_drop] at cx cy
   obtain ⟨r,hr,hiff⟩:=ih f.type k1 _ _ hk1 ax.1 ay.1 w
   obtain ⟨r2,hr2,hiff2⟩:=zPG ih xs ys fs _ k2 hk2 (by omega) (by omega) (by rw [← List.drop_drop]; exact ax.2) (by rw [← List.drop_drop]; exact ay.2) w
   unfold Op.eqFields
   rw [if_pos hn]
   simp only [Sem.run_bind,zGE hk1 hz (show f.offset + k1.length ≤ xs.length by omega),zGE hk1 hz (show f.offset + k1.length ≤ ys.length by omega),Result.andThen,hr]
   have hsp:xs.drop f.offset = ys.drop f.offset ↔ ((xs.drop f.offset).take k1.length = (ys.drop f.offset).take k1.length∧xs.drop (f.offset + k1.length) = ys.drop (f.offset + k1.length)):=by
    constructor
    ·intro e; rw [e,← List.drop_drop,← List.drop_drop,e]; exact ⟨rfl,rfl⟩
    ·rintro ⟨e1,e2⟩
     rw [← List.take_append_drop k1.length (xs.drop f.offset),← List.take_append_drop k1.length (ys.drop f.offset),e1,List.drop_drop,List.drop_drop,e2]
   cases r with
   | false =>
    refine ⟨false,by simp,?_⟩
    rw [hsp,← hiff]; simp
   | true =>
    refine ⟨r2,by simpa using hr2,?_⟩
    rw [hsp,← hiff,hiff2]; simp
  ·cases h
theorem zTS {a b:ByteArray}:(a.toList == b.toList) = true ↔ a = b:=by
 obtain ⟨x,rfl⟩:=bs_of a
 obtain ⟨y,rfl⟩:=bs_of b
 rw [zBa,zBa,beq_iff_eq]
 exact ⟨fun h=>by rw [h],fun h=>by have:=congrArg ByteArray.toList h; rwa [zBa,zBa] at this⟩
theorem zKC (D:Nat):∀ (d:Nat) (t:TypeId) (ks:List Ck) (xs ys:List Value),cksT P d t = some ks→fits ks xs = true→fits ks ys = true→∀ w,∃ r:Bool,(Op.equalIn (D + d) t (cellsV P t xs) (cellsV P t ys)).run P w = .ok r w∧(r = true ↔ xs = ys)
 | 0,t,ks,xs,ys,h,_,_,w=>by cases h
 | d + 1,t,ks,xs,ys,h,hx,hy,w=>by
  unfold cksT at h
  have lx:=zEG hx
  have ly:=zEG hy
  split at h <;> rename_i hu
  ·injection h with h; subst h
   obtain ⟨x,rfl⟩:=List.length_eq_one_iff.1 lx
   obtain ⟨y,rfl⟩:=List.length_eq_one_iff.1 ly
   simp only [fits,Bool.and_true] at hx hy
   have hs:isStT P t = false:=by unfold isStT; rw [hu]
   obtain ⟨a,rfl⟩:=zPE hx
   obtain ⟨b,rfl⟩:=zPE hy
   refine ⟨a == b,?_,by simp⟩
   simp only [cellsV,hs,Bool.false_eq_true,if_false,List.headD_cons]
   exact run_equalIn_int w (D + d) t _ _ _ _ hu
  ·injection h with h; subst h
   obtain ⟨x,rfl⟩:=List.length_eq_one_iff.1 lx
   obtain ⟨y,rfl⟩:=List.length_eq_one_iff.1 ly
   simp only [fits,Bool.and_true] at hx hy
   have hs:isStT P t = false:=by unfold isStT; rw [hu]
   obtain ⟨a,rfl⟩:=zPF hx
   obtain ⟨b,rfl⟩:=zPF hy
   refine ⟨a.toList == b.toList,?_,by rw [zTS]; simp⟩
   simp only [cellsV,hs,Bool.false_eq_true,if_false,List.headD_cons]
   exact run_equalIn_string w (D + d) t _ _ hu
  ·injection h with h; subst h
   obtain ⟨x,rfl⟩:=List.length_eq_one_iff.1 lx
   obtain ⟨y,rfl⟩:=List.length_eq_one_iff.1 ly
   simp only [fits,Bool.and_true] at hx hy
   have hs:isStT P t = false:=by unfold isStT; rw [hu]
   obtain ⟨a,rfl⟩:=zNq hx
   obtain ⟨b,rfl⟩:=zNq hy
   refine ⟨a == b,?_,by simp⟩
   simp only [cellsV,hs,Bool.false_eq_true,if_false,List.headD_cons]
   exact run_equalIn_bool' w (D + d) t _ _ hu
  ·rename_i fs
   split at h
   ·cases h
   rename_i hst
   have hs:isStT P t = true:=by unfold isStT; rw [hu]
   have hf:P.fieldsOf t = fs:=by unfold Program.fieldsOf; rw [hu]
   simp only [cellsV,hs,if_true]
   rw [show D + (d + 1) = (D + d) + 1 by omega,run_equalIn_agg w (D + d) t _ _ (by rw [hf,hu]) (by simpa using hst),hf]
   have:=zPG (D:=D + d) (fun t ks xs ys h1 h2 h3 w=>zKC D d t ks xs ys h1 h2 h3 w) xs ys fs.toList 0 ks h (Nat.zero_le _) (Nat.zero_le _) (by simpa using hx) (by simpa using hy) w
   simpa using this
  ·cases h
theorem zFq {d:Nat} (hd:d ≤ 10000) {t:TypeId} {ks:List Ck} {xs ys:List Value} (h:cksT P d t = some ks) (hs:isStT P t = true) (hx:fits ks xs = true) (hy:fits ks ys = true) (w:World):∃ r:Bool,(Op.equal t (.agg xs.toArray) (.agg ys.toArray)).run P w = .ok r w∧(r = true ↔ xs = ys):=by
 have:=zKC (10000 - d) d t ks xs ys h hx hy w
 rw [show 10000 - d + d = 10000 by omega] at this
 unfold Op.equal Op.maxDepth
 simpa only [cellsV,hs,if_true] using this
theorem s_eqS {B:World} {Γ:List HProp} {T:TypeId} {ks:List Ck} {xs ys:List Value} {p:Prop} [Decidable p] {x y:Operand} {k:Bool→K} (hp:xs = ys ↔ p) (h:HG B Γ (k (decide p))) (hc:cksT P 9 T = some ks:=by kernel_rfl) (hs:isStT P T = true:=by kernel_rfl) (hg:P.eqGuardType P.depth T = false:=by kernel_rfl) (hx:fits ks xs = true:=by rfl) (hy:fits ks ys = true:=by rfl) :
  HG B Γ (Pu P (do eqGuard .eql T x y (.agg xs.toArray) (.agg ys.toArray); binOp .eql T (.agg xs.toArray) (.agg ys.toArray):Sem Value) Value.bool k):=fun w hw=>by
 refine ⟨decide p,fun w=>?_,h w hw⟩
 obtain ⟨r,hr,hiff⟩:=zFq (by omega) hc hs hx hy w
 have e:r = decide p:=by rw [Bool.eq_iff_iff,hiff,hp]; simp
 subst e
 simp only [Op.equal,Op.maxDepth] at hr
 simp only [Sem.run_bind,run_eqGuard_agg w _ _ _ _ _ _ hg,Result.andThen,run_eql_struct,hr]
theorem s_neS {B:World} {Γ:List HProp} {T:TypeId} {ks:List Ck} {xs ys:List Value} {p:Prop} [Decidable p] {x y:Operand} {k:Bool→K} (hp:xs = ys ↔ p) (h:HG B Γ (k (!decide p))) (hc:cksT P 9 T = some ks:=by kernel_rfl) (hs:isStT P T = true:=by kernel_rfl) (hg:P.eqGuardType P.depth T = false:=by kernel_rfl) (hx:fits ks xs = true:=by rfl) (hy:fits ks ys = true:=by rfl) :
  HG B Γ (Pu P (do eqGuard .neq T x y (.agg xs.toArray) (.agg ys.toArray); binOp .neq T (.agg xs.toArray) (.agg ys.toArray):Sem Value) Value.bool k):=fun w hw=>by
 refine ⟨!decide p,fun w=>?_,h w hw⟩
 obtain ⟨r,hr,hiff⟩:=zFq (by omega) hc hs hx hy w
 have e:r = decide p:=by rw [Bool.eq_iff_iff,hiff,hp]; simp
 subst e
 simp only [Op.equal,Op.maxDepth] at hr
 simp only [Sem.run_bind,run_eqGuard_agg w _ _ _ _ _ _ hg,Result.andThen,run_neq_struct,hr]
theorem zNr {D d:Nat} {e:Bool} (ih:∀ t ks xs,cksT P d t = some ks→fits ks xs = true→∀ w,(Instr.checkKey e D t (cellsV P t xs)).run P w = .ok () w) (xs:List Value) {body:Field→PUnit→Sem (ForInStep PUnit)}
  (hb : ∀ f v w, f.name ≠ "_" → (part f.type xs.toArray f.offset).run P w = .ok v w → (Instr.checkKey e D f.type v).run P w = .ok () w → (body f PUnit.unit).run P w = .ok (.yield PUnit.unit) w) :
  ∀ (fs:List Field) (off:Nat) (ks:List Ck),cksF P (cksT P d) fs off = some ks→off ≤ xs.length→fits ks (xs.drop off) = true→∀ w,(forIn fs PUnit.unit body).run P w = .ok PUnit.unit w
 | [],off,ks,h,_,hx,w=>by simp
 | f::fs,off,ks,h,lx,hx,w=>by
  unfold cksF at h
  split at h
  ·cases h
  rename_i k1 hk1
  split at h
  ·rename_i hc
   simp only [Bool.and_eq_true,bne_iff_ne,ne_eq,Nat.beq_eq] at hc
   obtain ⟨⟨hn,rfl⟩,hz⟩:=hc
   simp only [Option.map_eq_some_iff] at h
   obtain ⟨k2,hk2,rfl⟩:=h
   have ax:=zH8 hx
   have cx:=zEG hx
   simp only [List.length_append,List.length_drop] at cx
   have h2:=zNr ih xs hb fs _ k2 hk2 (by omega) (by rw [← List.drop_drop]; exact ax.2) w
   have h3:=hb f _ w hn (zGE hk1 hz (show f.offset + k1.length ≤ xs.length by omega) w) (ih f.type k1 _ hk1 ax.1 w)
   simp only [List.forIn_cons,Sem.run_bind,h3,Result.andThen]
   exact h2
  ·cases h
theorem zIy (D:Nat) {e:Bool}:∀ (d:Nat) (t:TypeId) (ks:List Ck) (xs:List Value),cksT P d t = some ks→fits ks xs = true→∀ w,(Instr.checkKey e (D + d) t (cellsV P t xs)).run P w = .ok () w
 | 0,t,ks,xs,h,_,w=>by cases h
 | d + 1,t,ks,xs,h,hx,w=>by
  unfold cksT at h
  have lx:=zEG hx
  rw [show D + (d + 1) = (D + d) + 1 by omega]
  split at h <;> rename_i hu
  ·injection h with h; subst h
   obtain ⟨x,rfl⟩:=List.length_eq_one_iff.1 lx
   have hs:isStT P t = false:=by unfold isStT; rw [hu]
   simp only [cellsV,hs,Bool.false_eq_true,if_false,List.headD_cons]
   unfold Instr.checkKey
   simp [run_underlying hu,Result.andThen]
  ·injection h with h; subst h
   obtain ⟨x,rfl⟩:=List.length_eq_one_iff.1 lx
   have hs:isStT P t = false:=by unfold isStT; rw [hu]
   simp only [cellsV,hs,Bool.false_eq_true,if_false,List.headD_cons]
   unfold Instr.checkKey
   simp [run_underlying hu,Result.andThen]
  ·injection h with h; subst h
   obtain ⟨x,rfl⟩:=List.length_eq_one_iff.1 lx
   have hs:isStT P t = false:=by unfold isStT; rw [hu]
   simp only [cellsV,hs,Bool.false_eq_true,if_false,List.headD_cons]
   unfold Instr.checkKey
   simp [run_underlying hu,Result.andThen]
  ·rename_i fs
   split at h
   ·cases h
   have hs:isStT P t = true:=by unfold isStT; rw [hu]
   simp only [cellsV,hs,if_true]
   unfold Instr.checkKey
   simp only [Sem.run_bind,run_underlying hu,Result.andThen]
   rw [← Array.forIn_toList]
   rw [zNr (D:=D + d) (e:=e) (fun t ks xs h1 h2 w=>zIy D d t ks xs h1 h2 w) xs (fun f v w h1 h2 h3=>by rw [if_pos h1]; simp only [Sem.run_bind,h2,h3,Result.andThen,Sem.run_pure]) fs.toList 0 ks h (Nat.zero_le _) (by simpa using hx) w]
   simp
  ·cases h
structure KeyS {α:Type} (P:Program) (kt:TypeId) (cel:α→List Value):Prop where
 st:isStT P kt = true
 ks:∃ ks,cksT P 9 kt = some ks∧∀ a,fits ks (cel a) = true
 inj:∀ a b,cel a = cel b→a = b
 bits:∀ a,Instr.sameBits 10000 (.agg (cel a).toArray) (.agg (cel a).toArray) = true
abbrev kyS {α:Type} (cel:α→List Value) (a:α):Value:=.agg (cel a).toArray
section
variable {α β:Type} [DecidableEq α] {B w:World} {Γ Δ:List HProp} {kt:TypeId} {cel:α→List Value} {cV:β→Value} {k:K}
theorem KeyS.chk (hE:KeyS P kt cel) (a:α) (e:Bool) (w:World):(Instr.checkKey e 10000 kt (kyS cel a)).run P w = .ok () w:=by
 obtain ⟨ks,h1,h2⟩:=hE.ks
 have:=zIy 9991 (e:=e) 9 kt ks (cel a) h1 (h2 a) w
 simpa only [cellsV,hE.st,if_true] using this
theorem KeyS.eq (hE:KeyS P kt cel) (a b:α) (w:World):(Op.equal kt (kyS cel a) (kyS cel b)).run P w = .ok (decide (a = b)) w:=by
 obtain ⟨ks,h1,h2⟩:=hE.ks
 obtain ⟨r,hr,hiff⟩:=zFq (d:=9) (by omega) h1 hE.st (h2 a) (h2 b) w
 have e:r = decide (a = b):=by rw [Bool.eq_iff_iff,hiff]; simp; exact ⟨hE.inj a b,fun h=>by rw [h]⟩
 rw [← e]; exact hr
theorem zLj (hE:KeyS P kt cel) (a:α) (w:World):∀ (l:List MapEntry) (m:List (α×β)) (i:Nat),l.map (fun e=>(e.key,e.val)) = m.map (fun p=>(kyS cel p.1,cV p.2)) →
  (mget a m = none∧(Instr.findAsking kt (kyS cel a) l i).run P w = .ok none w)∨∃ j x,m[j]? = some (a,x)∧(∀ i,i < j→∀ p,m[i]? = some p→p.1 ≠ a)∧(Instr.findAsking kt (kyS cel a) l i).run P w = .ok (some (i + j,cV x)) w
 | [],[],i,_=>.inl ⟨rfl,by simp [Instr.findAsking]⟩
 | [],_::_,i,h=>by simp at h
 | _::_,[],i,h=>by simp at h
 | e::l,p::m,i,h=>by
  simp only [List.map_cons,List.cons.injEq,Prod.mk.injEq] at h
  obtain ⟨⟨e1,e2⟩,h⟩:=h
  unfold Instr.findAsking
  simp only [Sem.run_bind,e1,hE.eq,Result.andThen]
  by_cases hp:a = p.1
  ·right
   refine ⟨0,p.2,by rw [hp]; rfl,fun i hi=>absurd hi (by omega),?_⟩
   simp [hp,e2]
  ·rcases zLj hE a w l m (i + 1) h with ⟨h1,h2⟩ | ⟨j,x,h1,h2,h3⟩
   ·left
    refine ⟨?_,?_⟩
    ·unfold mget; rw [if_neg hp]; exact h1
    ·simpa [hp] using h2
   ·right
    refine ⟨j + 1,x,by simpa using h1,fun i' hi q hq=>?_,?_⟩
    ·cases i' with
     | zero=>simp at hq; subst hq; exact fun e=>hp e.symm
     | succ i'=>exact h2 i' (by omega) q (by simpa using hq)
    ·simp only [hp,decide_false,Bool.false_eq_true,if_false,h3]
     congr 3; omega
theorem zGx (hE:KeyS P kt cel) {es:Array MapEntry} {m:List (α×β)} (hr:mrel (kyS cel) cV es m) (a:α) (w:World) :
  ((Instr.findKey kt (kyS cel a) es.toList).run P w = .ok none w∧mget a m = none∧(∀ v,mset a v m = m++[(a,v)])∧mdel a m = m) ∨
  ∃ j x,(Instr.findKey kt (kyS cel a) es.toList).run P w = .ok (some (j,cV x)) w∧j < m.length∧m[j]? = some (a,x)∧mget a m = some x∧(∀ v,mset a v m = m.set j (a,v))∧mdel a m = m.eraseIdx j:=by
 obtain ⟨fs,hu⟩:∃ fs,P.underlying kt = some (.struct fs):=by
  have h1:=hE.st
  unfold isStT at h1
  split at h1
  ·rename_i fs hu; exact ⟨fs,hu⟩
  ·cases h1
 have hfk:(Instr.findKey kt (kyS cel a) es.toList).run P w = (Instr.findAsking kt (kyS cel a) es.toList 0).run P w:=by
  unfold Instr.findKey
  simp only [Sem.run_bind,run_underlying hu,Result.andThen]
  cases es.toList with
  | nil=>simp [Instr.findNow,Instr.findAsking]
  | cons e l=>simp [Instr.findNow,Instr.sameNow]
 rw [hfk]
 rcases mfind a m with ⟨h1,h2,h3,h4⟩ | ⟨j,x,hj,h0,hb,h1,h2,h3⟩
 ·rcases zLj hE a w es.toList m 0 hr with ⟨_,g2⟩ | ⟨j,x,g1,_,_⟩
  ·exact .inl ⟨g2,h1,h2,h3⟩
  ·exact absurd rfl (h4 _ (List.mem_of_getElem? g1))
 ·rcases zLj hE a w es.toList m 0 hr with ⟨g1,_⟩ | ⟨j',x',g1,g2,g3⟩
  ·rw [g1] at h1; cases h1
  ·have hjj:j = j':=by
    rcases Nat.lt_trichotomy j j' with h | h | h
    ·exact absurd rfl (g2 j h _ h0)
    ·exact h
    ·exact absurd rfl (hb j' h _ g1)
   subst hjj
   rw [h0] at g1
   simp only [Option.some.injEq,Prod.mk.injEq,true_and] at g1
   subst g1
   exact .inr ⟨j,x,by simpa using g3,hj,h0,h1,h2,h3⟩
theorem zKT {T E:TypeId} {b:Nat} {m:List (α×β)} {z:β} {a:α} {k:β→K} (hE:KeyS P kt cel) (hz:zeroT P E (cV z)) (h:HG B Γ (k ((mget a m).getD z))) (hT:P.underlying T = some (.map kt E):=by kernel_rfl) [p:Own b Γ (MapR (kyS cel) cV b m) Δ] :
  HG B Γ (Rd P (Instr.lookup T (.map (some b)) (kyS cel a) false) cV k):=fun w hw=>by
 obtain ⟨es,c,⟨hr,hst⟩,h1⟩:=MapR.opens (hw.perm p.perm)
 have hb:=h1.block
 refine ⟨_,?_,h w hw⟩
 unfold Instr.lookup
 simp only [Sem.run_bind,run_underlying hT,Result.andThen,MapKept.run_getObj_map hb,hE.chk,Sem.run_pure]
 rcases zGx hE hr a w with ⟨g1,g2,_⟩ | ⟨j,x,g1,_,_,g2,_⟩
 ·simp only [g1,Result.andThen,Sem.run_bind,zDB hz,Sem.run_pure,g2]; rfl
 ·simp only [g1,Result.andThen,Sem.run_bind,Sem.run_pure,g2]; rfl
theorem s_updS {T E:TypeId} {b:Nat} {m:List (α×β)} {a:α} {v:β} {x:Value} (hE:KeyS P kt cel) (hx:x = cV v) (h:HG B (MapR (kyS cel) cV b (mset a v m)::Δ) k) (hT:P.underlying T = some (.map kt E):=by kernel_rfl) [p:Own b Γ (MapR (kyS cel) cV b m) Δ] :
  HG B Γ (DoU P (Instr.mapUpdate T (.map (some b)) (kyS cel a) x) k):=fun w hw=>by
 subst hx
 obtain ⟨es,c,⟨hr,hst⟩,h1⟩:=MapR.opens (hw.perm p.perm)
 have hb:=h1.block
 have hlen:es.size = m.length:=by have:=congrArg List.length hr; simpa using this
 unfold Instr.mapUpdate DoU
 simp only [Sem.run_bind,run_underlying hT,Result.andThen,MapKept.run_getObj_map hb,hE.chk]
 rcases zGx hE hr a w with ⟨g1,_,h2,_⟩ | ⟨j,x,g1,hj,h0,_,h2,_⟩
 ·simp only [g1,Result.andThen]
  obtain ⟨e1,h3⟩:=h1.setMap (P:=P) (es':=es.push { key:=kyS cel a,val:=cV v,born:=c }) (c':=c + 1)
  refine ⟨_,_,e1,h _ (MapR.shuts ⟨?_,zG7 hst _ _⟩ h3)⟩
  rw [h2]
  simp only [mrel,Array.toList_push,List.map_append,List.map_cons,List.map_nil]
  rw [show es.toList.map (fun e=>(e.key,e.val)) = _ from hr]
 ·have hes:∃ e,es.toList[j]? = some e∧e.key = kyS cel a:=by
   have:=zFE hr j
   rw [h0] at this
   cases he:es.toList[j]? with
   | none=>rw [he] at this; simp at this
   | some e =>
    rw [he] at this
    simp only [Option.map_some,Option.some.injEq,Prod.mk.injEq] at this
    exact ⟨e,rfl,this.1⟩
  obtain ⟨e,he,hek⟩:=hes
  have he2:es[j]? = some e:=by rw [← he,Array.getElem?_toList]
  simp only [g1,Result.andThen,Sem.run_bind,he2,Option.map_some,Option.getD_some,hek,Instr.keyThatStays,kyS,hE.bits,if_true,Sem.run_pure]
  obtain ⟨e1,h3⟩:=h1.setMap (P:=P) (es':=es.modify j fun e=>{ e with key:=kyS cel a,val:=cV v }) (c':=c)
  refine ⟨_,_,e1,h _ (MapR.shuts ⟨?_,zGD hst _ _ _⟩ h3)⟩
  rw [h2]
  simp only [mrel]
  apply List.ext_getElem?
  intro i
  have hi:=zFE hr i
  simp only [List.getElem?_map,Array.getElem?_toList,Array.getElem?_modify] at hi ⊢
  by_cases hij:j = i
  ·subst hij
   rw [List.getElem?_set_self hj,he2]
   simp
  ·rw [List.getElem?_set_ne hij,if_neg hij]
   exact hi
theorem zPx {T E t:TypeId} {b:Nat} {m:List (α×β)} {a:α} {k:Value→K} (hE:KeyS P kt cel) (h:HG B (MapR (kyS cel) cV b (mdel a m)::Δ) (k (.tuple #[]))) (hT:P.underlying T = some (.map kt E):=by kernel_rfl) [p:Own b Γ (MapR (kyS cel) cV b m) Δ] :
  HG B Γ (Do P (Builtin.delete_ #[T,kt] t #[.map (some b),kyS cel a]) id k):=fun w hw=>by
 obtain ⟨es,c,⟨hr,hst⟩,h1⟩:=MapR.opens (hw.perm p.perm)
 have hb:=h1.block
 have hlen:es.size = m.length:=by have:=congrArg List.length hr; simpa using this
 have e0:#[T,kt][0]? = some T:=rfl
 have e1:#[Value.map (some b),kyS cel a][0]? = some (.map (some b)):=rfl
 have e2:#[Value.map (some b),kyS cel a][1]? = some (kyS cel a):=rfl
 unfold Builtin.delete_ Do
 simp only [e0,e1,e2,Sem.run_bind,run_underlying hT,Result.andThen,MapKept.run_getObj_map hb,hE.chk]
 rcases zGx hE hr a w with ⟨g1,_,_,h2⟩ | ⟨j,x,g1,hj,h0,_,_,h2⟩
 ·simp only [g1,Result.andThen,Sem.run_bind]
  obtain ⟨e3,h3⟩:=h1.setMap (P:=P) (es':=es) (c':=c)
  refine ⟨.tuple #[],_,?_,h _ (MapR.shuts ⟨?_,hst⟩ h3)⟩
  ·simp only [Sem.run_bind,e3,Result.andThen,Sem.run_pure]; rfl
  rw [h2]; exact hr
 ·simp only [g1,Result.andThen,Sem.run_bind]
  obtain ⟨e3,h3⟩:=h1.setMap (P:=P) (es':=es.eraseIdxIfInBounds j) (c':=c)
  refine ⟨.tuple #[],_,?_,h _ (MapR.shuts ⟨?_,zNe hst _⟩ h3)⟩
  ·simp only [Sem.run_bind,e3,Result.andThen,Sem.run_pure]; rfl
  rw [h2]
  have hjs:j < es.size:=by omega
  simp only [mrel,Array.eraseIdxIfInBounds,dif_pos hjs,Array.toList_eraseIdx]
  have mape:∀ {α β:Type} (f:α→β) (l:List α) (i:Nat),(l.eraseIdx i).map f = (l.map f).eraseIdx i:=by
   intro α β f l
   induction l with
   | nil=>intro i; simp
   | cons x l ih=>intro i; cases i <;> simp [ih]
  rw [mape,mape,show es.toList.map (fun e=>(e.key,e.val)) = _ from hr]
theorem zPH {enc:α→Value} {T E:TypeId} {d:TypeDesc} {b:Nat} {m:List (α×β)} {k:Option Addr→K} (hT:mapIs P T d E) (h:∀ r,HG B (MapIt enc cV b r m m none::Δ) (k (some ⟨r,0,none⟩))) [p:Own b Γ (MapR enc cV b m) Δ] :
  HG B Γ (Do P (Instr.range T (.map (some b))) Value.pointer k):=fun w hw=>zPC hT (hw.perm p.perm) fun r w hw=>h r w hw
class OwnI (r:Nat) (Γ:List HProp) (A:outParam HProp) (Δ:outParam (List HProp)):Prop where perm:Γ.Perm (A::Δ)
instance (priority:=low) zUN {r:Nat} {X A:HProp} {Γ Δ:List HProp} [h:OwnI r Γ A Δ]:OwnI r (X::Γ) A (X::Δ):=⟨zGn h.perm⟩
instance (priority:=high) zVS {α β:Type} [DecidableEq α] {enc:α→Value} {cV:β→Value} {b r:Nat} {m left:List (α×β)} {cur:Option (α×β)} {Γ:List HProp}:OwnI r (MapIt enc cV b r m left cur::Γ) (MapIt enc cV b r m left cur) Γ:=⟨.refl _⟩
theorem s_extr {α:Type} {vs:List Value} {i:Nat} {c:α→Value} {v:Value} {x:α} {k:α→K} (h:HG B Γ (k x)) [n:NthV vs i v] [e:Cv c v x]:HG B Γ (Ext (.tuple vs.toArray) i c k):=fun w hw=>⟨_,x,rfl,by have:=n.h; rw [nth_eq] at this; rw [e.h] at this; simpa using this,h w hw⟩
instance nx_ext {α:Type} {vs:List Value} {i:Nat} {c:α→Value} {v:Value} {x:α} {k:α→K} [n:NthV vs i v] [e:Cv c v x]:Nx B Γ (Ext (.tuple vs.toArray) i c k) Γ (k x):=⟨fun h=>s_extr h⟩
theorem s_next {enc:α→Value} {b r:Nat} {m left:List (α×β)} {cur:Option (α×β)} {k:Value→K} (h0:left = []→HG B (MapR enc cV b m::Δ) (k (.tuple #[.bool false])))
  (h1:∀ l1 p l2,left = l1++p::l2→p ∈ m→HG B (MapIt enc cV b r m (l1++l2) (some p)::Δ) (k (.tuple #[.bool true,enc p.1,cV p.2]))) [p:OwnI r Γ (MapIt enc cV b r m left cur) Δ] :
  HG B Γ (Do P (Instr.next (.pointer (some ⟨r,0,none⟩)) false 0) id k):=fun w hw=>r_next (hw.perm p.perm) (fun h w hw=>h0 h w hw) fun l1 q l2 w e hq hw=>h1 l1 q l2 e hq w hw
theorem zPI {enc:α→Value} {b r:Nat} {m left:List (α×β)} {q:α×β} {k:Value→K} (h:HG B Γ (k (.tuple #[enc q.1,cV q.2]))) [p:OwnI r Γ (MapIt enc cV b r m left (some q)) Δ] :
  HG B Γ (Do P (Instr.entry (.pointer (some ⟨r,0,none⟩))) id k):=fun w hw=>zPD (hw.perm p.perm) (h w hw)
theorem zTT {enc:α→Value} {b r:Nat} {m left:List (α×β)} {cur:Option (α×β)} (h:HG B (MapR enc cV b m::Δ) k) [p:OwnI r Γ (MapIt enc cV b r m left cur) Δ]:HG B Γ k:=fun w hw=>h w (MapIt.ends (hw.perm p.perm))
end
end
end Go.Sep
namespace Go.Sep
open Go Go.RowKit
abbrev accN (esz:Nat) (s:Sl) (i:Int) (k:Value→K):K:=Idx s i esz fun t=>LdN t esz fun a=>k (.agg a)
abbrev acc1 {α:Type} (c:α→Value) (s:Sl) (i:Int) (k:Value→K):K:=Idx s i 1 fun t=>Ld t c fun a=>k (c a)
def idxFK (P:Program) (acc:Sl→Int→(Value→K)→K) (s:Sl) (fv:Value) (Q:Int→K):K :=
 LoopK (α:=Int) (fun X x =>
  Ite (decide (x < (s.n:Int)))
   (acc s x fun v =>
   CallV P fv [v] <| Ans1 (fun (t:Bool)=>Value.bool t) fun b =>
   Ite b
    (Q x)
    (Ar (IntKind.wrap .i64 (x + 1)) fun t =>
    X t))
   (Q (-1))) 0
def findG {γ α:Type} (p:γ→α→Bool) (st:γ→α→γ):γ→List α→γ×Option Nat
 | g,[]=>(g,none)
 | g,x::L=>if p g x then (st g x,some 0) else ((findG p st (st g x) L).1,(findG p st (st g x) L).2.map (· + 1))
def idxI:Option Nat→Int
 | none=>-1
 | some i=>i
def delG {γ α:Type} (p:γ→α→Bool) (st:γ→α→γ):γ→List α→γ×List α
 | g,[]=>(g,[])
 | g,x::L=>((delG p st (st g x) L).1,if p g x then (delG p st (st g x) L).2 else x::(delG p st (st g x) L).2)
section
variable {P:Program} {B:World} {Γ Δ:List HProp} {α γ:Type}
theorem zFG {p:γ→α→Bool} {st:γ→α→γ} {g:γ} {x:α} {L:List α}:delG p st g (x::L) = ((delG p st (st g x) L).1,if p g x then (delG p st (st g x) L).2 else x::(delG p st (st g x) L).2):=rfl
theorem zH9 {p:γ→α→Bool} {st:γ→α→γ} {g:γ} {x:α} {L:List α}:findG p st g (x::L) = if p g x then (st g x,some 0) else ((findG p st (st g x) L).1,(findG p st (st g x) L).2.map (· + 1)):=rfl
theorem s_ldW {b n:Nat} {l:List Value} {T:TypeId} {fz:Nat×Nat} {k:Array Value→K} (h:HG B Γ (k l.toArray)) (hl:l.length = n) [p:Own b Γ (blk b (.cells l.toArray T fz)) Δ]:HG B Γ (LdN ⟨b,0,none⟩ n k) :=
 s_ldN (b:=b) (off:=0) (l':=l) h (by rw [List.drop_zero,List.take_of_length_le (Nat.le_of_eq hl)]) hl
theorem s_idxF {R:γ→List HProp} {acc:Sl→Int→(Value→K)→K} {s:Sl} {fv:Value} {vV:α→Value} {Q:Int→K} {L:List α} (p:γ→α→Bool) (st:γ→α→γ) (g0:γ) (I:γ→List α→Prop) (hI:I g0 L) (hIs:∀ g x C,I g (x::C)→I (st g x) C) (hn:s.n = L.length) (hL:L.length < 1000000000)
  (hacc:∀ g (i:Nat) x k,L[i]? = some x→HG B (R g) (k (vV x))→HG B (R g) (acc s (i:Int) k))
  (hf:∀ g x C (q:Bool→K),x ∈ L→I g (x::C)→HG B (R (st g x)) (q (p g x))→HG B (R g) (CallV P fv [vV x] (Ans1 (fun (t:Bool)=>Value.bool t) q)))
  (h:HG B (R (findG p st g0 L).1) (Q (idxI (findG p st g0 L).2))):HG B (R g0) (idxFK P acc s fv Q):=by
 unfold idxFK
 refine s_loop (α:=Int) (ι:=Nat×γ) (fun x i=>x = (i.1:Int)∧i.1 ≤ L.length∧I i.2 (L.drop i.1)∧findG p st g0 L = ((findG p st i.2 (L.drop i.1)).1,(findG p st i.2 (L.drop i.1)).2.map (· + i.1)))
  (fun x i=>R i.2) (fun x i=>L.length - i.1) (0,g0) ⟨rfl,Nat.zero_le _,hI,by simp⟩ ?_
 rintro k' _ ⟨i,g⟩ ⟨rfl,hi,hIg,he⟩ hk'
 simp only at hi hIg he hk' ⊢
 refine s_ite (fun hb=>?_) fun hb=>?_
 ·have hil:i < L.length:=by simp only [decide_eq_true_eq] at hb; omega
  have hge:L[i]? = some L[i]:=List.getElem?_eq_getElem hil
  rw [List.drop_eq_getElem_cons hil] at he hIg
  have hm:L[i] ∈ L:=List.getElem_mem hil
  generalize L[i] = x at hge he hm hIg
  refine hacc g i x _ hge ?_
  refine hf g x _ _ hm hIg ?_
  rw [zH9] at he
  refine s_ite (fun hp=>?_) fun hp=>?_
  ·rw [if_pos hp] at he
   rw [he] at h
   simpa [idxI] using h
  ·rw [if_neg (by simp [hp])] at he
   refine s_ai ?_
   refine hk' _ (i + 1,st g x) ⟨by simp,hil,hIs _ _ _ hIg,?_⟩ (by simp only; omega)
   simp only
   rw [he,Option.map_map]
   congr 2
   funext y
   simp only [Function.comp]; omega
 ·have hil:i = L.length:=by simp only [decide_eq_false_iff_not] at hb; omega
  rw [hil,List.drop_length] at he
  rw [he] at h
  simpa [findG,idxI] using h
theorem zK6 (p:α→Bool):∀ L:List α,(findG (fun (_:Unit) x=>p x) (fun _ _=>()) () L).2 = L.findIdx? p
 | []=>rfl
 | x::L=>by
  rw [zH9,List.findIdx?_cons]
  split
  ·rfl
  ·rw [zK6 p L]
theorem zIz (p:α→Bool):∀ L:List α,(delG (fun (_:Unit) x=>p x) (fun _ _=>()) () L).2 = L.filter fun x=>!p x
 | []=>rfl
 | x::L=>by
  rw [zFG,zIz p L,List.filter_cons]
  cases p x <;> simp
theorem zGQ {acc:Sl→Int→(Value→K)→K} {s:Sl} {fv:Value} {vV:α→Value} {Q:Int→K} {L:List α} (p:α→Bool) (hn:s.n = L.length) (hL:L.length < 1000000000)
  (hacc:∀ (i:Nat) x k,L[i]? = some x→HG B Γ (k (vV x))→HG B Γ (acc s (i:Int) k))
  (hf:∀ x (q:Bool→K),x ∈ L→HG B Γ (q (p x))→HG B Γ (CallV P fv [vV x] (Ans1 (fun (t:Bool)=>Value.bool t) q)))
  (h:HG B Γ (Q (idxI (L.findIdx? p)))):HG B Γ (idxFK P acc s fv Q) :=
 s_idxF (R:=fun _=>Γ) (fun (_:Unit) x=>p x) (fun _ _=>()) () (fun _ _=>True) trivial (fun _ _ _ _=>trivial) hn hL (fun _=>hacc) (fun _ x _ q hx _=>hf x q hx) (by rw [zK6]; exact h)
theorem zHA (o:Option Nat):decide ((0:Int) ≤ idxI o) = o.isSome:=by
 cases o <;> simp [idxI]
theorem zLk (p:α→Bool) (L:List α):(L.findIdx? p).isSome = L.any p:=by simp [List.findIdx?_isSome]
theorem zPJ {f:α→List Value} {esz E:Nat} {s:Sl} {L:List α} {i:Nat} {x:α} {k:Value→K} (hf:∀ x,(f x).length = esz) (he:0 < esz) (hx:L[i]? = some x) (h:HG B Γ (k (.agg (f x).toArray))) [o:OwnS s Γ (SlC E esz s (L.flatMap f)) Δ]:HG B Γ (accN esz s (i:Int) k) :=
 s_idxN f hf (fun w hw=>(own_rd hw (p:=o)).1) hx h rfl he
theorem acc_rd {f:α→List Value} {esz:Nat} {s:Sl} {L:List α} {i:Nat} {x:α} {k:Value→K} (hf:∀ x,(f x).length = esz) (he:0 < esz) (hr:∀ w,Holds B Γ w→RdC w s esz (L.flatMap f)) (hx:L[i]? = some x) (h:HG B Γ (k (.agg (f x).toArray))):HG B Γ (accN esz s (i:Int) k) :=
 s_idxN f hf hr hx h rfl he
theorem zR8 {β:Type} {c:β→Value} {E:Nat} {s:Sl} {L:List β} {i:Nat} {x:β} {k:Value→K} (hx:L[i]? = some x) (h:HG B Γ (k (c x))) [o:OwnS s Γ (SlC E 1 s (L.map c)) Δ]:HG B Γ (acc1 c s (i:Int) k) :=
 s_idx1 (fun w hw=>(own_rd hw (p:=o)).1) hx h
def delFN (P:Program) (idx:Sl→Value→(Int→K)→K) (E T t esz:Nat) (zs:List Value) (s:Sl) (fv:Value) (Q:Sl→K):K :=
 idx s fv fun t10 =>
 Ite (decide (t10 = (-1)))
  (Q s)
  (Ar (IntKind.wrap .i64 (t10 + 1)) fun t15 =>
  LoopK (α:=Int×Int) (fun X x =>
   Ite (decide (x.2 < (s.n:Int)))
    (Idx s x.2 esz fun t24 =>
    LdN t24 esz fun t25 =>
    New E zs.toArray fun v7 =>
    StN v7 esz t25 <|
    LdN v7 esz fun t27 =>
    CallV P fv [(.agg t27)] <| Ans1 (fun (t28:Bool)=>Value.bool t28) fun t28 =>
    Ite (!t28)
     (LdN v7 esz fun t32 =>
     Idx s x.1 esz fun t33 =>
     StN t33 esz t32 <|
     Ar (IntKind.wrap .i64 (x.1 + 1)) fun t35 =>
     Ar (IntKind.wrap .i64 (x.2 + 1)) fun t21 =>
     X (t35,t21))
     (Ar (IntKind.wrap .i64 (x.2 + 1)) fun t21 =>
     X (x.1,t21)))
    (Slc s x.1 (s.n:Int) (s.c:Int) esz fun t38 =>
    Do P (Builtin.clear_ #[T] t #[(Sl.val t38)]) id fun _ =>
    Slc s 0 x.1 (s.c:Int) esz fun t41 =>
    Q t41)) (t10,t15))
def delF1 {β:Type} (P:Program) (idx:Sl→Value→(Int→K)→K) (T t:Nat) (c:β→Value) (s:Sl) (fv:Value) (Q:Sl→K):K :=
 idx s fv fun t10 =>
 Ite (decide (t10 = (-1)))
  (Q s)
  (Ar (IntKind.wrap .i64 (t10 + 1)) fun t15 =>
  LoopK (α:=Int×Int) (fun X x =>
   Ite (decide (x.2 < (s.n:Int)))
    (Idx s x.2 1 fun t24 =>
    Ld t24 c fun t25 =>
    CallV P fv [c t25] <| Ans1 (fun (t28:Bool)=>Value.bool t28) fun t28 =>
    Ite (!t28)
     (Idx s x.1 1 fun t33 =>
     St t33 (c t25) <|
     Ar (IntKind.wrap .i64 (x.1 + 1)) fun t35 =>
     Ar (IntKind.wrap .i64 (x.2 + 1)) fun t21 =>
     X (t35,t21))
     (Ar (IntKind.wrap .i64 (x.2 + 1)) fun t21 =>
     X (x.1,t21)))
    (Slc s x.1 (s.n:Int) (s.c:Int) 1 fun t38 =>
    Do P (Builtin.clear_ #[T] t #[(Sl.val t38)]) id fun _ =>
    Slc s 0 x.1 (s.c:Int) 1 fun t41 =>
    Q t41)) (t10,t15))
theorem zI0 (p:γ→α→Bool) (st:γ→α→γ) {I:γ→List α→Prop} (hIs:∀ g x C,I g (x::C)→I (st g x) C):∀ (g:γ) (L:List α),I g L→((findG p st g L).2 = none∧delG p st g L = ((findG p st g L).1,L)) ∨
  ∃ A x C,L = A++x::C∧(findG p st g L).2 = some A.length∧I (findG p st g L).1 C∧delG p st g L = ((delG p st (findG p st g L).1 C).1,A++(delG p st (findG p st g L).1 C).2)
 | g,[],_=>.inl ⟨rfl,rfl⟩
 | g,x::L,hI=>by
  rw [zH9,zFG]
  by_cases hp:p g x = true
  ·right
   exact ⟨[],x,L,rfl,by simp [hp],by simpa [hp] using hIs _ _ _ hI,by simp [hp]⟩
  ·rcases zI0 p st hIs (st g x) L (hIs _ _ _ hI) with ⟨h1,h2⟩ | ⟨A,y,C,rfl,h2,h4,h3⟩
   ·left
    simp only [hp,Bool.false_eq_true,if_false,h1,h2,Option.map_none,and_self]
   ·right
    refine ⟨x::A,y,C,rfl,?_,?_,?_⟩
    ·simp only [hp,Bool.false_eq_true,if_false,h2,Option.map_some,List.length_cons]
    ·simpa only [hp,Bool.false_eq_true,if_false] using h4
    ·simp only [hp,Bool.false_eq_true,if_false,h3,List.cons_append]
theorem zIA {M:List α} {i:Nat} {x:α} (hi:i < M.length):(M.set i x).take (i + 1) = M.take i++[x]:=by
 rw [List.take_succ_eq_append_getElem (by simpa using hi),List.take_set_of_le (Nat.le_refl _),List.getElem_set_self]
theorem zNs {M:List α} {i j:Nat} {x:α} (hij:i < j):(M.set i x).drop j = M.drop j:=by rw [List.drop_set_of_lt hij]
theorem zOe {f:α→List Value} {esz E:Nat} {s:Sl} {M:List α} {i:Nat} {x:α} {k:K} (hf:∀ x,(f x).length = esz) (hfl:(f x).all flatV = true) (hi:i < M.length) (h:HG B (SlC E esz s ((M.set i x).flatMap f)::Δ) k) [o:OwnS s Γ (SlC E esz s (M.flatMap f)) Δ]:HG B Γ (StN (elA s i esz) esz (f x).toArray k):=by
 have e1:M = M.take i++M[i]::M.drop (i + 1):=by rw [← List.drop_eq_getElem_cons hi,List.take_append_drop]
 have e2:M.set i x = M.take i++x::M.drop (i + 1):=by rw [List.set_eq_take_append_cons_drop,if_pos hi]
 have hl:(M.take i).length = i:=by rw [List.length_take]; omega
 rw [e2] at h
 refine fun w hw=>?_
 have hw2:=hw.perm o.perm
 rw [e1] at hw2
 rw [show elA s i esz = elA s (M.take i).length esz by rw [hl]]
 refine hg hw2 ?_
 rw [← add0 (elA s (M.take i).length esz)]
 refine s_stEN (s:=s) (us:=f x) ?_ (hf x) ?_ hfl
 ·have e:layAt ((M.take i++M[i]::M.drop (i + 1)).flatMap f) ((M.take i).length * esz + 0) (f x) = (M.take i++x::M.drop (i + 1)).flatMap f:=by
   have e1:(M.take i++M[i]::M.drop (i + 1)).flatMap f = (M.take i).flatMap f++(f M[i]++(M.drop (i + 1)).flatMap f):=by simp only [List.flatMap_append,List.flatMap_cons]
   have e2:(M.take i++x::M.drop (i + 1)).flatMap f = (M.take i).flatMap f++(f x++(M.drop (i + 1)).flatMap f):=by simp only [List.flatMap_append,List.flatMap_cons]
   rw [e1,e2,zEX (by simp [zAL f esz hf]) (by rw [hf,hf])]
  rw [e]; exact h
 ·have e3:((M.take i++M[i]::M.drop (i + 1)).flatMap f).length = ((M.take i).length + ((M.drop (i + 1)).length + 1)) * esz:=by rw [zAL f esz hf]; simp only [List.length_append,List.length_cons]
  rw [e3,Nat.add_mul,Nat.add_mul]; omega
theorem zK7 {f:α→List Value} {esz:Nat} (hf:∀ x,(f x).length = esz):∀ (L:List α) (i:Nat),(L.flatMap f).take (i * esz) = (L.take i).flatMap f
 | L,0=>by simp
 | [],i + 1=>by simp
 | x::L,i + 1=>by
  rw [List.flatMap_cons,List.take_succ_cons,List.flatMap_cons,← zK7 hf L i,Nat.add_mul,Nat.one_mul,Nat.add_comm,← hf x,List.take_length_add_append]
theorem zPK {R:γ→List HProp} {idx:Sl→Value→(Int→K)→K} {E T t esz:Nat} {zs:List Value} {s:Sl} {fv:Value} {Q:Sl→K} {f:α→List Value} {L:List α} (p:γ→α→Bool) (st:γ→α→γ) (g0:γ) (I:γ→List α→Prop) (hI:I g0 L) (hIs:∀ g x C,I g (x::C)→I (st g x) C)
  (hidx:∀ s fv Q w,idxFK P (accN esz) s fv Q w→idx s fv Q w) (hf:∀ x,(f x).length = esz) (he:0 < esz) (hfl:∀ x,(f x).all flatV = true) (hz:zs.length = esz) (hL:L.length < 1000000000)
  (hc:∀ Ξ g x C (q:Bool→K),x ∈ L→I g (x::C)→HG B (Ξ::R (st g x)) (q (p g x))→HG B (Ξ::R g) (CallV P fv [(.agg (f x).toArray)] (Ans1 (fun (t:Bool)=>Value.bool t) q)))
  (h:∀ s',s'.n = (delG p st g0 L).2.length→HG B (SlC E esz s' ((delG p st g0 L).2.flatMap f)::R (delG p st g0 L).1) (Q s')) (hT:appT P T T E esz = true:=by kernel_rfl) :
  HG B (SlC E esz s (L.flatMap f)::R g0) (delFN P idx E T t esz zs s fv Q):=by
 unfold delFN
 refine s_cap s fun a1 a2 a3 a4=>?_
 rw [zAL f esz hf] at a1
 have hn:s.n = L.length:=(Nat.eq_of_mul_eq_mul_right he a1).symm
 refine fun w hw=>hidx _ _ _ _ ?_
 refine hg hw ?_
 clear hw w
 refine s_idxF (R:=fun g=>SlC E esz s (L.flatMap f)::R g) (vV:=fun x=>.agg (f x).toArray) p st g0 I hI hIs hn hL (fun g i x k hx hk=>zPJ hf he hx hk) (fun g x C q hx hI hq=>hc _ g x C q hx hI hq) ?_
 rcases zI0 p st hIs g0 L hI with ⟨h1,h2⟩ | ⟨A,x,C,rfl,h1,hI1,h2⟩
 ·rw [h1]
  rw [h2] at h
  refine s_t ?_ (by simp [idxI])
  exact h s hn
 rw [h1]
 have hlen:(A++x::C).length = A.length + (C.length + 1):=List.length_append
 generalize (findG p st g0 (A++x::C)).1 = g1 at *
 refine s_f ?_ (by simp [idxI])
 simp only [idxI]
 refine s_ai ?_
 refine s_loop (α:=Int×Int) (ι:=Nat×Nat×List α×γ) (fun y i=>y.1 = (i.1:Int)∧y.2 = (i.2.1:Int)∧i.1 < i.2.1∧i.2.1 ≤ (A++x::C).length∧i.2.2.1.length = (A++x::C).length∧i.2.2.1.drop i.2.1 = (A++x::C).drop i.2.1∧I i.2.2.2 ((A++x::C).drop i.2.1)∧delG p st g0 (A++x::C) = ((delG p st i.2.2.2 ((A++x::C).drop i.2.1)).1,i.2.2.1.take i.1++(delG p st i.2.2.2 ((A++x::C).drop i.2.1)).2))
  (fun y i=>SlC E esz s (i.2.2.1.flatMap f)::R i.2.2.2) (fun y i=>(A++x::C).length - i.2.1) (A.length,A.length + 1,A++x::C,g1) ⟨rfl,by simp,by simp,by simp,rfl,rfl,?_,?_⟩ ?_
 ·simp only
  have e:(A++x::C).drop (A.length + 1) = C:=by rw [show A++x::C = (A++[x])++C by simp]; exact List.drop_left' (by simp)
  rw [e]; exact hI1
 ·simp only
  have e:(A++x::C).drop (A.length + 1) = C:=by rw [show A++x::C = (A++[x])++C by simp]; exact List.drop_left' (by simp)
  rw [e,List.take_left,h2]
 rintro k' ⟨_,_⟩ ⟨i,j,M,g⟩ ⟨rfl,rfl,hij,hj,hM,hd,hIg,hdel⟩ hk'
 simp only at hij hj hM hd hIg hdel hk' ⊢
 refine s_ite (fun hb=>?_) fun hb=>?_
 ·have hjl:j < (A++x::C).length:=by simp only [decide_eq_true_eq] at hb; omega
  have hMj:M[j]? = some (A++x::C)[j]:=by
   have:=congrArg (·[0]?) hd
   simp only [List.getElem?_drop,Nat.add_zero] at this
   rw [this,List.getElem?_eq_getElem hjl]
  have hmem:(A++x::C)[j] ∈ A++x::C:=List.getElem_mem hjl
  have hdrop:=List.drop_eq_getElem_cons hjl
  rw [hdrop] at hdel hIg
  generalize (A++x::C)[j] = y at hMj hmem hdel hdrop hIg
  rw [zFG] at hdel
  refine s_idxN f hf (fun w hw=>(own_rd (s:=s) hw).1) hMj ?_
  refine s_new fun v7=>?_
  refine s_stN (b:=v7) ?_ hz (hf y) (hfl y)
  refine s_ldW (b:=v7) ?_ (hf y)
  refine zFj (Δ:=[blk v7 (.cells (f y).toArray E (0,0)),SlC E esz s (M.flatMap f)]) ?_
  refine hc _ g y _ _ hmem hIg ?_
  refine s_flat ?_
  show HG B (blk v7 (.cells (f y).toArray E (0,0))::SlC E esz s (M.flatMap f)::R (st g y)) _
  refine s_ite (fun hp=>?_) fun hp=>?_
  ·have hp':p g y = false:=by simpa using hp
   rw [hp'] at hdel
   simp only [Bool.false_eq_true,if_false] at hdel
   refine s_ldW (b:=v7) ?_ (hf y)
   refine s_idx (s:=s) (i:=i) ?_
   refine zOe (s:=s) hf (hfl y) (by omega) ?_
   refine s_ai ?_
   refine s_ai ?_
   refine s_end (hk' _ (i + 1,j + 1,M.set i y,st g y) ⟨by simp,by simp,by simp only; omega,hjl,by simpa using hM,?_,hIs _ _ _ hIg,?_⟩ (by simp only; omega))
   ·simp only
    rw [zNs (by omega),← List.drop_drop,← List.drop_drop,hd]
   ·simp only
    rw [zIA (by omega),hdel]
    simp
  ·have hp':p g y = true:=by simpa using hp
   rw [hp'] at hdel
   simp only [if_true] at hdel
   refine s_ai ?_
   refine s_end (hk' _ (i,j + 1,M,st g y) ⟨rfl,by simp,by simp only; omega,hjl,hM,?_,hIs _ _ _ hIg,hdel⟩ (by simp only; omega))
   simp only
   rw [← List.drop_drop,← List.drop_drop,hd]
 ·have hjl:j = (A++x::C).length:=by simp only [decide_eq_false_iff_not] at hb; omega
  rw [hjl,List.drop_length] at hdel
  simp only [delG,List.append_nil] at hdel
  rw [hdel] at h
  refine s_slc (lo:=i) (hi:=s.n) (mx:=s.c) ?_
  refine zD6 (s:=s) (m:=i) (c':=s.c) (by omega) (by omega) (Nat.le_refl _) ?_
  rw [zK7 hf]
  refine zHI (s:=⟨s.a,i,s.c⟩) (l:=i) (q:=s.n - i) (m:=s.c) rfl (Nat.le_refl _) (by simp only; omega) (by omega) ?_ (hT:=hT)
  refine s_slc (lo:=0) (hi:=i) (mx:=s.c) ?_
  rw [cut0 a3]
  exact h ⟨s.a,i,s.c⟩ (by simp; omega)
theorem zTU {β:Type} {R:γ→List HProp} {idx:Sl→Value→(Int→K)→K} {E T t:Nat} {c:β→Value} {s:Sl} {fv:Value} {Q:Sl→K} {L:List β} (p:γ→β→Bool) (st:γ→β→γ) (g0:γ) (I:γ→List β→Prop) (hI:I g0 L) (hIs:∀ g x C,I g (x::C)→I (st g x) C)
  (hidx:∀ s fv Q w,idxFK P (acc1 c) s fv Q w→idx s fv Q w) (hfl:∀ x,flatV (c x) = true) (hL:L.length < 1000000000)
  (hc:∀ Ξ g x C (q:Bool→K),x ∈ L→I g (x::C)→HG B (Ξ::R (st g x)) (q (p g x))→HG B (Ξ::R g) (CallV P fv [c x] (Ans1 (fun (t:Bool)=>Value.bool t) q)))
  (h:∀ s',s'.n = (delG p st g0 L).2.length→HG B (SlC E 1 s' ((delG p st g0 L).2.map c)::R (delG p st g0 L).1) (Q s')) (hT:appT P T T E 1 = true:=by kernel_rfl) :
  HG B (SlC E 1 s (L.map c)::R g0) (delF1 P idx T t c s fv Q):=by
 unfold delF1
 refine s_cap s fun a1 a2 a3 a4=>?_
 rw [List.length_map,Nat.mul_one] at a1
 have hn:s.n = L.length:=a1.symm
 refine fun w hw=>hidx _ _ _ _ ?_
 refine hg hw ?_
 clear hw w
 refine s_idxF (R:=fun g=>SlC E 1 s (L.map c)::R g) (vV:=c) p st g0 I hI hIs hn hL (fun g i x k hx hk=>zR8 hx hk) (fun g x C q hx hI hq=>hc _ g x C q hx hI hq) ?_
 rcases zI0 p st hIs g0 L hI with ⟨h1,h2⟩ | ⟨A,x,C,rfl,h1,hI1,h2⟩
 ·rw [h1]
  rw [h2] at h
  refine s_t ?_ (by simp [idxI])
  exact h s hn
 rw [h1]
 have hlen:(A++x::C).length = A.length + (C.length + 1):=List.length_append
 generalize (findG p st g0 (A++x::C)).1 = g1 at *
 refine s_f ?_ (by simp [idxI])
 simp only [idxI]
 refine s_ai ?_
 refine s_loop (α:=Int×Int) (ι:=Nat×Nat×List β×γ) (fun y i=>y.1 = (i.1:Int)∧y.2 = (i.2.1:Int)∧i.1 < i.2.1∧i.2.1 ≤ (A++x::C).length∧i.2.2.1.length = (A++x::C).length∧i.2.2.1.drop i.2.1 = (A++x::C).drop i.2.1∧I i.2.2.2 ((A++x::C).drop i.2.1)∧delG p st g0 (A++x::C) = ((delG p st i.2.2.2 ((A++x::C).drop i.2.1)).1,i.2.2.1.take i.1++(delG p st i.2.2.2 ((A++x::C).drop i.2.1)).2))
  (fun y i=>SlC E 1 s (i.2.2.1.map c)::R i.2.2.2) (fun y i=>(A++x::C).length - i.2.1) (A.length,A.length + 1,A++x::C,g1) ⟨rfl,by simp,by simp,by simp,rfl,rfl,?_,?_⟩ ?_
 ·simp only
  have e:(A++x::C).drop (A.length + 1) = C:=by rw [show A++x::C = (A++[x])++C by simp]; exact List.drop_left' (by simp)
  rw [e]; exact hI1
 ·simp only
  have e:(A++x::C).drop (A.length + 1) = C:=by rw [show A++x::C = (A++[x])++C by simp]; exact List.drop_left' (by simp)
  rw [e,List.take_left,h2]
 rintro k' ⟨_,_⟩ ⟨i,j,M,g⟩ ⟨rfl,rfl,hij,hj,hM,hd,hIg,hdel⟩ hk'
 simp only at hij hj hM hd hIg hdel hk' ⊢
 refine s_ite (fun hb=>?_) fun hb=>?_
 ·have hjl:j < (A++x::C).length:=by simp only [decide_eq_true_eq] at hb; omega
  have hMj:M[j]? = some (A++x::C)[j]:=by
   have:=congrArg (·[0]?) hd
   simp only [List.getElem?_drop,Nat.add_zero] at this
   rw [this,List.getElem?_eq_getElem hjl]
  have hmem:(A++x::C)[j] ∈ A++x::C:=List.getElem_mem hjl
  have hdrop:=List.drop_eq_getElem_cons hjl
  rw [hdrop] at hdel hIg
  generalize (A++x::C)[j] = y at hMj hmem hdel hdrop hIg
  rw [zFG] at hdel
  refine s_idx1 (fun w hw=>(own_rd (s:=s) hw).1) hMj ?_
  refine hc _ g y _ _ hmem hIg ?_
  refine s_ite (fun hp=>?_) fun hp=>?_
  ·have hp':p g y = false:=by simpa using hp
   rw [hp'] at hdel
   simp only [Bool.false_eq_true,if_false] at hdel
   refine s_idx (s:=s) (i:=i) ?_
   rw [← add0 (elA s i 1)]
   refine s_stE (s:=s) ?_ (by simp; omega) (hfl y)
   rw [show i * 1 + 0 = i by omega,← List.map_set]
   refine s_ai ?_
   refine s_ai ?_
   refine s_end (hk' _ (i + 1,j + 1,M.set i y,st g y) ⟨by simp,by simp,by simp only; omega,hjl,by simpa using hM,?_,hIs _ _ _ hIg,?_⟩ (by simp only; omega))
   ·simp only
    rw [zNs (by omega),← List.drop_drop,← List.drop_drop,hd]
   ·simp only
    rw [zIA (by omega),hdel]
    simp
  ·have hp':p g y = true:=by simpa using hp
   rw [hp'] at hdel
   simp only [if_true] at hdel
   refine s_ai ?_
   refine s_end (hk' _ (i,j + 1,M,st g y) ⟨rfl,by simp,by simp only; omega,hjl,hM,?_,hIs _ _ _ hIg,hdel⟩ (by simp only; omega))
   simp only
   rw [← List.drop_drop,← List.drop_drop,hd]
 ·have hjl:j = (A++x::C).length:=by simp only [decide_eq_false_iff_not] at hb; omega
  rw [hjl,List.drop_length] at hdel
  simp only [delG,List.append_nil] at hdel
  rw [hdel] at h
  refine s_slc (lo:=i) (hi:=s.n) (mx:=s.c) ?_
  refine zD6 (s:=s) (m:=i) (c':=s.c) (by omega) (by omega) (Nat.le_refl _) ?_
  rw [show (M.map c).take (i * 1) = (M.take i).map c by simp]
  refine zHI (s:=⟨s.a,i,s.c⟩) (l:=i) (q:=s.n - i) (m:=s.c) rfl (Nat.le_refl _) (by simp only; omega) (by omega) ?_ (hT:=hT)
  refine s_slc (lo:=0) (hi:=i) (mx:=s.c) ?_
  rw [cut0 a3]
  exact h ⟨s.a,i,s.c⟩ (by simp; omega)
end
end Go.Sep
namespace Go.Proofs.YtdemfamgieonbaaGreat
open Go Go.Sep
set_option maxRecDepth 100000
abbrev TX:=List UInt8
def cmpct {α:Type} [DecidableEq α]:List α→List α
 | []=>[]
 | [x]=>[x]
 | x::y::L=>if y = x then cmpct (y::L) else x::cmpct (y::L)
theorem zGK {α:Type} [DecidableEq α]:∀ (A:List α) (a b:α),cmpct (A++[a,b]) = if b = a then cmpct (A++[a]) else cmpct (A++[a])++[b]
 | [],a,b=>by
  by_cases h:b = a <;> simp [cmpct,h]
 | [x],a,b=>by
  have h1:=zGK [] a b
  simp only [List.nil_append,List.singleton_append] at h1 ⊢
  rw [cmpct,h1]
  by_cases h:b = a
  ·rw [if_pos h,if_pos h]; simp [cmpct]
  ·rw [if_neg h,if_neg h]
   by_cases h2:a = x
   ·simp [cmpct,h2]
   ·simp [cmpct,h2]
 | x::y::A,a,b=>by
  have h1:=zGK (y::A) a b
  simp only [List.cons_append] at h1 ⊢
  rw [cmpct,h1]
  by_cases h:b = a
  ·rw [if_pos h,if_pos h,cmpct]
  ·rw [if_neg h,if_neg h]
   by_cases h2:y = x
   ·simp [cmpct,h2]
   ·simp [cmpct,h2]
theorem zGy {α:Type} [DecidableEq α]:∀ L:List α,(cmpct L).length ≤ L.length
 | []=>Nat.le_refl _
 | [x]=>Nat.le_refl _
 | x::y::L=>by
  have:=zGy (y::L)
  rw [cmpct]
  split
  ·exact Nat.le_succ_of_le this
  ·simp only [List.length_cons] at this ⊢; omega
theorem zI1 {α:Type} [DecidableEq α]:∀ {L:List α} {x:α},x ∈ cmpct L ↔ x ∈ L
 | [],x=>Iff.rfl
 | [y],x=>Iff.rfl
 | y::z::L,x=>by
  have ih:=zI1 (L:=z::L) (x:=x)
  rw [cmpct]
  split
  ·rename_i h
   rw [ih,h]; simp
  ·rw [List.mem_cons,ih,List.mem_cons (a:=x) (b:=y)]
theorem zK8:∀ (x:TX) (L:List TX),(∀ y ∈ L,x ≤ y)→∀ z,z ∈ (cmpct (x::L)).tail→(x::L).Pairwise (· ≤ ·)→x < z
 | x,[],_,z,hz,_=>by simp [cmpct] at hz
 | x,y::L,h,z,hz,hp=>by
  rw [cmpct] at hz
  have hp2:=List.pairwise_cons.1 hp
  split at hz
  ·rename_i e
   subst e
   exact zK8 y L (fun w hw=>h w (List.mem_cons_of_mem _ hw)) z hz hp2.2
  ·rename_i e
   rw [List.tail_cons,zI1] at hz
   have h1:x ≤ z:=h z hz
   rcases List.le_iff_lt_or_eq.1 h1 with h2 | h2
   ·exact h2
   ·exfalso
    have h3:y ≤ z:=by
     rcases List.mem_cons.1 hz with rfl | hz
     ·exact List.le_refl _
     ·exact (List.pairwise_cons.1 hp2.2).1 z hz
    have h4:x ≤ y:=h y List.mem_cons_self
    exact e (List.le_antisymm (by rw [h2]; exact h3) h4)
theorem zKD:∀ (L:List TX),L.Pairwise (· ≤ ·)→(cmpct L).Pairwise (· < ·)
 | [],_=>List.Pairwise.nil
 | [x],_=>List.pairwise_singleton _ _
 | x::y::L,h=>by
  have ih:=zKD (y::L) (List.pairwise_cons.1 h).2
  rw [cmpct]
  split
  ·exact ih
  ·rename_i e
   refine List.pairwise_cons.2 ⟨fun z hz=>?_,ih⟩
   refine zK8 x (y::L) (List.pairwise_cons.1 h).1 z ?_ h
   rw [cmpct,if_neg e]; exact hz
theorem zKU:∀ {L M:List TX},L.Pairwise (· < ·)→M.Pairwise (· < ·)→(∀ x,x ∈ L ↔ x ∈ M)→L = M
 | [],[],_,_,_=>rfl
 | [],y::M,_,_,h=>by have:=(h y).2 List.mem_cons_self; simp at this
 | x::L,[],_,_,h=>by have:=(h x).1 List.mem_cons_self; simp at this
 | x::L,y::M,hL,hM,h=>by
  have h1:=List.pairwise_cons.1 hL
  have h2:=List.pairwise_cons.1 hM
  have hxy:x = y:=by
   rcases List.mem_cons.1 ((h x).1 List.mem_cons_self) with e | e
   ·exact e
   ·rcases List.mem_cons.1 ((h y).2 List.mem_cons_self) with e2 | e2
    ·exact e2.symm
    ·exact absurd (List.lt_trans (h1.1 y e2) (h2.1 x e)) (List.lt_irrefl _)
  subst hxy
  congr 1
  refine zKU h1.2 h2.2 fun z=>?_
  constructor
  ·intro hz
   rcases List.mem_cons.1 ((h z).1 (List.mem_cons_of_mem _ hz)) with e | e
   ·subst e; exact absurd (h1.1 z hz) (List.lt_irrefl _)
   ·exact e
  ·intro hz
   rcases List.mem_cons.1 ((h z).2 (List.mem_cons_of_mem _ hz)) with e | e
   ·subst e; exact absurd (h2.1 z hz) (List.lt_irrefl _)
   ·exact e
theorem zR9 (L:List TX):(sortL L).Pairwise (· ≤ ·):=by
 have:=List.pairwise_mergeSort (le:=fun a b:TX=>decide (a ≤ b)) (fun a b c h1 h2=>by simp only [decide_eq_true_eq] at *; exact List.le_trans h1 h2) (fun a b=>by simp only [Bool.or_eq_true,decide_eq_true_eq]; exact List.le_total a b) L
 refine List.Pairwise.imp ?_ this
 intro a b h; simpa using h
section
variable {B:World} {Γ Δ:List HProp} {k:K}
theorem zPy {s:Sl} {L:List TX} {Q:Sl→K} (hL:L.length < 100000000) (h:∀ s',HG B (SlS s' (cmpct L)::Γ) (Q s')):HG B (SlS s L::Γ) (zAG.call s Q):=by
 refine fun w hw=>zE2 _ _ _ ?_
 refine hg hw ?_
 clear hw w
 unfold zAG
 refine s_cap s fun a1 a2 a3 a4=>?_
 rw [List.length_map,Nat.mul_one] at a1
 refine s_ite (fun hb=>?_) fun hb=>?_
 ·have e:cmpct L = L:=by
   match L,a1 with
   | [],_=>rfl
   | [x],_=>rfl
   | x::y::L,a1=>simp only [List.length_cons] at a1; simp only [decide_eq_true_eq] at hb; omega
  rw [e] at h
  exact h s
 have hn2:2 ≤ L.length:=by simp only [decide_eq_false_iff_not] at hb; omega
 refine zCm (α:=Int) (fun x=>∃ i:Nat,x = (i:Int)∧1 ≤ i∧i ≤ L.length∧cmpct (L.take i) = L.take i) (fun x=>L.length - x.toNat) ⟨1,rfl,Nat.le_refl _,by omega,?_⟩ fun k' x hx hk'=>?_
 ·match L,hn2 with
  | x::L,_=>simp [cmpct]
 obtain ⟨i,rfl,hi1,hi,hc⟩:=hx
 unfold zAG.b1
 refine s_ite (fun hb2=>?_) fun hb2=>?_
 rotate_left
 ·have hil:i = L.length:=by simp only [decide_eq_false_iff_not] at hb2; omega
  rw [hil,List.take_length] at hc
  rw [hc] at h
  exact h s
 have hil:i < L.length:=by simp only [decide_eq_true_eq] at hb2; omega
 obtain ⟨j,rfl⟩:∃ j,i = j + 1:=⟨i - 1,by omega⟩
 have step:∀ m,m + 1 < L.length→cmpct (L.take (m + 2)) = if L[m + 1]? = L[m]? then cmpct (L.take (m + 1)) else cmpct (L.take (m + 1))++L[m + 1]?.toList:=fun m hm=>by
  have t1:L.take (m + 2) = L.take m++[L[m],L[m + 1]]:=by rw [List.take_succ_eq_append_getElem hm,List.take_succ_eq_append_getElem (by omega),List.append_assoc]; rfl
  have t2:L.take (m + 1) = L.take m++[L[m]]:=List.take_succ_eq_append_getElem (by omega)
  rw [t1,t2,zGK,List.getElem?_eq_getElem hm,List.getElem?_eq_getElem (show m < L.length by omega)]
  simp
 obtain ⟨a,ha⟩:∃ a,L[j + 1]? = some a:=⟨_,List.getElem?_eq_getElem hil⟩
 obtain ⟨b,hb'⟩:∃ b,L[j]? = some b:=⟨_,List.getElem?_eq_getElem (by omega)⟩
 refine s_dr ?_
 refine s_idxS (L:=L) (j:=j + 1) (fun w hw=>(own_rd (s:=s) hw).1) ha ?_ rfl
 refine s_ai ?_
 refine s_idxS (L:=L) (j:=j) (fun w hw=>(own_rd (s:=s) hw).1) hb' ?_ (by omega)
 rw [zBa,zBa]
 have hst:=step j hil
 rw [ha,hb'] at hst
 refine s_ite (fun he=>?_) fun he=>?_
 rotate_left
 ·have hne:¬ some a = some b:=by simpa using he
  rw [if_neg hne] at hst
  refine s_ai ?_
  refine hk' _ ⟨j + 2,by simp; omega,by omega,hil,?_⟩ (by omega)
  rw [hst,hc,List.take_succ_eq_append_getElem hil]
  rw [List.getElem?_eq_getElem hil] at ha
  rw [Option.some.inj ha]; rfl
 have hab:some a = some b:=by simpa using he
 rw [if_pos hab,hc] at hst
 refine s_slc (lo:=j + 1) (hi:=s.n) (mx:=s.c) ?_
 refine s_loop (α:=Int×Int) (ι:=Nat×Nat×List TX) (fun y i=>y.1 = (i.1:Int)∧y.2 = (i.2.1:Int)∧1 ≤ i.2.1∧j + 1 + i.2.1 ≤ L.length∧i.1 < j + 1 + i.2.1∧i.2.2.length = L.length∧i.2.2.drop (j + i.2.1) = L.drop (j + i.2.1)∧i.2.2.take i.1 = cmpct (L.take (j + 1 + i.2.1)))
  (fun y i=>SlS s i.2.2::Γ) (fun y i=>L.length - i.2.1) (j + 1,1,L) ⟨rfl,rfl,Nat.le_refl _,by simp only; omega,by simp only; omega,rfl,rfl,hst.symm⟩ ?_
 rintro k2 ⟨_,_⟩ ⟨p,q,M⟩ ⟨rfl,rfl,hq1,hq,hpq,hM,hd,ht⟩ hk2
 simp only at hq1 hq hpq hM hd ht hk2 ⊢
 unfold zAG.b2
 simp only
 refine s_cap s fun d1 d2 d3 d4=>?_
 rw [List.length_map,Nat.mul_one] at d1
 refine s_ite (fun hb3=>?_) fun hb3=>?_
 ·have hql:j + 1 + q < L.length:=by simp only [decide_eq_true_eq] at hb3; omega
  obtain ⟨x,hx⟩:∃ x,L[j + 1 + q]? = some x:=⟨_,List.getElem?_eq_getElem hql⟩
  obtain ⟨y,hy⟩:∃ y,L[j + q]? = some y:=⟨_,List.getElem?_eq_getElem (by omega)⟩
  have hMx:M[j + 1 + q]? = some x:=by
   have:=congrArg (·[1]?) hd
   simp only [List.getElem?_drop] at this
   rw [show j + q + 1 = j + 1 + q by omega] at this
   rw [this,hx]
  have hMy:M[j + q]? = some y:=by
   have:=congrArg (·[0]?) hd
   simp only [List.getElem?_drop,Nat.add_zero] at this
   rw [this,hy]
  have hrd:∀ w,Holds B (SlS s M::Γ) w→RdC w ⟨cutA s.a (j + 1) s.c 1,s.n - (j + 1),s.c - (j + 1)⟩ 1 ((M.drop (j + 1)).map strV):=fun w hw=>by
   have:=(own_rd (s:=s) hw).1.drop (l:=j + 1) (c:=s.c) (by omega) d2 d3
   rwa [Nat.mul_one,← List.map_drop] at this
  have hst2:=step (j + q) (by omega)
  rw [show j + q + 1 = j + 1 + q by omega,hx,hy,show j + q + 2 = j + 1 + (q + 1) by omega] at hst2
  refine s_dr ?_
  refine s_idxS (L:=M.drop (j + 1)) (j:=q) hrd (by rw [List.getElem?_drop]; exact hMx) ?_ rfl
  refine s_ai ?_
  refine s_idxS (L:=M.drop (j + 1)) (j:=q - 1) hrd (by rw [List.getElem?_drop,show j + 1 + (q - 1) = j + q by omega]; exact hMy) ?_ (by omega)
  rw [zBa,zBa]
  unfold zAG.s3
  refine s_ite (fun he2=>?_) fun he2=>?_
  ·have hne:¬ some x = some y:=by simpa using he2
   rw [if_neg hne] at hst2
   refine s_idxS (L:=M.drop (j + 1)) (j:=q) hrd (by rw [List.getElem?_drop]; exact hMx) ?_ rfl
   refine s_idx (s:=s) (i:=p) ?_
   rw [← add0 (elA s p 1)]
   refine s_stE (s:=s) ?_ (by simp; omega)
   rw [show p * 1 + 0 = p by omega,show Value.string (bs x) = strV x from rfl,← List.map_set]
   refine s_ai ?_
   refine s_ai ?_
   refine hk2 _ (p + 1,q + 1,M.set p x) ⟨by simp,by simp,by simp only; omega,by simp only; omega,by simp only; omega,by simpa using hM,?_,?_⟩ (by simp only; omega)
   ·simp only
    rw [List.drop_set_of_lt (by omega),show j + (q + 1) = (j + q) + 1 by omega,← List.drop_drop,hd,List.drop_drop]
   ·simp only
    rw [zIA (by omega),ht,hst2]; rfl
  ·have heq:some x = some y:=by simpa using he2
   rw [if_pos heq] at hst2
   refine s_ai ?_
   refine hk2 _ (p,q + 1,M) ⟨rfl,by simp,by simp only; omega,by simp only; omega,by simp only; omega,hM,?_,?_⟩ (by simp only; omega)
   ·simp only
    rw [show j + (q + 1) = (j + q) + 1 by omega,← List.drop_drop,hd,List.drop_drop]
   ·simp only
    rw [ht,hst2]
 ·have hql:j + 1 + q = L.length:=by simp only [decide_eq_false_iff_not] at hb3; omega
  rw [hql,List.take_length] at ht
  refine s_slc (lo:=p) (hi:=s.n) (mx:=s.c) ?_
  refine zD6 (s:=s) (m:=p) (c':=s.c) (by omega) (by omega) (Nat.le_refl _) ?_
  rw [show (M.map strV).take (p * 1) = (cmpct L).map strV by rw [Nat.mul_one,← List.map_take,ht]]
  refine zHI (s:=⟨s.a,p,s.c⟩) (l:=p) (q:=s.n - p) (m:=s.c) rfl (Nat.le_refl _) (by simp only; omega) (by omega) ?_
  refine s_slc (lo:=0) (hi:=p) (mx:=s.c) ?_
  rw [cut0 d3]
  exact h ⟨s.a,p,s.c⟩
theorem zSA {n:Nat} {Q:Sl→K} (hn:n < 50000000) (h:∀ s,s.n = 0→HG B (SlS s []::Γ) (Q s)):HG B Γ (zAe.call ⟨none,0,0⟩ (n:Int) Q):=by
 refine fun w hw=>zFd _ _ _ _ ?_
 refine hg hw ?_
 clear hw w
 unfold zAe
 refine s_f ?_ (by simp)
 unfold zAe.s1
 refine zLe (s:=⟨none,0,0⟩) (E:=zBy) (esz:=1) (by kernel_rfl) ?_
 refine s_ar (e':=0) (by rw [wrap64 (by simp) (by simp)]; simp) ?_
 refine s_ar (e':=(n:Int)) (by rw [wrap64 (by omega) (by omega)]; omega) ?_
 unfold zAe.s2
 refine s_ite (fun hb=>?_) fun hb=>?_
 ·refine zLe (s:=⟨none,0,0⟩) (E:=zBy) (esz:=1) (by kernel_rfl) ?_
  refine s_slc (lo:=0) (hi:=0) (mx:=0) ?_
  refine s_appZ (s:=⟨none,0,0⟩) (vs:=[]) (E:=zBy) (esz:=1) (by omega) (by simp only [decide_eq_true_eq] at hb; simp; omega) (by simp; omega) (fun s' zs hs' hz hf=>?_) (fun w hw=>RdC.none') (Nat.le_refl _)
  simp only [Nat.zero_add,List.nil_append] at hs' ⊢
  refine s_cap s' fun a1 a2 a3 a4=>?_
  refine s_slc (lo:=0) (hi:=0) (mx:=s'.c) ?_ rfl (by simp) rfl
  rw [cut0 a3]
  refine zD6 (s:=s') (m:=0) (c':=s'.c) (Nat.zero_le _) (Nat.zero_le _) (Nat.le_refl _) ?_
  simp only [Nat.zero_mul,List.take_zero,Nat.sub_zero]
  exact h ⟨s'.a,0,s'.c⟩ rfl
 ·refine fun w hw=>?_
  exact h ⟨none,0,0⟩ rfl w (hw.nilSl _ _)
theorem zPz {t:Nat} {a b:Sl} {La Lb:List TX} {Q:Sl→K} (hla:La.length ≤ 10000000) (hlb:Lb.length ≤ 10000000) (ha:∀ w,Holds B Γ w→RdC w a 1 (La.map strV)) (hb:∀ w,Holds B Γ w→RdC w b 1 (Lb.map strV)) (h:∀ s,HG B (SlS s (La++Lb)::Γ) (Q s)) :
  HG B (blk t (.cells [a.val,b.val].toArray zDU (0,0))::Γ) (zAK.call (Sl.mk (some ⟨t,0,none⟩) 2 2) Q):=fun w hw=>by
 refine zFB _ _ _ ?_
 have han:a.n = La.length:=by have:=(ha w hw.tail).len; simpa using this.symm
 have hbn:b.n = Lb.length:=by have:=(hb w hw.tail).len; simpa using this.symm
 refine Sep.hg hw ?_
 clear hw w
 unfold zAK
 have rd:∀ {X:List HProp} [Drops X (blk t (.cells [a.val,b.val].toArray zDU (0,0))::Γ)],∀ w,Holds B X w→RdC w (Sl.mk (some ⟨t,0,none⟩) 2 2) 1 ([a,b].map Sl.val):=fun w hw=>by
  have:=RdC.of_blk (esz:=1) (E:=zDU) (b:=t) (n:=2) (vs:=[a.val,b.val]) (cs:=[a.val,b.val].toArray) (Γ:=blk t (.cells [a.val,b.val].toArray zDU (0,0))::Γ) hw.drops List.mem_cons_self (by simp) rfl 2
  simpa using this
 refine s_loop (α:=Int×Int) (ι:=Nat) (fun x j=>j ≤ 2∧x.2 = (j:Int)∧x.1 = (if j = 0 then 0 else if j = 1 then La.length else La.length + Lb.length:Nat)) (fun x j=>blk t (.cells [a.val,b.val].toArray zDU (0,0))::Γ) (fun x j=>2 - j) 0 ⟨by omega,rfl,rfl⟩ ?_
 rintro k' ⟨_,_⟩ j ⟨hj,rfl,rfl⟩ hk'
 simp only at hk' ⊢
 unfold zAK.b1 zAK.s2
 match j,hj with
 | 0,_ =>
  refine s_t ?_
  refine s_idx1 (L:=[a,b]) (j:=0) (x:=a) rd rfl ?_ rfl
  refine s_ar (e':=(La.length:Int)) (by rw [wrap64 (by simp <;> omega) (by simp <;> omega)]; simp <;> omega) ?_
  refine s_f ?_
  refine s_ai ?_
  exact hk' _ 1 ⟨by omega,rfl,rfl⟩ (by omega)
 | 1,_ =>
  refine s_t ?_
  refine s_idx1 (L:=[a,b]) (j:=1) (x:=b) rd rfl ?_ rfl
  refine s_ar (e':=((La.length + Lb.length:Nat):Int)) (by rw [wrap64 (by simp <;> omega) (by simp <;> omega)]; simp <;> omega) ?_
  refine s_f ?_
  refine s_ai ?_
  exact hk' _ 2 ⟨by omega,rfl,rfl⟩ (by omega)
 | 2,_ =>
  refine s_f ?_
  refine zSA (n:=La.length + Lb.length) (by omega) fun s0 hs0=>?_
  refine s_loop (α:=Sl×Int) (ι:=Nat) (fun x j=>j ≤ 2∧x.2 = (j:Int)∧x.1.n = (if j = 0 then 0 else if j = 1 then La.length else La.length + Lb.length)) (fun x j=>SlS x.1 (if j = 0 then [] else if j = 1 then La else La++Lb)::blk t (.cells [a.val,b.val].toArray zDU (0,0))::Γ) (fun x j=>2 - j) 0 ⟨by omega,rfl,hs0⟩ ?_
  rintro k2 ⟨s1,_⟩ j ⟨hj,rfl,hs1⟩ hk2
  simp only at hs1 hk2 ⊢
  unfold zAK.b3
  match j,hj with
  | 0,_ =>
   refine s_t ?_
   refine s_idx1 (L:=[a,b]) (j:=0) (x:=a) rd rfl ?_ rfl
   simp only [if_true] at hs1
   refine zBJ (s:=s1) (us:=La.map strV) (fun w hw=>ha w hw.drops) (fun v hv=>by obtain ⟨y,_,rfl⟩:=List.mem_map.1 hv; rfl) (by omega) fun s2 hs2=>?_
   refine s_ai ?_
   exact hk2 (s2,1) 1 ⟨by omega,rfl,by show s2.n = La.length; omega⟩ (by omega)
  | 1,_ =>
   refine s_t ?_
   refine s_idx1 (L:=[a,b]) (j:=1) (x:=b) rd rfl ?_ rfl
   have hs1':s1.n = La.length:=hs1
   refine zBJ (s:=s1) (vs:=La.map strV) (us:=Lb.map strV) (fun w hw=>hb w hw.drops) (fun v hv=>by obtain ⟨y,_,rfl⟩:=List.mem_map.1 hv; rfl) (by omega) fun s2 hs2=>?_
   refine s_ai ?_
   rw [← List.map_append]
   exact hk2 (s2,2) 2 ⟨by omega,rfl,by show s2.n = La.length + Lb.length; omega⟩ (by omega)
  | 2,_ =>
   refine s_f ?_
   show HG B (SlS s1 (La++Lb)::blk t (.cells [a.val,b.val].toArray zDU (0,0))::Γ) _
   exact s_end (h s1)
end
end Go.Proofs.YtdemfamgieonbaaGreat
namespace Go.Proofs.YtdemfamgieonbaaGreat
open Go Go.Sep
set_option maxRecDepth 100000
set_option maxHeartbeats 4000000
attribute [local irreducible] G Gp Cx Tx Ex Sx Dx Ox Ax Lx Rx Fx Bx Bj Al Do Ld LdN St StN New CallF Ar DoU Rd Rd2 Pu Cd Ite Fv CallV CallY Ans0 Ans1 Ans2 Ans3 Ans4 Ans5 Ext Dead Dr WithS Sv LdS LdNS RdS Rd2S Nn Idx IdxA IdxS Fld Bld Slc SlcS Cat All LoopK RangeF RangeJ TakeD
namespace F_IRRef05
instance at_123:AT Tryz.prog 123 4:=⟨by kernel_rfl⟩
instance at_25:AT Tryz.prog 25 5:=⟨by kernel_rfl⟩
instance cb_120:CB Tryz.prog 120:=⟨by kernel_rfl⟩
instance cb_43:CB Tryz.prog 43:=⟨by kernel_rfl⟩
instance cb_44:CB Tryz.prog 44:=⟨by kernel_rfl⟩
instance cb_45:CB Tryz.prog 45:=⟨by kernel_rfl⟩
instance ct_2:CT Tryz.prog 2:=⟨by kernel_rfl⟩
instance ct_22:CT Tryz.prog 22:=⟨by kernel_rfl⟩
instance ct_23:CT Tryz.prog 23:=⟨by kernel_rfl⟩
instance ct_3:CT Tryz.prog 3:=⟨by kernel_rfl⟩
instance ct_85:CT Tryz.prog 85:=⟨by kernel_rfl⟩
instance ct_9:CT Tryz.prog 9:=⟨by kernel_rfl⟩
instance zIB:FT Tryz.prog 123 0 0 1:=⟨by kernel_rfl⟩
instance zIC:FT Tryz.prog 123 1 1 1:=⟨by kernel_rfl⟩
instance zID:FT Tryz.prog 123 2 2 1:=⟨by kernel_rfl⟩
instance zIE:FT Tryz.prog 123 3 3 1:=⟨by kernel_rfl⟩
instance zGR:FT Tryz.prog 25 0 0 1:=⟨by kernel_rfl⟩
instance zPL:FT Tryz.prog 25 1 1 1:=⟨by kernel_rfl⟩
instance zHK:FT Tryz.prog 25 2 2 1:=⟨by kernel_rfl⟩
instance zJi:FT Tryz.prog 25 3 3 1:=⟨by kernel_rfl⟩
instance zJj:FT Tryz.prog 25 4 4 1:=⟨by kernel_rfl⟩
instance mx:MX Tryz.prog:=⟨mixed⟩
instance pl_25:PLT Tryz.prog 25 [(0,1),(1,1),(2,1),(3,1),(4,1)]:=⟨_,Tryz.underlying25,by kernel_rfl⟩
instance sl_22:SLT Tryz.prog 22 9 1:=⟨by kernel_rfl⟩
instance sl_23:SLT Tryz.prog 23 123 4:=⟨by kernel_rfl⟩
instance sl_85:SLT Tryz.prog 85 5 1:=⟨by kernel_rfl⟩
instance st_9:STT Tryz.prog 9:=⟨by kernel_rfl⟩
instance sz_123:SZ Tryz.prog 123 4:=⟨by kernel_rfl⟩
instance sz_23:SZ Tryz.prog 23 1:=⟨by kernel_rfl⟩
instance sz_25:SZ Tryz.prog 25 5:=⟨by kernel_rfl⟩
instance sz_85:SZ Tryz.prog 85 1:=⟨by kernel_rfl⟩
instance sz_9:SZ Tryz.prog 9 1:=⟨by kernel_rfl⟩
instance zt_123:ZT Tryz.prog 123 (.agg #[(.int .i64 0),(.string ⟨#[]⟩),(Sl.val ⟨none,0,0⟩),(.int .i64 0)]):=⟨Tryz.t123,by kernel_rfl,by kernel_rfl⟩
instance zt_25:ZT Tryz.prog 25 (.agg #[(.int .i64 0),(Sl.val ⟨none,0,0⟩),(Sl.val ⟨none,0,0⟩),(Sl.val ⟨none,0,0⟩),(.int .i64 0)]):=⟨Tryz.t25,by kernel_rfl,by kernel_rfl⟩
instance zt_5:ZT Tryz.prog 5 (.int .u8 0):=⟨Tryz.t5,by kernel_rfl,by kernel_rfl⟩
instance zt_9:ZT Tryz.prog 9 (.string ⟨#[]⟩):=⟨Tryz.t9,by kernel_rfl,by kernel_rfl⟩
end F_IRRef05
def zAo.s5 (Q:Bool→K) (X2:Int→K) (X3:Int→K) (X4:Int→K) (t1_5:Addr) (i5_5:Int) (t74_5:Bool):K :=
 Ite t74_5
  (Q true)
  (Ar (IntKind.wrap .i64 (i5_5 + 1)) fun t56 =>
  X4 t56)
def zAo.b4 (Q:Bool→K) (X2:Int→K) (X3:Int→K) (X4:Int→K) (t1_4:Addr) (i5_4:Int):K :=
 Ld (t1_4.add 3) Sl.val fun t52 =>
 Ite (decide (i5_4 < (t52.n:Int)))
  (Ld (t1_4.add 3) Sl.val fun t58 =>
  Idx t58 i5_4 4 fun t60 =>
  Ld (t60.add 1) Value.string fun t62 =>
  Ite (decide ((200:Int) < (t62.size:Int)))
   (zAo.s5 Q X2 X3 X4 t1_4 i5_4 true)
   (Ld (t1_4.add 3) Sl.val fun t67 =>
   Idx t67 i5_4 4 fun t69 =>
   Ld (t69.add 2) Sl.val fun t71 =>
   zAo.s5 Q X2 X3 X4 t1_4 i5_4 (decide ((200:Int) < (t71.n:Int)))))
  (Q false)
def zAo.b3 (Q:Bool→K) (X2:Int→K) (X3:Int→K) (t1_3:Addr) (i4_3:Int):K :=
 Ld (t1_3.add 2) Sl.val fun t38 =>
 Ite (decide (i4_3 < (t38.n:Int)))
  (Ld (t1_3.add 2) Sl.val fun t44 =>
  Idx t44 i4_3 1 fun t46 =>
  Ld t46 Value.string fun t47 =>
  Ite (decide ((200:Int) < (t47.size:Int)))
   (Q true)
   (Ar (IntKind.wrap .i64 (i4_3 + 1)) fun t42 =>
   X3 t42))
  (LoopK (α:=Int) (fun X x=>zAo.b4 Q X2 X3 X t1_3 x) 0)
def zAo.b2 (Q:Bool→K)  (X2:Int→K) (t1_2:Addr) (i3_2:Int):K :=
 Ld (t1_2.add 1) Sl.val fun t24 =>
 Ite (decide (i3_2 < (t24.n:Int)))
  (Ld (t1_2.add 1) Sl.val fun t30 =>
  Idx t30 i3_2 1 fun t32 =>
  Ld t32 Value.string fun t33 =>
  Ite (decide ((200:Int) < (t33.size:Int)))
   (Q true)
   (Ar (IntKind.wrap .i64 (i3_2 + 1)) fun t28 =>
   X2 t28))
  (LoopK (α:=Int) (fun X x=>zAo.b3 Q X2 X t1_2 x) 0)
def zAo.s1 (Q:Bool→K)  (t1_1:Addr) (t21_1:Bool):K :=
 Ite t21_1
  (Q true)
  (LoopK (α:=Int) (fun X x=>zAo.b2 Q X t1_1 x) 0)
def zAo (t0:(Array Value)) (Q:Bool→K):K :=
 New 25 t0 fun t1 =>
 Ld (t1.add 1) Sl.val fun t7 =>
 Ite (decide ((40:Int) < (t7.n:Int)))
  (zAo.s1 Q t1 true)
  (Ld (t1.add 2) Sl.val fun t12 =>
  Ite (decide ((40:Int) < (t12.n:Int)))
   (zAo.s1 Q t1 true)
   (Ld (t1.add 3) Sl.val fun t18 =>
   zAo.s1 Q t1 (decide ((60:Int) < (t18.n:Int)))))
theorem zLl (t0:(Array Value)) (Q:Bool→K) (w:World) (h:zAo t0 Q w):zAo.call t0 Q w:=by
 have hJ17:∀ (X2:Int→K),XH 4 X2→∀ (X3:Int→K),XH 9 X3→∀ (X4:Int→K),XH 14 X4→JH 17 fun D=>∃ (t1_5:Addr) (i5_5:Int),D [(1,(.pointer (some t1_5))),(5,(.int .i64 i5_5))] (fun C=>∀ (t74_5:Bool),C [(1,(.pointer (some t1_5))),(5,(.int .i64 i5_5)),(74,(.bool t74_5))] (zAo.s5 Q X2 X3 X4 t1_5 i5_5 t74_5)):=by intros; exact ⟨fun _ ⟨_,_,h⟩=>⟨_,_,h⟩⟩
 have hL14:∀ (X2:Int→K),XH 4 X2→∀ (X3:Int→K),XH 9 X3→∀ (t1_4:Addr),LH 14 (fun x:Int=>[(1,(.pointer (some t1_4))),(5,(.int .i64 x))]) (fun X x=>zAo.b4 Q X2 X3 X t1_4 x):=by intros; exact ⟨⟩
 have hL9:∀ (X2:Int→K),XH 4 X2→∀ (t1_3:Addr),LH 9 (fun x:Int=>[(1,(.pointer (some t1_3))),(4,(.int .i64 x))]) (fun X x=>zAo.b3 Q X2 X t1_3 x):=by intros; exact ⟨⟩
 have hL4:∀ (t1_2:Addr),LH 4 (fun x:Int=>[(1,(.pointer (some t1_2))),(3,(.int .i64 x))]) (fun X x=>zAo.b2 Q X t1_2 x):=by intros; exact ⟨⟩
 have hJ2:JH 2 fun D=>∃ (t1_1:Addr),D [(1,(.pointer (some t1_1)))] (fun C=>∀ (t21_1:Bool),C [(1,(.pointer (some t1_1))),(21,(.bool t21_1))] (zAo.s1 Q t1_1 t21_1)):=by intros; exact ⟨fun _ ⟨_,h⟩=>⟨_,_,h⟩⟩
 exact g_walk 75 h Tryz.func9
def zAJ.s3 (Q:Bool→K) (X2:Int→K) (regions1_3:Int) (t2_3:Addr) (keys5_3:Sl) (i6_3:Int) (t90_3:Bool):K :=
 Ite t90_3
  (Q false)
  (Ar (IntKind.wrap .i64 (i6_3 + 1)) fun t60 =>
  X2 t60)
def zAJ.s4 (Q:Bool→K) (X2:Int→K) (t4_4:Bool):K :=
 Q t4_4
def zAJ.b6 (Q:Bool→K) (X2:Int→K) (X6:Int→K) (t2_6:Addr) (i7_6:Int):K :=
 Ld (t2_6.add 3) Sl.val fun t137 =>
 Ite (decide (i7_6 < (t137.n:Int)))
  (Dr <|
  LdN t2_6 5 fun t142 =>
  Ld (t2_6.add 3) Sl.val fun t144 =>
  Idx t144 i7_6 4 fun t146 =>
  LdN t146 4 fun t147 =>
  zA1.call t142 t147 fun t148 =>
  Ite (!t148)
   (Q false)
   (Ar (IntKind.wrap .i64 (i7_6 + 1)) fun t141 =>
   X6 t141))
  (Q true)
def zAJ.s5 (Q:Bool→K) (X2:Int→K) (t2_5:Addr) (t134_5:Bool):K :=
 Ite t134_5
  (Q false)
  (LoopK (α:=Int) (fun X x=>zAJ.b6 Q X2 X t2_5 x) 0)
def zAJ.b2 (Q:Bool→K)  (X2:Int→K) (regions1_2:Int) (t2_2:Addr) (keys5_2:Sl) (i6_2:Int):K :=
 Ite (decide (i6_2 < (keys5_2.n:Int)))
  (Dr <|
  Idx keys5_2 i6_2 1 fun t63 =>
  Ld t63 Value.string fun t64 =>
  Ite (decide ((t64.size:Int) < 1))
   (zAJ.s3 Q X2 regions1_2 t2_2 keys5_2 i6_2 true)
   (Idx keys5_2 i6_2 1 fun t70 =>
   Ld t70 Value.string fun t71 =>
   Ite (decide ((16:Int) < (t71.size:Int)))
    (zAJ.s3 Q X2 regions1_2 t2_2 keys5_2 i6_2 true)
    (Ld (t2_2.add 1) Sl.val fun t78 =>
    Ite (decide (i6_2 < (t78.n:Int)))
     (Idx keys5_2 i6_2 1 fun t86 =>
     Ld (t2_2.add 2) Sl.val fun t83 =>
     Ld t86 Value.string fun t87 =>
     zDS.call t83 t87 fun t88 =>
     zAJ.s3 Q X2 regions1_2 t2_2 keys5_2 i6_2 t88)
     (zAJ.s3 Q X2 regions1_2 t2_2 keys5_2 i6_2 false))))
  (Ld t2_2 (Value.int .i64) fun t92 =>
  Ite (decide (t92 = 2))
   (Ld (t2_2.add 1) Sl.val fun t95 =>
   Ite (decide ((t95.n:Int) = 0))
    (Ld (t2_2.add 3) Sl.val fun t100 =>
    Ite (decide ((t100.n:Int) = 0))
     (Ld (t2_2.add 2) Sl.val fun t106 =>
     Ite (decide ((t106.n:Int) = 1))
      (Ld (t2_2.add 4) (Value.int .i64) fun t112 =>
      Ite (decide ((0:Int) ≤ t112))
       (Ld (t2_2.add 4) (Value.int .i64) fun t117 =>
       zAJ.s4 Q X2 (decide (t117 < regions1_2)))
       (zAJ.s4 Q X2 false))
      (zAJ.s4 Q X2 false))
     (zAJ.s4 Q X2 false))
    (zAJ.s4 Q X2 false))
   (Ld t2_2 (Value.int .i64) fun t122 =>
   Ite (decide (t122 ≠ 1))
    (zAJ.s5 Q X2 t2_2 true)
    (Ld (t2_2.add 4) (Value.int .i64) fun t126 =>
    Ite (decide (t126 ≠ 0))
     (zAJ.s5 Q X2 t2_2 true)
     (Ld (t2_2.add 3) Sl.val fun t131 =>
     zAJ.s5 Q X2 t2_2 (decide ((16:Int) < (t131.n:Int)))))))
def zAJ.s1 (Q:Bool→K)  (regions1_1:Int) (t2_1:Addr) (t47_1:Bool):K :=
 Ite t47_1
  (Q false)
  (Dr <| WithS fun S =>
  LdS S (t2_1.add 1) Sl.val fun t50 =>
  LdS S (t2_1.add 2) Sl.val fun t53 =>
  New 9 #[] fun t48 =>
  Sv S <|
  Do Tryz.prog (Builtin.append_ #[22,22] 22 #[(Sl.val (Sl.mk (some t48) 0 0)),(Sl.val t50)]) Sl.val fun t51 =>
  Sv S <|
  Do Tryz.prog (Builtin.append_ #[22,22] 22 #[(Sl.val t51),(Sl.val t53)]) Sl.val fun t54 =>
  LoopK (α:=Int) (fun X x=>zAJ.b2 Q X regions1_1 t2_1 t54 x) 0)
def zAJ (t0:(Array Value)) (regions1:Int) (Q:Bool→K):K :=
 New 25 t0 fun t2 =>
 Ite (decide (regions1 < 1))
  (zAJ.s1 Q regions1 t2 true)
  (Ite (decide ((3:Int) < regions1))
   (zAJ.s1 Q regions1 t2 true)
   (Ld (t2.add 1) Sl.val fun t16 =>
   zCe.call t16 fun t17 =>
   Ite (!t17)
    (zAJ.s1 Q regions1 t2 true)
    (Ld (t2.add 2) Sl.val fun t22 =>
    zCe.call t22 fun t23 =>
    Ite (!t23)
     (zAJ.s1 Q regions1 t2 true)
     (Ld (t2.add 1) Sl.val fun t28 =>
     Ite (decide ((8:Int) < (t28.n:Int)))
      (zAJ.s1 Q regions1 t2 true)
      (Ld (t2.add 2) Sl.val fun t34 =>
      Ite (decide ((8:Int) < (t34.n:Int)))
       (zAJ.s1 Q regions1 t2 true)
       (Ld (t2.add 1) Sl.val fun t40 =>
       Ld (t2.add 2) Sl.val fun t43 =>
       Ar (IntKind.wrap .i64 ((t40.n:Int) + (t43.n:Int))) fun t45 =>
       zAJ.s1 Q regions1 t2 (decide ((8:Int) < t45))))))))
theorem zLm (t0:(Array Value)) (regions1:Int) (Q:Bool→K) (w:World) (h:zAJ t0 regions1 Q w):zAJ.call t0 regions1 Q w:=by
 have hJ8:∀ (X2:Int→K),XH 5 X2→JH 8 fun D=>∃ (regions1_3:Int) (t2_3:Addr) (keys5_3:Sl) (i6_3:Int),D [(1,(.int .i64 regions1_3)),(2,(.pointer (some t2_3))),(5,(Sl.val keys5_3)),(6,(.int .i64 i6_3))] (fun C=>∀ (t90_3:Bool),C [(1,(.int .i64 regions1_3)),(2,(.pointer (some t2_3))),(5,(Sl.val keys5_3)),(6,(.int .i64 i6_3)),(90,(.bool t90_3))] (zAJ.s3 Q X2 regions1_3 t2_3 keys5_3 i6_3 t90_3)):=by intros; exact ⟨fun _ ⟨_,_,_,_,h⟩=>⟨_,_,h⟩⟩
 have hD7:DH 7 1 [27] (.s [0,1,2,3,4,5,6] (.i (.s [7,8,9,10,11,12,13,14,15,16,17,18,19,20,21,22,23,24,25,26,27,28,29] .e) (.s [7,8,9,10,11,12,13,14] (.i (.s [15,16,17,18,19,20,21,22,23,24,25,26,27,28,29] .e) (.s [15,16,17,18,19,20] (.i (.s [21,23,24,25,22,26] (.a [(27,0,.s [28,29] .e)])) (.s [21,22,23,24,25,26,27,28,29] .e))))))):=by intros; exact ⟨⟩
 have hJ1000010:∀ (X2:Int→K),XH 5 X2→JH 1000010 fun D=>D [] (fun C=>∀ (t4_4:Bool),C [(4,(.bool t4_4))] (zAJ.s4 Q X2 t4_4)):=by intros; exact ⟨fun _ h=>⟨_,_,h⟩⟩
 have hD16:DH 16 1 [6] (.s [1,3,0,2,4,5] (.a [(6,0,.s [7] .e)])):=by intros; exact ⟨⟩
 have hL14:∀ (X2:Int→K),XH 5 X2→∀ (t2_6:Addr),LH 14 (fun x:Int=>[(2,(.pointer (some t2_6))),(7,(.int .i64 x))]) (fun X x=>zAJ.b6 Q X2 X t2_6 x):=by intros; exact ⟨⟩
 have hJ12:∀ (X2:Int→K),XH 5 X2→JH 12 fun D=>∃ (t2_5:Addr),D [(2,(.pointer (some t2_5)))] (fun C=>∀ (t134_5:Bool),C [(2,(.pointer (some t2_5))),(134,(.bool t134_5))] (zAJ.s5 Q X2 t2_5 t134_5)):=by intros; exact ⟨fun _ ⟨_,h⟩=>⟨_,_,h⟩⟩
 have hL5:∀ (regions1_2:Int) (t2_2:Addr) (keys5_2:Sl),LH 5 (fun x:Int=>[(1,(.int .i64 regions1_2)),(2,(.pointer (some t2_2))),(5,(Sl.val keys5_2)),(6,(.int .i64 x))]) (fun X x=>zAJ.b2 Q X regions1_2 t2_2 keys5_2 x):=by intros; exact ⟨⟩
 have hD3:DH 3 2 [6] (.s [1,4,2,5] (.a [(0,1,.a [(3,1,.a [(6,0,.s [7] .e)])])])):=by intros; exact ⟨⟩
 have hJ2:JH 2 fun D=>∃ (regions1_1:Int) (t2_1:Addr),D [(1,(.int .i64 regions1_1)),(2,(.pointer (some t2_1)))] (fun C=>∀ (t47_1:Bool),C [(1,(.int .i64 regions1_1)),(2,(.pointer (some t2_1))),(47,(.bool t47_1))] (zAJ.s1 Q regions1_1 t2_1 t47_1)):=by intros; exact ⟨fun _ ⟨_,_,h⟩=>⟨_,_,h⟩⟩
 exact g_walk 150 h Tryz.func10
def zCe.b1 (Q:Bool→K)  (X1:Int→K) (list0_1:Sl) (i3_1:Int):K :=
 Ite (decide (i3_1 < (list0_1.n:Int)))
  (Dr <|
  Ar (IntKind.wrap .i64 (i3_1 - 1)) fun t12 =>
  Idx list0_1 t12 1 fun t13 =>
  Ld t13 Value.string fun t14 =>
  Idx list0_1 i3_1 1 fun t17 =>
  Ld t17 Value.string fun t18 =>
  Ite (!(Op.bytesLess t14.toList t18.toList))
   (Q false)
   (Ar (IntKind.wrap .i64 (i3_1 + 1)) fun t9 =>
   X1 t9))
  (Q true)
def zCe (list0:Sl) (Q:Bool→K):K :=
 LoopK (α:=Int) (fun X x=>zCe.b1 Q X list0 x) 1
theorem zK9 (list0:Sl) (Q:Bool→K) (w:World) (h:zCe list0 Q w):zCe.call list0 Q w:=by
 have hL2:∀ (list0_1:Sl),LH 2 (fun x:Int=>[(0,(Sl.val list0_1)),(3,(.int .i64 x))]) (fun X x=>zCe.b1 Q X list0_1 x):=by intros; exact ⟨⟩
 exact g_walk 20 h Tryz.func43
def zDS.b1 (Q:Bool→K)  (X1:Int→K) (list0_1:Sl) (key1_1:ByteArray) (i5_1:Int):K :=
 Ite (decide (i5_1 < (list0_1.n:Int)))
  (Idx list0_1 i5_1 1 fun t14 =>
  Ld t14 Value.string fun t15 =>
  Ite (t15.toList == key1_1.toList)
   (Q true)
   (Ar (IntKind.wrap .i64 (i5_1 + 1)) fun t11 =>
   X1 t11))
  (Q false)
def zDS (list0:Sl) (key1:ByteArray) (Q:Bool→K):K :=
 LoopK (α:=Int) (fun X x=>zDS.b1 Q X list0 key1 x) 0
theorem zOf (list0:Sl) (key1:ByteArray) (Q:Bool→K) (w:World) (h:zDS list0 key1 Q w):zDS.call list0 key1 Q w:=by
 have hL2:∀ (list0_1:Sl) (key1_1:ByteArray),LH 2 (fun x:Int=>[(0,(Sl.val list0_1)),(1,(.string key1_1)),(5,(.int .i64 x))]) (fun X x=>zDS.b1 Q X list0_1 key1_1 x):=by intros; exact ⟨⟩
 exact g_walk 18 h Tryz.func44
def zA1.s2 (Q:Bool→K)  (t4_2:Bool):K :=
 Q t4_2
def zA1.s5 (Q:Bool→K)  (t4_5:Bool):K :=
 Q t4_5
def zA1.s4 (Q:Bool→K)  (o3_4:Addr) (t66_4:Bool):K :=
 Ite t66_4
  (Q false)
  (Ld o3_4 (Value.int .i64) fun t68 =>
  Ite (decide (t68 = 2))
   (zA1.s5 Q true)
   (Ld o3_4 (Value.int .i64) fun t72 =>
   Ite (decide (t72 = 4))
    (zA1.s5 Q true)
    (Ld (o3_4.add 2) Sl.val fun t77 =>
    zA1.s5 Q (decide ((t77.n:Int) = 0)))))
def zA1.s3 (Q:Bool→K)  (o3_3:Addr) (t58_3:Bool):K :=
 Ite t58_3
  (Q false)
  (Ld o3_3 (Value.int .i64) fun t60 =>
  Ite (decide (t60 ≠ 6))
   (Ld (o3_3.add 3) (Value.int .i64) fun t64 =>
   zA1.s4 Q o3_3 (decide (t64 ≠ 0)))
   (zA1.s4 Q o3_3 false))
def zA1.s1 (Q:Bool→K)  (t2_1:Addr) (o3_1:Addr) (t18_1:Bool):K :=
 Ite t18_1
  (Q false)
  (Ld o3_1 (Value.int .i64) fun t20 =>
  Ite (decide (t20 = 7))
   (Ld (o3_1.add 1) Value.string fun t23 =>
   Ite (t23.toList == (⟨#[]⟩:ByteArray).toList)
    (Ld (o3_1.add 3) (Value.int .i64) fun t27 =>
    zA1.s2 Q (decide (t27 = 0)))
    (zA1.s2 Q false))
   (Ld (t2_1.add 2) Sl.val fun t31 =>
   Ld (o3_1.add 1) Value.string fun t33 =>
   zDS.call t31 t33 fun t34 =>
   Ite (!t34)
    (Ld (t2_1.add 1) Sl.val fun t38 =>
    Ld (o3_1.add 1) Value.string fun t40 =>
    zDS.call t38 t40 fun t41 =>
    Ite (!t41)
     (zA1.s3 Q o3_1 true)
     (Ld o3_1 (Value.int .i64) fun t45 =>
     Ite (decide (t45 = 2))
      (zA1.s3 Q o3_1 true)
      (Ld o3_1 (Value.int .i64) fun t50 =>
      Ite (decide (t50 = 3))
       (zA1.s3 Q o3_1 true)
       (Ld o3_1 (Value.int .i64) fun t55 =>
       zA1.s3 Q o3_1 (decide (t55 = 6))))))
    (zA1.s3 Q o3_1 false)))
def zA1 (t0:(Array Value)) (o1:(Array Value)) (Q:Bool→K):K :=
 New 25 t0 fun t2 =>
 New 123 o1 fun o3 =>
 Ld (o3.add 2) Sl.val fun t6 =>
 Ite (decide ((32:Int) < (t6.n:Int)))
  (zA1.s1 Q t2 o3 true)
  (Ld o3 (Value.int .i64) fun t11 =>
  Ite (decide (t11 < 1))
   (zA1.s1 Q t2 o3 true)
   (Ld o3 (Value.int .i64) fun t16 =>
   zA1.s1 Q t2 o3 (decide ((7:Int) < t16))))
theorem zOg (t0:(Array Value)) (o1:(Array Value)) (Q:Bool→K) (w:World) (h:zA1 t0 o1 Q w):zA1.call t0 o1 Q w:=by
 have hJ1000004:JH 1000004 fun D=>D [] (fun C=>∀ (t4_2:Bool),C [(4,(.bool t4_2))] (zA1.s2 Q t4_2)):=by intros; exact ⟨fun _ h=>⟨_,_,h⟩⟩
 have hJ1000009:JH 1000009 fun D=>D [] (fun C=>∀ (t4_5:Bool),C [(4,(.bool t4_5))] (zA1.s5 Q t4_5)):=by intros; exact ⟨fun _ h=>⟨_,_,h⟩⟩
 have hJ8:JH 8 fun D=>∃ (o3_4:Addr),D [(3,(.pointer (some o3_4)))] (fun C=>∀ (t66_4:Bool),C [(3,(.pointer (some o3_4))),(66,(.bool t66_4))] (zA1.s4 Q o3_4 t66_4)):=by intros; exact ⟨fun _ ⟨_,h⟩=>⟨_,_,h⟩⟩
 have hJ6:JH 6 fun D=>∃ (o3_3:Addr),D [(3,(.pointer (some o3_3)))] (fun C=>∀ (t58_3:Bool),C [(3,(.pointer (some o3_3))),(58,(.bool t58_3))] (zA1.s3 Q o3_3 t58_3)):=by intros; exact ⟨fun _ ⟨_,h⟩=>⟨_,_,h⟩⟩
 have hJ2:JH 2 fun D=>∃ (t2_1:Addr) (o3_1:Addr),D [(2,(.pointer (some t2_1))),(3,(.pointer (some o3_1)))] (fun C=>∀ (t18_1:Bool),C [(2,(.pointer (some t2_1))),(3,(.pointer (some o3_1))),(18,(.bool t18_1))] (zA1.s1 Q t2_1 o3_1 t18_1)):=by intros; exact ⟨fun _ ⟨_,_,h⟩=>⟨_,_,h⟩⟩
 exact g_walk 81 h Tryz.func45
def zAr.s4 (Q:Bool→K) (X2:Int→K) (a2_4:Addr) (b3_4:Addr) (i5_4:Int) (t89_4:Bool):K :=
 Ite t89_4
  (Q false)
  (Ar (IntKind.wrap .i64 (i5_4 + 1)) fun t51 =>
  X2 t51)
def zAr.s3 (Q:Bool→K) (X2:Int→K) (a2_3:Addr) (b3_3:Addr) (i5_3:Int) (x6_3:Addr) (y7_3:Addr):K :=
 Ld x6_3 (Value.int .i64) fun t63 =>
 Ld y7_3 (Value.int .i64) fun t65 =>
 Ite (decide (t63 ≠ t65))
  (zAr.s4 Q X2 a2_3 b3_3 i5_3 true)
  (Ld (x6_3.add 1) Value.string fun t69 =>
  Ld (y7_3.add 1) Value.string fun t71 =>
  Ite (!(t69.toList == t71.toList))
   (zAr.s4 Q X2 a2_3 b3_3 i5_3 true)
   (Ld (x6_3.add 3) (Value.int .i64) fun t76 =>
   Ld (y7_3.add 3) (Value.int .i64) fun t78 =>
   Ite (decide (t76 ≠ t78))
    (zAr.s4 Q X2 a2_3 b3_3 i5_3 true)
    (Ld (x6_3.add 2) Sl.val fun t83 =>
    Rd Tryz.prog (convert 85 9 (Sl.val t83)) Value.string fun t84 =>
    Ld (y7_3.add 2) Sl.val fun t86 =>
    Rd Tryz.prog (convert 85 9 (Sl.val t86)) Value.string fun t87 =>
    zAr.s4 Q X2 a2_3 b3_3 i5_3 (!(t84.toList == t87.toList)))))
def zAr.b2 (Q:Bool→K)  (X2:Int→K) (a2_2:Addr) (b3_2:Addr) (i5_2:Int):K :=
 Ld (a2_2.add 3) Sl.val fun t47 =>
 Ite (decide (i5_2 < (t47.n:Int)))
  (Dr <| WithS fun S =>
  LdS S (a2_2.add 3) Sl.val fun t53 =>
  Idx t53 i5_2 4 fun t55 =>
  LdNS S t55 4 fun t56 =>
  LdS S (b3_2.add 3) Sl.val fun t58 =>
  Idx t58 i5_2 4 fun t60 =>
  LdNS S t60 4 fun t61 =>
  All [
   (New 123 #[(.int .i64 0),(.string ⟨#[]⟩),(Sl.val ⟨none,0,0⟩),(.int .i64 0)] fun x6 =>
   Sv S <|
   New 123 #[(.int .i64 0),(.string ⟨#[]⟩),(Sl.val ⟨none,0,0⟩),(.int .i64 0)] fun y7 =>
   Sv S <|
   StN x6 4 t56 <|
   Sv S <|
   StN y7 4 t61 <|
   zAr.s3 Q X2 a2_2 b3_2 i5_2 x6 y7),
   (New 123 #[(.int .i64 0),(.string ⟨#[]⟩),(Sl.val ⟨none,0,0⟩),(.int .i64 0)] fun y7 =>
   Sv S <|
   New 123 #[(.int .i64 0),(.string ⟨#[]⟩),(Sl.val ⟨none,0,0⟩),(.int .i64 0)] fun x6 =>
   Sv S <|
   StN x6 4 t56 <|
   Sv S <|
   StN y7 4 t61 <|
   zAr.s3 Q X2 a2_2 b3_2 i5_2 x6 y7)
   ])
  (Q true)
def zAr.s1 (Q:Bool→K)  (a2_1:Addr) (b3_1:Addr) (t44_1:Bool):K :=
 Ite t44_1
  (Q false)
  (LoopK (α:=Int) (fun X x=>zAr.b2 Q X a2_1 b3_1 x) 0)
def zAr (a0:(Array Value)) (b1:(Array Value)) (Q:Bool→K):K :=
 New 25 a0 fun a2 =>
 New 25 b1 fun b3 =>
 Ld a2 (Value.int .i64) fun t9 =>
 Ld b3 (Value.int .i64) fun t11 =>
 Ite (decide (t9 ≠ t11))
  (zAr.s1 Q a2 b3 true)
  (Ld (a2.add 4) (Value.int .i64) fun t15 =>
  Ld (b3.add 4) (Value.int .i64) fun t17 =>
  Ite (decide (t15 ≠ t17))
   (zAr.s1 Q a2 b3 true)
   (Ld (a2.add 1) Sl.val fun t22 =>
   Ld (b3.add 1) Sl.val fun t24 =>
   zB2.call t22 t24 fun t25 =>
   Ite (!t25)
    (zAr.s1 Q a2 b3 true)
    (Ld (a2.add 2) Sl.val fun t30 =>
    Ld (b3.add 2) Sl.val fun t32 =>
    zB2.call t30 t32 fun t33 =>
    Ite (!t33)
     (zAr.s1 Q a2 b3 true)
     (Ld (a2.add 3) Sl.val fun t38 =>
     Ld (b3.add 3) Sl.val fun t41 =>
     zAr.s1 Q a2 b3 (decide ((t38.n:Int) ≠ (t41.n:Int)))))))
theorem zM1 (a0:(Array Value)) (b1:(Array Value)) (Q:Bool→K) (w:World) (h:zAr a0 b1 Q w):zAr.call a0 b1 Q w:=by
 have hJ8:∀ (X2:Int→K),XH 4 X2→JH 8 fun D=>∃ (a2_4:Addr) (b3_4:Addr) (i5_4:Int),D [(2,(.pointer (some a2_4))),(3,(.pointer (some b3_4))),(5,(.int .i64 i5_4))] (fun C=>∀ (t89_4:Bool),C [(2,(.pointer (some a2_4))),(3,(.pointer (some b3_4))),(5,(.int .i64 i5_4)),(89,(.bool t89_4))] (zAr.s4 Q X2 a2_4 b3_4 i5_4 t89_4)):=by intros; exact ⟨fun _ ⟨_,_,_,h⟩=>⟨_,_,h⟩⟩
 have hJ7:∀ (X2:Int→K),XH 4 X2→JH 7 fun D=>∃ (a2_3:Addr) (b3_3:Addr) (i5_3:Int),D [(2,(.pointer (some a2_3))),(3,(.pointer (some b3_3))),(5,(.int .i64 i5_3))] (fun C=>∀ (x6_3:Addr) (y7_3:Addr),C [(2,(.pointer (some a2_3))),(3,(.pointer (some b3_3))),(5,(.int .i64 i5_3)),(6,(.pointer (some x6_3))),(7,(.pointer (some y7_3)))] (zAr.s3 Q X2 a2_3 b3_3 i5_3 x6_3 y7_3)):=by intros; exact ⟨fun _ ⟨_,_,_,h⟩=>⟨_,_,h⟩⟩
 have hD6:DH 6 2 [13] (.s [0,2,5,7,1,3,4,6,8,9] (.a [(10,1,.a [(11,1,.a [(12,1,.a [(13,0,.e)])])]),(11,1,.a [(10,1,.a [(12,1,.a [(13,0,.e)])])])])):=by intros; exact ⟨⟩
 have hL4:∀ (a2_2:Addr) (b3_2:Addr),LH 4 (fun x:Int=>[(2,(.pointer (some a2_2))),(3,(.pointer (some b3_2))),(5,(.int .i64 x))]) (fun X x=>zAr.b2 Q X a2_2 b3_2 x):=by intros; exact ⟨⟩
 have hJ2:JH 2 fun D=>∃ (a2_1:Addr) (b3_1:Addr),D [(2,(.pointer (some a2_1))),(3,(.pointer (some b3_1)))] (fun C=>∀ (t44_1:Bool),C [(2,(.pointer (some a2_1))),(3,(.pointer (some b3_1))),(44,(.bool t44_1))] (zAr.s1 Q a2_1 b3_1 t44_1)):=by intros; exact ⟨fun _ ⟨_,_,h⟩=>⟨_,_,h⟩⟩
 exact g_walk 90 h Tryz.func67
def zA4.s2 (Q:Sl→K) (X1:Sl→Int→K) (out3_2:Sl) (all4_2:Sl) (i5_2:Int):K :=
 Ar (IntKind.wrap .i64 (i5_2 + 1)) fun t21 =>
 X1 out3_2 t21
def zA4.s4 (Q:Sl→K) (X1:Sl→Int→K) (X3:Int→K) (out3_4:Sl) (all4_4:Sl) (i5_4:Int) (k6_4:Int) (t51_4:Bool):K :=
 Ite t51_4
  (Idx out3_4 k6_4 1 fun t56 =>
  Ld t56 Value.string fun t57 =>
  Ar (IntKind.wrap .i64 (k6_4 - 1)) fun t62 =>
  Idx out3_4 t62 1 fun t63 =>
  Ld t63 Value.string fun t64 =>
  Idx out3_4 k6_4 1 fun t65 =>
  St t65 (.string t64) <|
  Ar (IntKind.wrap .i64 (k6_4 - 1)) fun t68 =>
  Idx out3_4 t68 1 fun t70 =>
  St t70 (.string t57) <|
  Ar (IntKind.wrap .i64 (k6_4 - 1)) fun t53 =>
  X3 t53)
  (zA4.s2 Q X1 out3_4 all4_4 i5_4)
def zA4.b3 (Q:Sl→K) (X1:Sl→Int→K) (X3:Int→K) (out3_3:Sl) (all4_3:Sl) (i5_3:Int) (k6_3:Int):K :=
 Dr <|
 Ite (decide ((0:Int) < k6_3))
  (Idx out3_3 k6_3 1 fun t43 =>
  Ld t43 Value.string fun t44 =>
  Ar (IntKind.wrap .i64 (k6_3 - 1)) fun t47 =>
  Idx out3_3 t47 1 fun t48 =>
  Ld t48 Value.string fun t49 =>
  zA4.s4 Q X1 X3 out3_3 all4_3 i5_3 k6_3 (Op.bytesLess t44.toList t49.toList))
  (zA4.s4 Q X1 X3 out3_3 all4_3 i5_3 k6_3 false)
def zA4.b1 (Q:Sl→K)  (X1:Sl→Int→K) (all4_1:Sl) (out3_1:Sl) (i5_1:Int):K :=
 Ite (decide (i5_1 < (all4_1.n:Int)))
  (Idx all4_1 i5_1 1 fun t25 =>
  Ld t25 Value.string fun t26 =>
  zDS.call out3_1 t26 fun t27 =>
  Ite t27
   (zA4.s2 Q X1 out3_1 all4_1 i5_1)
   (Idx all4_1 i5_1 1 fun t31 =>
   Ld t31 Value.string fun t32 =>
   New 9 #[(.string t32)] fun t33 =>
   Do Tryz.prog (Builtin.append_ #[22,22] 22 #[(Sl.val out3_1),(Sl.val (Sl.mk (some t33) 1 1))]) Sl.val fun t34 =>
   Ar (IntKind.wrap .i64 ((t34.n:Int) - 1)) fun t37 =>
   LoopK (α:=Int) (fun X x=>zA4.b3 Q X1 X t34 all4_1 i5_1 x) t37))
  (Q out3_1)
def zA4 (t0:(Array Value)) (Q:Sl→K):K :=
 New 25 t0 fun t1 =>
 New 9 #[] fun t8 =>
 Dr <| WithS fun S =>
 LdS S (t1.add 1) Sl.val fun t11 =>
 LdS S (t1.add 2) Sl.val fun t14 =>
 New 9 #[] fun t9 =>
 Sv S <|
 Do Tryz.prog (Builtin.append_ #[22,22] 22 #[(Sl.val (Sl.mk (some t9) 0 0)),(Sl.val t11)]) Sl.val fun t12 =>
 Sv S <|
 Do Tryz.prog (Builtin.append_ #[22,22] 22 #[(Sl.val t12),(Sl.val t14)]) Sl.val fun t15 =>
 LoopK (α:=Sl×Int) (fun X x=>zA4.b1 Q (fun out3_1 i5_1=>X (out3_1,i5_1)) t15 x.1 x.2) ((Sl.mk (some t8) 0 0),0)
theorem zM2 (t0:(Array Value)) (Q:Sl→K) (w:World) (h:zA4 t0 Q w):zA4.call t0 Q w:=by
 have hJ5:∀ (X1:(Sl×Int)→K),XH 4 X1→JH 5 fun D=>∃ (all4_2:Sl) (i5_2:Int),D [(4,(Sl.val all4_2)),(5,(.int .i64 i5_2))] (fun C=>∀ (out3_2:Sl),C [(3,(Sl.val out3_2)),(4,(Sl.val all4_2)),(5,(.int .i64 i5_2))] (zA4.s2 Q (fun out3_1 i5_1=>X1 (out3_1,i5_1)) out3_2 all4_2 i5_2)):=by intros; exact ⟨fun _ ⟨_,_,h⟩=>⟨_,_,h⟩⟩
 have hJ1000009:∀ (X1:(Sl×Int)→K),XH 4 X1→∀ (X3:Int→K),XH 9 X3→JH 1000009 fun D=>∃ (out3_4:Sl) (all4_4:Sl) (i5_4:Int) (k6_4:Int),D [(3,(Sl.val out3_4)),(4,(Sl.val all4_4)),(5,(.int .i64 i5_4)),(6,(.int .i64 k6_4))] (fun C=>∀ (t51_4:Bool),C [(3,(Sl.val out3_4)),(4,(Sl.val all4_4)),(5,(.int .i64 i5_4)),(6,(.int .i64 k6_4)),(51,(.bool t51_4))] (zA4.s4 Q (fun out3_1 i5_1=>X1 (out3_1,i5_1)) X3 out3_4 all4_4 i5_4 k6_4 t51_4)):=by intros; exact ⟨fun _ ⟨_,_,_,_,h⟩=>⟨_,_,h⟩⟩
 have hL9:∀ (X1:(Sl×Int)→K),XH 4 X1→∀ (out3_3:Sl) (all4_3:Sl) (i5_3:Int),LH 9 (fun x:Int=>[(3,(Sl.val out3_3)),(4,(Sl.val all4_3)),(5,(.int .i64 i5_3)),(6,(.int .i64 x))]) (fun X x=>zA4.b3 Q (fun out3_1 i5_1=>X1 (out3_1,i5_1)) X out3_3 all4_3 i5_3 x):=by intros; exact ⟨⟩
 have hL4:∀ (all4_1:Sl),LH 4 (fun x:Sl×Int=>[(3,(Sl.val x.1)),(4,(Sl.val all4_1)),(5,(.int .i64 x.2))]) (fun X x=>zA4.b1 Q (fun out3_1 i5_1=>X (out3_1,i5_1)) all4_1 x.1 x.2):=by intros; exact ⟨⟩
 have hD2:DH 2 2 [6] (.s [1,4,2,5] (.a [(0,1,.a [(3,1,.a [(6,0,.s [7] .e)])])])):=by intros; exact ⟨⟩
 exact g_walk 72 h Tryz.func68
def zBi.b2 (Q:(Array Value)→K)  (X2:Int→K) (t1_2:Addr) (t2_2:Addr) (out3_2:Addr) (i4_2:Int):K :=
 Ld (t1_2.add 3) Sl.val fun t21 =>
 Ite (decide (i4_2 < (t21.n:Int)))
  (Ld (t1_2.add 3) Sl.val fun t27 =>
  Idx t27 i4_2 4 fun t29 =>
  LdN t29 4 fun t30 =>
  New 123 #[(.int .i64 0),(.string ⟨#[]⟩),(Sl.val ⟨none,0,0⟩),(.int .i64 0)] fun o5 =>
  StN o5 4 t30 <|
  New 5 #[] fun t31 =>
  Ld (t1_2.add 3) Sl.val fun t33 =>
  Idx t33 i4_2 4 fun t35 =>
  Ld (t35.add 2) Sl.val fun t37 =>
  Do Tryz.prog (Builtin.append_ #[85,85] 85 #[(Sl.val (Sl.mk (some t31) 0 0)),(Sl.val t37)]) Sl.val fun t38 =>
  St (o5.add 2) (Sl.val t38) <|
  Ld (out3_2.add 3) Sl.val fun t41 =>
  LdN o5 4 fun t42 =>
  Bld #[(.int .i64 0),(.string ⟨#[]⟩),(Sl.val ⟨none,0,0⟩),(.int .i64 0)] (fun i=>some (i * 4,4)) [(0,(.agg t42))] fun ct43 =>
  New 123 ct43 fun t43 =>
  Do Tryz.prog (Builtin.append_ #[23,23] 23 #[(Sl.val t41),(Sl.val (Sl.mk (some t43) 1 1))]) Sl.val fun t44 =>
  St (out3_2.add 3) (Sl.val t44) <|
  Ar (IntKind.wrap .i64 (i4_2 + 1)) fun t25 =>
  X2 t25)
  (LdN out3_2 5 fun t46 =>
  StN t2_2 5 t46 <|
  LdN t2_2 5 fun r0 =>
  Q r0)
def zBi.s1 (Q:(Array Value)→K)  (t1_1:Addr) (t2_1:Addr) (out3_1:Addr):K :=
 LoopK (α:=Int) (fun X x=>zBi.b2 Q X t1_1 t2_1 out3_1 x) 0
def zBi (t0:(Array Value)) (Q:(Array Value)→K):K :=
 New 25 t0 fun t1 =>
 New 25 #[(.int .i64 0),(Sl.val ⟨none,0,0⟩),(Sl.val ⟨none,0,0⟩),(Sl.val ⟨none,0,0⟩),(.int .i64 0)] fun t2 =>
 Dr <| WithS fun S =>
 LdS S t1 (Value.int .i64) fun t7 =>
 LdS S (t1.add 4) (Value.int .i64) fun t9 =>
 LdS S (t1.add 1) Sl.val fun t12 =>
 LdS S (t1.add 2) Sl.val fun t16 =>
 All [
  (New 9 #[] fun t10 =>
  Sv S <|
  All [
   (Do Tryz.prog (Builtin.append_ #[22,22] 22 #[(Sl.val (Sl.mk (some t10) 0 0)),(Sl.val t12)]) Sl.val fun t13 =>
   Sv S <|
   All [
    (New 9 #[] fun t14 =>
    Sv S <|
    All [
     (Do Tryz.prog (Builtin.append_ #[22,22] 22 #[(Sl.val (Sl.mk (some t14) 0 0)),(Sl.val t16)]) Sl.val fun t17 =>
     Sv S <|
     New 25 #[(.int .i64 0),(Sl.val ⟨none,0,0⟩),(Sl.val ⟨none,0,0⟩),(Sl.val ⟨none,0,0⟩),(.int .i64 0)] fun out3 =>
     Sv S <|
     StN out3 5 #[(.int .i64 t7),(Sl.val t13),(Sl.val t17),(Sl.val ⟨none,0,0⟩),(.int .i64 t9)] <|
     zBi.s1 Q t1 t2 out3),
     (New 25 #[(.int .i64 0),(Sl.val ⟨none,0,0⟩),(Sl.val ⟨none,0,0⟩),(Sl.val ⟨none,0,0⟩),(.int .i64 0)] fun out3 =>
     Sv S <|
     Do Tryz.prog (Builtin.append_ #[22,22] 22 #[(Sl.val (Sl.mk (some t14) 0 0)),(Sl.val t16)]) Sl.val fun t17 =>
     Sv S <|
     StN out3 5 #[(.int .i64 t7),(Sl.val t13),(Sl.val t17),(Sl.val ⟨none,0,0⟩),(.int .i64 t9)] <|
     zBi.s1 Q t1 t2 out3)
     ]),
    (New 25 #[(.int .i64 0),(Sl.val ⟨none,0,0⟩),(Sl.val ⟨none,0,0⟩),(Sl.val ⟨none,0,0⟩),(.int .i64 0)] fun out3 =>
    Sv S <|
    New 9 #[] fun t14 =>
    Sv S <|
    Do Tryz.prog (Builtin.append_ #[22,22] 22 #[(Sl.val (Sl.mk (some t14) 0 0)),(Sl.val t16)]) Sl.val fun t17 =>
    Sv S <|
    StN out3 5 #[(.int .i64 t7),(Sl.val t13),(Sl.val t17),(Sl.val ⟨none,0,0⟩),(.int .i64 t9)] <|
    zBi.s1 Q t1 t2 out3)
    ]),
   (New 9 #[] fun t14 =>
   Sv S <|
   All [
    (Do Tryz.prog (Builtin.append_ #[22,22] 22 #[(Sl.val (Sl.mk (some t10) 0 0)),(Sl.val t12)]) Sl.val fun t13 =>
    Sv S <|
    All [
     (Do Tryz.prog (Builtin.append_ #[22,22] 22 #[(Sl.val (Sl.mk (some t14) 0 0)),(Sl.val t16)]) Sl.val fun t17 =>
     Sv S <|
     New 25 #[(.int .i64 0),(Sl.val ⟨none,0,0⟩),(Sl.val ⟨none,0,0⟩),(Sl.val ⟨none,0,0⟩),(.int .i64 0)] fun out3 =>
     Sv S <|
     StN out3 5 #[(.int .i64 t7),(Sl.val t13),(Sl.val t17),(Sl.val ⟨none,0,0⟩),(.int .i64 t9)] <|
     zBi.s1 Q t1 t2 out3),
     (New 25 #[(.int .i64 0),(Sl.val ⟨none,0,0⟩),(Sl.val ⟨none,0,0⟩),(Sl.val ⟨none,0,0⟩),(.int .i64 0)] fun out3 =>
     Sv S <|
     Do Tryz.prog (Builtin.append_ #[22,22] 22 #[(Sl.val (Sl.mk (some t14) 0 0)),(Sl.val t16)]) Sl.val fun t17 =>
     Sv S <|
     StN out3 5 #[(.int .i64 t7),(Sl.val t13),(Sl.val t17),(Sl.val ⟨none,0,0⟩),(.int .i64 t9)] <|
     zBi.s1 Q t1 t2 out3)
     ]),
    (New 25 #[(.int .i64 0),(Sl.val ⟨none,0,0⟩),(Sl.val ⟨none,0,0⟩),(Sl.val ⟨none,0,0⟩),(.int .i64 0)] fun out3 =>
    Sv S <|
    Do Tryz.prog (Builtin.append_ #[22,22] 22 #[(Sl.val (Sl.mk (some t10) 0 0)),(Sl.val t12)]) Sl.val fun t13 =>
    Sv S <|
    Do Tryz.prog (Builtin.append_ #[22,22] 22 #[(Sl.val (Sl.mk (some t14) 0 0)),(Sl.val t16)]) Sl.val fun t17 =>
    Sv S <|
    StN out3 5 #[(.int .i64 t7),(Sl.val t13),(Sl.val t17),(Sl.val ⟨none,0,0⟩),(.int .i64 t9)] <|
    zBi.s1 Q t1 t2 out3)
    ]),
   (New 25 #[(.int .i64 0),(Sl.val ⟨none,0,0⟩),(Sl.val ⟨none,0,0⟩),(Sl.val ⟨none,0,0⟩),(.int .i64 0)] fun out3 =>
   Sv S <|
   All [
    (Do Tryz.prog (Builtin.append_ #[22,22] 22 #[(Sl.val (Sl.mk (some t10) 0 0)),(Sl.val t12)]) Sl.val fun t13 =>
    Sv S <|
    New 9 #[] fun t14 =>
    Sv S <|
    Do Tryz.prog (Builtin.append_ #[22,22] 22 #[(Sl.val (Sl.mk (some t14) 0 0)),(Sl.val t16)]) Sl.val fun t17 =>
    Sv S <|
    StN out3 5 #[(.int .i64 t7),(Sl.val t13),(Sl.val t17),(Sl.val ⟨none,0,0⟩),(.int .i64 t9)] <|
    zBi.s1 Q t1 t2 out3),
    (New 9 #[] fun t14 =>
    Sv S <|
    Do Tryz.prog (Builtin.append_ #[22,22] 22 #[(Sl.val (Sl.mk (some t10) 0 0)),(Sl.val t12)]) Sl.val fun t13 =>
    Sv S <|
    Do Tryz.prog (Builtin.append_ #[22,22] 22 #[(Sl.val (Sl.mk (some t14) 0 0)),(Sl.val t16)]) Sl.val fun t17 =>
    Sv S <|
    StN out3 5 #[(.int .i64 t7),(Sl.val t13),(Sl.val t17),(Sl.val ⟨none,0,0⟩),(.int .i64 t9)] <|
    zBi.s1 Q t1 t2 out3)
    ])
   ]),
  (New 9 #[] fun t14 =>
  Sv S <|
  All [
   (New 9 #[] fun t10 =>
   Sv S <|
   All [
    (Do Tryz.prog (Builtin.append_ #[22,22] 22 #[(Sl.val (Sl.mk (some t10) 0 0)),(Sl.val t12)]) Sl.val fun t13 =>
    Sv S <|
    All [
     (Do Tryz.prog (Builtin.append_ #[22,22] 22 #[(Sl.val (Sl.mk (some t14) 0 0)),(Sl.val t16)]) Sl.val fun t17 =>
     Sv S <|
     New 25 #[(.int .i64 0),(Sl.val ⟨none,0,0⟩),(Sl.val ⟨none,0,0⟩),(Sl.val ⟨none,0,0⟩),(.int .i64 0)] fun out3 =>
     Sv S <|
     StN out3 5 #[(.int .i64 t7),(Sl.val t13),(Sl.val t17),(Sl.val ⟨none,0,0⟩),(.int .i64 t9)] <|
     zBi.s1 Q t1 t2 out3),
     (New 25 #[(.int .i64 0),(Sl.val ⟨none,0,0⟩),(Sl.val ⟨none,0,0⟩),(Sl.val ⟨none,0,0⟩),(.int .i64 0)] fun out3 =>
     Sv S <|
     Do Tryz.prog (Builtin.append_ #[22,22] 22 #[(Sl.val (Sl.mk (some t14) 0 0)),(Sl.val t16)]) Sl.val fun t17 =>
     Sv S <|
     StN out3 5 #[(.int .i64 t7),(Sl.val t13),(Sl.val t17),(Sl.val ⟨none,0,0⟩),(.int .i64 t9)] <|
     zBi.s1 Q t1 t2 out3)
     ]),
    (New 25 #[(.int .i64 0),(Sl.val ⟨none,0,0⟩),(Sl.val ⟨none,0,0⟩),(Sl.val ⟨none,0,0⟩),(.int .i64 0)] fun out3 =>
    Sv S <|
    Do Tryz.prog (Builtin.append_ #[22,22] 22 #[(Sl.val (Sl.mk (some t10) 0 0)),(Sl.val t12)]) Sl.val fun t13 =>
    Sv S <|
    Do Tryz.prog (Builtin.append_ #[22,22] 22 #[(Sl.val (Sl.mk (some t14) 0 0)),(Sl.val t16)]) Sl.val fun t17 =>
    Sv S <|
    StN out3 5 #[(.int .i64 t7),(Sl.val t13),(Sl.val t17),(Sl.val ⟨none,0,0⟩),(.int .i64 t9)] <|
    zBi.s1 Q t1 t2 out3)
    ]),
   (New 25 #[(.int .i64 0),(Sl.val ⟨none,0,0⟩),(Sl.val ⟨none,0,0⟩),(Sl.val ⟨none,0,0⟩),(.int .i64 0)] fun out3 =>
   Sv S <|
   New 9 #[] fun t10 =>
   Sv S <|
   Do Tryz.prog (Builtin.append_ #[22,22] 22 #[(Sl.val (Sl.mk (some t10) 0 0)),(Sl.val t12)]) Sl.val fun t13 =>
   Sv S <|
   Do Tryz.prog (Builtin.append_ #[22,22] 22 #[(Sl.val (Sl.mk (some t14) 0 0)),(Sl.val t16)]) Sl.val fun t17 =>
   Sv S <|
   StN out3 5 #[(.int .i64 t7),(Sl.val t13),(Sl.val t17),(Sl.val ⟨none,0,0⟩),(.int .i64 t9)] <|
   zBi.s1 Q t1 t2 out3)
   ]),
  (New 25 #[(.int .i64 0),(Sl.val ⟨none,0,0⟩),(Sl.val ⟨none,0,0⟩),(Sl.val ⟨none,0,0⟩),(.int .i64 0)] fun out3 =>
  Sv S <|
  All [
   (New 9 #[] fun t10 =>
   Sv S <|
   All [
    (Do Tryz.prog (Builtin.append_ #[22,22] 22 #[(Sl.val (Sl.mk (some t10) 0 0)),(Sl.val t12)]) Sl.val fun t13 =>
    Sv S <|
    New 9 #[] fun t14 =>
    Sv S <|
    Do Tryz.prog (Builtin.append_ #[22,22] 22 #[(Sl.val (Sl.mk (some t14) 0 0)),(Sl.val t16)]) Sl.val fun t17 =>
    Sv S <|
    StN out3 5 #[(.int .i64 t7),(Sl.val t13),(Sl.val t17),(Sl.val ⟨none,0,0⟩),(.int .i64 t9)] <|
    zBi.s1 Q t1 t2 out3),
    (New 9 #[] fun t14 =>
    Sv S <|
    Do Tryz.prog (Builtin.append_ #[22,22] 22 #[(Sl.val (Sl.mk (some t10) 0 0)),(Sl.val t12)]) Sl.val fun t13 =>
    Sv S <|
    Do Tryz.prog (Builtin.append_ #[22,22] 22 #[(Sl.val (Sl.mk (some t14) 0 0)),(Sl.val t16)]) Sl.val fun t17 =>
    Sv S <|
    StN out3 5 #[(.int .i64 t7),(Sl.val t13),(Sl.val t17),(Sl.val ⟨none,0,0⟩),(.int .i64 t9)] <|
    zBi.s1 Q t1 t2 out3)
    ]),
   (New 9 #[] fun t14 =>
   Sv S <|
   New 9 #[] fun t10 =>
   Sv S <|
   Do Tryz.prog (Builtin.append_ #[22,22] 22 #[(Sl.val (Sl.mk (some t10) 0 0)),(Sl.val t12)]) Sl.val fun t13 =>
   Sv S <|
   Do Tryz.prog (Builtin.append_ #[22,22] 22 #[(Sl.val (Sl.mk (some t14) 0 0)),(Sl.val t16)]) Sl.val fun t17 =>
   Sv S <|
   StN out3 5 #[(.int .i64 t7),(Sl.val t13),(Sl.val t17),(Sl.val ⟨none,0,0⟩),(.int .i64 t9)] <|
   zBi.s1 Q t1 t2 out3)
   ])
  ]
def zB2.b1 (Q:Bool→K)  (X1:Int→K) (a0_1:Sl) (b1_1:Sl) (i5_1:Int):K :=
 Ite (decide (i5_1 < (a0_1.n:Int)))
  (Dr <|
  Idx a0_1 i5_1 1 fun t19 =>
  Ld t19 Value.string fun t20 =>
  Idx b1_1 i5_1 1 fun t23 =>
  Ld t23 Value.string fun t24 =>
  Ite (!(t20.toList == t24.toList))
   (Q false)
   (Ar (IntKind.wrap .i64 (i5_1 + 1)) fun t16 =>
   X1 t16))
  (Q true)
def zB2 (a0:Sl) (b1:Sl) (Q:Bool→K):K :=
 Ite (decide ((a0.n:Int) ≠ (b1.n:Int)))
  (Q false)
  (LoopK (α:=Int) (fun X x=>zB2.b1 Q X a0 b1 x) 0)
theorem zI2 (a0:Sl) (b1:Sl) (Q:Bool→K) (w:World) (h:zB2 a0 b1 Q w):zB2.call a0 b1 Q w:=by
 have hL4:∀ (a0_1:Sl) (b1_1:Sl),LH 4 (fun x:Int=>[(0,(Sl.val a0_1)),(1,(Sl.val b1_1)),(5,(.int .i64 x))]) (fun X x=>zB2.b1 Q X a0_1 b1_1 x):=by intros; exact ⟨⟩
 exact g_walk 26 h Tryz.func120
end Go.Proofs.YtdemfamgieonbaaGreat
