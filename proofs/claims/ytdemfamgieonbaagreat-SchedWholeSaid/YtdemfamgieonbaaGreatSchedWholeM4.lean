/- Texts of the claim SchedWhole, one behind the other. -/
import Derived.Test.YtdemfamgieonbaaGreatSchedWholeM3
import GoSem.Instr.MapEntry
set_option linter.all false
namespace Go.Sep
open Go Go.RowKit
namespace Bt
structure BtD (κ:Type) extends BtT κ where
 delIC:Sl→Int→Int→(Sl→K)→K
 delKC:Sl→Int→Int→(Sl→K)→K
 ntakeC:Option Addr→κ→(Array Value→Bool→K)→K
 nlastC:Option Addr→(Array Value→K)→K
 nmendC:Option Addr→Int→K→K
section
variable {κ:Type}
def zFc (G:BtD κ) (Q:K)  (n0_2:Addr) (i1_2:Int) (kid4_2:Addr) (t202_2:Bool):K :=
 Ite t202_2
  (Ld (n0_2.add 1) Sl.val fun t229 =>
  Ar (IntKind.wrap .i64 (i1_2 + 1)) fun t231 =>
  Idx t229 t231 1 fun t232 =>
  Ld t232 Value.pointer fun t233 =>
  Dr <| WithS fun S =>
  LdS S kid4_2 Sl.val fun t238 =>
  LdS S n0_2 Sl.val fun t242 =>
  Idx t242 i1_2 (G.nv + 1) fun t244 =>
  LdNS S t244 (G.nv + 1) fun t245 =>
  Bld (G.kz::G.vz).toArray (fun i=>some (i * (G.nv + 1),(G.nv + 1))) [(0,(.agg t245))] fun ct246 =>
  New G.tI ct246 fun t246 =>
  Sv S <|
  Do G.P (Builtin.append_ #[G.tSI,G.tSI] G.tSI #[(Sl.val t238),(Sl.val (Sl.mk (some t246) 1 1))]) Sl.val fun t247 =>
  St kid4_2 (Sl.val t247) <|
  Dr <|
  Nn t233 fun t256 =>
  Ld n0_2 Sl.val fun t253 =>
  Ld t256 Sl.val fun t258 =>
  Idx t258 0 (G.nv + 1) fun t259 =>
  LdN t259 (G.nv + 1) fun t260 =>
  Idx t253 i1_2 (G.nv + 1) fun t261 =>
  StN t261 (G.nv + 1) t260 <|
  Ld t256 Sl.val fun t266 =>
  G.delIC t266 0 1 fun t267 =>
  St t256 (Sl.val t267) <|
  Ld (t256.add 1) Sl.val fun t273 =>
  Ite (decide ((0:Int) < (t273.n:Int)))
   (Dr <| WithS fun S =>
   LdS S (kid4_2.add 1) Sl.val fun t280 =>
   LdS S (t256.add 1) Sl.val fun t284 =>
   Idx t284 0 1 fun t285 =>
   LdS S t285 Value.pointer fun t286 =>
   New G.tK #[(.pointer t286)] fun t287 =>
   Sv S <|
   Do G.P (Builtin.append_ #[G.tSK,G.tSK] G.tSK #[(Sl.val t280),(Sl.val (Sl.mk (some t287) 1 1))]) Sl.val fun t288 =>
   St (kid4_2.add 1) (Sl.val t288) <|
   Ld (t256.add 1) Sl.val fun t295 =>
   G.delKC t295 0 1 fun t296 =>
   St (t256.add 1) (Sl.val t296) <|
   Q)
   (Q))
  (Ar (if (1:Int) > i1_2 then 1 else i1_2) fun t18 =>
  Dr <|
  Ld (n0_2.add 1) Sl.val fun t22 =>
  Ar (IntKind.wrap .i64 (t18 - 1)) fun t24 =>
  Idx t22 t24 1 fun t25 =>
  Ld t25 Value.pointer fun t26 =>
  Ld (n0_2.add 1) Sl.val fun t30 =>
  Idx t30 t18 1 fun t32 =>
  Ld t32 Value.pointer fun t33 =>
  Dr <| WithS fun S =>
  Nn t26 fun t36 =>
  Ar (IntKind.wrap .i64 (t18 - 1)) fun t44 =>
  Nn t33 fun t50 =>
  LdS S t36 Sl.val fun t38 =>
  LdS S n0_2 Sl.val fun t42 =>
  Idx t42 t44 (G.nv + 1) fun t45 =>
  LdNS S t45 (G.nv + 1) fun t46 =>
  LdS S t50 Sl.val fun t52 =>
  Bld (G.kz::G.vz).toArray (fun i=>some (i * (G.nv + 1),(G.nv + 1))) [(0,(.agg t46))] fun ct47 =>
  New G.tI ct47 fun t47 =>
  Sv S <|
  Do G.P (Builtin.append_ #[G.tSI,G.tSI] G.tSI #[(Sl.val t38),(Sl.val (Sl.mk (some t47) 1 1))]) Sl.val fun t48 =>
  Sv S <|
  Do G.P (Builtin.append_ #[G.tSI,G.tSI] G.tSI #[(Sl.val t48),(Sl.val t52)]) Sl.val fun t53 =>
  St t36 (Sl.val t53) <|
  Dr <|
  Ld (t36.add 1) Sl.val fun t60 =>
  Ld (t50.add 1) Sl.val fun t64 =>
  Do G.P (Builtin.append_ #[G.tSK,G.tSK] G.tSK #[(Sl.val t60),(Sl.val t64)]) Sl.val fun t65 =>
  St (t36.add 1) (Sl.val t65) <|
  Ld n0_2 Sl.val fun t72 =>
  Ar (IntKind.wrap .i64 (t18 - 1)) fun t74 =>
  G.delIC t72 t74 t18 fun t76 =>
  St n0_2 (Sl.val t76) <|
  Ld (n0_2.add 1) Sl.val fun t83 =>
  Ar (IntKind.wrap .i64 (t18 + 1)) fun t86 =>
  G.delKC t83 t18 t86 fun t87 =>
  St (n0_2.add 1) (Sl.val t87) <|
  Q)
def zFd (G:BtD κ) (Q:K)  (n0_1:Addr) (i1_1:Int) (kid4_1:Addr) (t97_1:Bool):K :=
 Ite t97_1
  (Ld (n0_1.add 1) Sl.val fun t118 =>
  Ar (IntKind.wrap .i64 (i1_1 - 1)) fun t120 =>
  Idx t118 t120 1 fun t121 =>
  Ld t121 Value.pointer fun t122 =>
  Nn t122 fun t124 =>
  Ld t124 Sl.val fun t126 =>
  Ar (IntKind.wrap .i64 ((t126.n:Int) - 1)) fun t128 =>
  Dr <| WithS fun S =>
  Ar (IntKind.wrap .i64 (i1_1 - 1)) fun t139 =>
  LdS S kid4_1 Sl.val fun t133 =>
  LdS S n0_1 Sl.val fun t137 =>
  Idx t137 t139 (G.nv + 1) fun t140 =>
  LdNS S t140 (G.nv + 1) fun t141 =>
  Bld (G.kz::G.vz).toArray (fun i=>some (i * (G.nv + 1),(G.nv + 1))) [(0,(.agg t141))] fun ct142 =>
  New G.tI ct142 fun t142 =>
  Sv S <|
  G.insIC t133 0 (Sl.mk (some t142) 1 1) fun t143 =>
  St kid4_1 (Sl.val t143) <|
  Dr <|
  Ar (IntKind.wrap .i64 (i1_1 - 1)) fun t151 =>
  Ld n0_1 Sl.val fun t149 =>
  Ld t124 Sl.val fun t155 =>
  Idx t155 t128 (G.nv + 1) fun t157 =>
  LdN t157 (G.nv + 1) fun t158 =>
  Idx t149 t151 (G.nv + 1) fun t159 =>
  StN t159 (G.nv + 1) t158 <|
  Ld t124 Sl.val fun t164 =>
  Slc t164 0 t128 (t164.c:Int) (G.nv + 1) fun t166 =>
  St t124 (Sl.val t166) <|
  Ld (t124.add 1) Sl.val fun t172 =>
  Ite (decide ((0:Int) < (t172.n:Int)))
   (Dr <| WithS fun S =>
   Ar (IntKind.wrap .i64 (t128 + 1)) fun t185 =>
   LdS S (kid4_1.add 1) Sl.val fun t179 =>
   LdS S (t124.add 1) Sl.val fun t183 =>
   Idx t183 t185 1 fun t186 =>
   LdS S t186 Value.pointer fun t187 =>
   New G.tK #[(.pointer t187)] fun t188 =>
   Sv S <|
   G.insKC t179 0 (Sl.mk (some t188) 1 1) fun t189 =>
   St (kid4_1.add 1) (Sl.val t189) <|
   Ld (t124.add 1) Sl.val fun t196 =>
   Ar (IntKind.wrap .i64 (t128 + 1)) fun t198 =>
   Slc t196 0 t198 (t196.c:Int) 1 fun t199 =>
   St (t124.add 1) (Sl.val t199) <|
   Q)
   (Q))
  (Ar (IntKind.wrap .i64 (i1_1 + 1)) fun t204 =>
  Ld (n0_1.add 1) Sl.val fun t208 =>
  Ite (decide (t204 < (t208.n:Int)))
   (Ld (n0_1.add 1) Sl.val fun t215 =>
   Ar (IntKind.wrap .i64 (i1_1 + 1)) fun t217 =>
   Idx t215 t217 1 fun t218 =>
   Ld t218 Value.pointer fun t219 =>
   Nn t219 fun t220 =>
   Ld t220 Sl.val fun t222 =>
   zFc G Q n0_1 i1_1 kid4_1 (decide ((2:Int) < (t222.n:Int))))
   (zFc G Q n0_1 i1_1 kid4_1 false))
def nmend (G:BtD κ) (n0:(Option Addr)) (i1:Int) (Q:K):K :=
 Nn n0 fun t11 =>
 Ld (t11.add 1) Sl.val fun t13 =>
 Idx t13 i1 1 fun t15 =>
 Ld t15 Value.pointer fun t16 =>
 Nn t16 fun t92 =>
 Ld t92 Sl.val fun t94 =>
 Ite (decide ((2:Int) ≤ (t94.n:Int)))
  (Q)
  (Ite (decide ((0:Int) < i1))
   (Ld (t11.add 1) Sl.val fun t104 =>
   Ar (IntKind.wrap .i64 (i1 - 1)) fun t106 =>
   Idx t104 t106 1 fun t107 =>
   Ld t107 Value.pointer fun t108 =>
   Nn t108 fun t109 =>
   Ld t109 Sl.val fun t111 =>
   zFd G Q t11 i1 t92 (decide ((2:Int) < (t111.n:Int))))
   (zFd G Q t11 i1 t92 false))
def nlast (G:BtD κ) (n0:(Option Addr)) (Q:(Array Value)→K):K :=
 New G.tI (G.kz::G.vz).toArray fun t2 =>
 Nn n0 fun t7 =>
 Ld (t7.add 1) Sl.val fun t9 =>
 Ar (IntKind.wrap .i64 ((t9.n:Int) - 1)) fun t11 =>
 Ite (decide ((0:Int) ≤ t11))
  (Ld (t7.add 1) Sl.val fun t17 =>
  Idx t17 t11 1 fun t19 =>
  Ld t19 Value.pointer fun t20 =>
  G.nlastC t20 fun t21 =>
  New G.tI (G.kz::G.vz).toArray fun x4 =>
  StN x4 (G.nv + 1) t21 <|
  G.nmendC (some t7) t11 <|
  LdN x4 (G.nv + 1) fun t25 =>
  StN t2 (G.nv + 1) t25 <|
  LdN t2 (G.nv + 1) fun r0 =>
  Q r0)
  (Dr <| WithS fun S =>
  LdS S t7 Sl.val fun t29 =>
  LdS S t7 Sl.val fun t33 =>
  Ar (IntKind.wrap .i64 ((t33.n:Int) - 1)) fun t35 =>
  Idx t29 t35 (G.nv + 1) fun t36 =>
  LdNS S t36 (G.nv + 1) fun t37 =>
  New G.tI (G.kz::G.vz).toArray fun x5 =>
  Sv S <|
  StN x5 (G.nv + 1) t37 <|
  Dr <|
  Ld t7 Sl.val fun t42 =>
  Ld t7 Sl.val fun t46 =>
  Ar (IntKind.wrap .i64 ((t46.n:Int) - 1)) fun t48 =>
  Slc t42 0 t48 (t42.c:Int) (G.nv + 1) fun t49 =>
  St t7 (Sl.val t49) <|
  LdN x5 (G.nv + 1) fun t52 =>
  StN t2 (G.nv + 1) t52 <|
  LdN t2 (G.nv + 1) fun r0 =>
  Q r0)
def zHp (G:BtD κ) (Q:(Array Value)→Bool→K)  (value4_1:Addr) (ok5_1:Bool):K :=
 LdN value4_1 G.nv fun t94 =>
 StN value4_1 G.nv t94 <|
 LdN value4_1 G.nv fun r0 =>
 Q r0 ok5_1
def zFe (G:BtD κ) (Q:(Array Value)→Bool→K)  (n0_2:(Option Addr)) (key1_2:κ) (value4_2:Addr) (i6_2:Int) (found7_2:Bool) (t14_2:Bool):K :=
 Ite t14_2
  (Nn n0_2 fun t25 =>
  Ld t25 Sl.val fun t27 =>
  Idx t27 i6_2 (G.nv + 1) fun t29 =>
  LdN (t29.add 1) G.nv fun t31 =>
  StN value4_2 G.nv t31 <|
  Ld t25 Sl.val fun t36 =>
  Ar (IntKind.wrap .i64 (i6_2 + 1)) fun t39 =>
  G.delIC t36 i6_2 t39 fun t40 =>
  St t25 (Sl.val t40) <|
  LdN value4_2 G.nv fun t43 =>
  StN value4_2 G.nv t43 <|
  LdN value4_2 G.nv fun r0 =>
  Q r0 true)
  (Ite found7_2
   (Nn n0_2 fun t47 =>
   Ld t47 Sl.val fun t49 =>
   Idx t49 i6_2 (G.nv + 1) fun t51 =>
   LdN (t51.add 1) G.nv fun t53 =>
   StN value4_2 G.nv t53 <|
   Dr <| WithS fun S =>
   LdS S t47 Sl.val fun t57 =>
   LdS S (t47.add 1) Sl.val fun t62 =>
   Idx t62 i6_2 1 fun t64 =>
   LdS S t64 Value.pointer fun t65 =>
   G.nlastC t65 fun t66 =>
   Sv S <|
   Idx t57 i6_2 (G.nv + 1) fun t67 =>
   StN t67 (G.nv + 1) t66 <|
   G.nmendC (some t47) i6_2 <|
   LdN value4_2 G.nv fun t71 =>
   StN value4_2 G.nv t71 <|
   LdN value4_2 G.nv fun r0 =>
   Q r0 true)
   (Nn n0_2 fun t74 =>
   Ld (t74.add 1) Sl.val fun t76 =>
   Ite (decide ((0:Int) < (t76.n:Int)))
    (Ld (t74.add 1) Sl.val fun t83 =>
    Idx t83 i6_2 1 fun t85 =>
    Ld t85 Value.pointer fun t86 =>
    G.ntakeC t86 key1_2 fun t88x0 t88x1 =>
    StN value4_2 G.nv t88x0 <|
    G.nmendC (some t74) i6_2 <|
    zHp G Q value4_2 t88x1)
    (zHp G Q value4_2 false)))
def ntake (G:BtD κ) (n0:(Option Addr)) (key1:κ) (Q:(Array Value)→Bool→K):K :=
 New G.tV G.vz.toArray fun value4 =>
 G.nsearchC n0 key1 fun t11x0 t11x1 =>
 Ite t11x1
  (Nn n0 fun t18 =>
  Ld (t18.add 1) Sl.val fun t20 =>
  zFe G Q (some t18) key1 value4 t11x0 true (decide ((t20.n:Int) = 0)))
  (zFe G Q n0 key1 value4 t11x0 false false)
def zJD (G:BtD κ) (Q:(Array Value)→Bool→K)  (value4_2:Addr) (ok5_2:Bool):K :=
 LdN value4_2 G.nv fun t55 =>
 StN value4_2 G.nv t55 <|
 LdN value4_2 G.nv fun r0 =>
 Q r0 ok5_2
def zJE (G:BtD κ) (Q:(Array Value)→Bool→K)  (t0_1:Addr) (value4_1:Addr) (ok5_1:Bool):K :=
 Ite ok5_1
  (Ld (t0_1.add 1) (Value.int .i64) fun t51 =>
  Ar (IntKind.wrap .i64 (t51 - 1)) fun t52 =>
  St (t0_1.add 1) (.int .i64 t52) <|
  zJD G Q value4_1 ok5_1)
  (zJD G Q value4_1 ok5_1)
def zG8 (G:BtD κ) (Q:(Array Value)→Bool→K)  (t0_3:Addr) (value4_3:Addr) (ok5_3:Bool) (t34_3:Bool):K :=
 Ite t34_3
  (Ld t0_3 Value.pointer fun t39 =>
  Nn t39 fun t40 =>
  Ld (t40.add 1) Sl.val fun t42 =>
  Idx t42 0 1 fun t43 =>
  Ld t43 Value.pointer fun t44 =>
  St t0_3 (.pointer t44) <|
  zJE G Q t0_3 value4_3 ok5_3)
  (zJE G Q t0_3 value4_3 ok5_3)
def tdel (G:BtD κ) (t0:(Option Addr)) (key1:κ) (Q:(Array Value)→Bool→K):K :=
 New G.tV G.vz.toArray fun value4 =>
 Nn t0 fun t8 =>
 Ld t8 Value.pointer fun t10 =>
 G.ntakeC t10 key1 fun t12x0 t12x1 =>
 StN value4 G.nv t12x0 <|
 Ld t8 Value.pointer fun t18 =>
 Nn t18 fun t19 =>
 Ld t19 Sl.val fun t21 =>
 Ite (decide ((t21.n:Int) = 0))
  (Ld t8 Value.pointer fun t28 =>
  Nn t28 fun t29 =>
  Ld (t29.add 1) Sl.val fun t31 =>
  zG8 G Q t8 value4 t12x1 (decide ((t31.n:Int) = 1)))
  (zG8 G Q t8 value4 t12x1 false)
end
structure BtDOk {κ:Type} (G:BtD κ) (c:κ→κ→Int):Prop extends BtOk G.toBtT c where
 delI:∃ Z,∀ s i j Q w,delK G.P G.tSI Z (G.nv + 1) s i j Q w→G.delIC s i j Q w
 delK:∃ Z,∀ s i j Q w,delK G.P G.tSK Z 1 s i j Q w→G.delKC s i j Q w
 take:∀ n k Q w,ntake G n k Q w→G.ntakeC n k Q w
 last:∀ n Q w,nlast G n Q w→G.nlastC n Q w
 mend:∀ n i Q w,nmend G n i Q w→G.nmendC n i Q w
end Bt
end Go.Sep
namespace Go.Sep
open Go Go.RowKit
namespace Bt
section
variable {κ:Type} {B:World} {Γ Γ0 Δ:List HProp}
theorem zJF {α:Type} {f:α→List Value} {esz E:Nat} {s:Sl} {L:List α} {i:Nat} {x:α} {k:Array Value→K} (hf:∀ x,(f x).length = esz) (hx:L[i]? = some x) (h:HG B Γ (k (f x).toArray)) [o:OwnS s Γ0 (SlC E esz s (L.flatMap f)) Δ]:HG B Γ (LdNS (Holds B Γ0) (elA s i esz) esz k):=fun w hw=>by
 refine ⟨(f x).toArray,by simp [hf],fun w' hw'=>?_,h w hw⟩
 obtain ⟨cs,hcs,hrd,hk⟩:=s_ldEl (s:=s) (i:=i) (k:=fun cs _=>cs = (f x).toArray) (E:=E) (Γ:=Γ0) (B:=B) hf hx (fun _ _=>rfl) w' hw'
 rw [← hk]; exact hrd
theorem zLO {α:Type} {c:α→Value} {E:Nat} {s:Sl} {L:List α} {i:Nat} {x:α} {k:α→K} (hx:L[i]? = some x) (h:HG B Γ (k x)) [o:OwnS s Γ0 (SlC E 1 s (L.map c)) Δ]:HG B Γ (LdS (Holds B Γ0) (elA s i 1) c k):=fun w hw=>by
 refine ⟨x,fun w' hw'=>?_,h w hw⟩
 obtain ⟨h0,h1,h2,h3,h4⟩:=own_rd hw' (p:=o)
 rw [← add0 (elA s i 1)]
 exact zK3 (vs:=L.map c) (off:=0) h0 h3 (by simp [hx])
theorem s_stEl {α:Type} {f:α→List Value} {esz E:Nat} {s:Sl} {A C:List α} {x y:α} {k:K} (hf:∀ x,(f x).length = esz) (hfl:(f y).all flatV = true) (h:HG B (SlC E esz s ((A++y::C).flatMap f)::Δ) k) [o:OwnS s Γ (SlC E esz s ((A++x::C).flatMap f)) Δ]:HG B Γ (StN (elA s A.length esz) esz (f y).toArray k):=by
 rw [← add0 (elA s A.length esz)]
 refine s_stEN (s:=s) (us:=f y) ?_ (hf y) ?_ hfl
 ·have e:layAt ((A++x::C).flatMap f) (A.length * esz + 0) (f y) = (A++y::C).flatMap f:=by
   have e1:(A++x::C).flatMap f = A.flatMap f++(f x++C.flatMap f):=by simp
   have e2:(A++y::C).flatMap f = A.flatMap f++(f y++C.flatMap f):=by simp
   rw [e1,e2,zEI (by simp [zAT f esz hf]) (by rw [hf,hf])]
  rw [e]; exact h
 ·have e1:((A++x::C).flatMap f).length = (A.length + (C.length + 1)) * esz:=by rw [zAT f esz hf]; simp
  rw [e1,Nat.add_mul,Nat.add_mul]; omega
variable {G:BtT κ} {c:κ→κ→Int}
theorem wv_nil (its:List G.It):wv its ([]:List (Kid G)) = its:=by cases its <;> rfl
theorem wv_app {d:Nat} {i1 i2:List G.It} {k1 k2:List (Kid G)} {x:G.It} (h1:Fit d i1 k1) (h2:Fit d i2 k2):wv (i1++x::i2) (k1++k2) = wv i1 k1++x::wv i2 k2:=by
 cases d with
 | zero =>
  have e1:k1 = []:=h1
  have e2:k2 = []:=h2
  subst e1; subst e2
  simp only [List.append_nil,wv_nil]
 | succ d =>
  obtain ⟨q1,ps1,rfl,rfl⟩:=zip_ps h1
  obtain ⟨q2,ps2,rfl,rfl⟩:=zip_ps h2
  have e:wv (ps1.map Prod.fst++x::ps2.map Prod.fst) (q1::ps1.map Prod.snd++q2::ps2.map Prod.snd) = psL q1 (ps1++(x,q2)::ps2):=by
   rw [← wv_ps]; simp
  rw [e,wv_ps,wv_ps]
  simp [psL]
theorem zLP {d:Nat} {i1 i2:List G.It} {k1 k2:List (Kid G)} {x:G.It} (h1:Fit d i1 k1) (h2:Fit d i2 k2):Fit d (i1++x::i2) (k1++k2):=by
 cases d with
 | zero =>
  have e1:k1 = []:=h1
  have e2:k2 = []:=h2
  subst e1; subst e2; rfl
 | succ d =>
  simp only [Fit,List.length_append,List.length_cons] at h1 h2 ⊢
  omega
theorem zMB {d:Nat} {i1 i2:List G.It} {ks:List (Kid G)} {x:G.It} (h:Fit d (i1++x::i2) ks):∃ k1 k2,ks = k1++k2∧Fit d i1 k1∧Fit d i2 k2:=by
 cases d with
 | zero=>exact ⟨[],[],h,rfl,rfl⟩
 | succ d =>
  simp only [Fit,List.length_append,List.length_cons] at h
  exact ⟨ks.take (i1.length + 1),ks.drop (i1.length + 1),(List.take_append_drop _ _).symm,by simp [Fit]; omega,by simp [Fit]; omega⟩
theorem zMC {d:Nat} {A C:List (Kid G)}:∀ w,Holds B (kidsD G d A::kidsD G d C::Γ) w ↔ Holds B (kidsD G d (A++C)::Γ) w:=fun w=>by
 cases d with
 | zero =>
  show Holds B (Sep.stars []::Sep.stars []::Γ) w ↔ Holds B (Sep.stars []::Γ) w
  exact Holds.flat (Δ:=[])
 | succ d =>
  show Holds B (kidsR G d A::kidsR G d C::Γ) w ↔ Holds B (kidsR G d (A++C)::Γ) w
  constructor
  ·intro h
   have h1:=Holds.flat.1 h
   have h2:=Holds.flat.1 (h1.perm (List.perm_middle (a:=kidsR G d C) (l₁:=A.map fun q=>NodeR G d 2 q.1 q.2) (l₂:=Γ)))
   refine Holds.flat.2 (h2.perm ?_)
   rw [List.map_append,List.append_assoc]
   rw [← List.append_assoc,← List.append_assoc]
   exact List.perm_append_comm.append_right Γ
  ·intro h
   have:=zIP (k:=fun w=>Holds B (kidsR G d A::kidsR G d C::Γ) w) (fun w h=>h) w h
   exact this
theorem s_join {d:Nat} {A C:List (Kid G)} {k:K} (h:HG B (kidsD G d (A++C)::Γ) k):HG B (kidsD G d A::kidsD G d C::Γ) k:=fun w hw=>h w ((zMC w).1 hw)
theorem s_part {d:Nat} {A C:List (Kid G)} {k:K} (h:HG B (kidsD G d A::kidsD G d C::Γ) k):HG B (kidsD G d (A++C)::Γ) k:=fun w hw=>h w ((zMC w).2 hw)
end
end Bt
end Go.Sep
namespace Go.Sep
open Go Go.RowKit
namespace Bt
section
variable {κ:Type} {G:BtD κ} {c:κ→κ→Int} {B:World} {Γ Δ:List HProp}
theorem its_n {s:Sl} {its:List G.It} (h:(its.flatMap G.f).length = s.n * (G.nv + 1)):s.n = its.length:=by
 rw [zAT G.f _ G.f_len] at h
 exact (Nat.eq_of_mul_eq_mul_right (by omega) h).symm
theorem kps_n {s:Sl} {kp:List (Option Addr)} (h:(kp.map Value.pointer).length = s.n * 1):s.n = kp.length:=by rw [kp_len] at h; omega
theorem flat_f (ok:BtOk G.toBtT c) (x:G.It):(G.f x).all flatV = true:=List.all_eq_true.2 (f_flat ok x)
theorem zQY {its:List G.It} {x:G.It}:(its.flatMap G.f).take (0 * (G.nv + 1))++G.f x++(its.flatMap G.f).drop (0 * (G.nv + 1)) = (x::its).flatMap G.f:=by simp
theorem zPb {kp:List (Option Addr)} {x:Option Addr}:(kp.map Value.pointer).take (0 * 1)++[Value.pointer x]++(kp.map Value.pointer).drop (0 * 1) = (x::kp).map Value.pointer:=by simp
theorem zMD {s:Sl} {its:List G.It} {m:Nat} {k:K} (hm:m ≤ s.n) (hc:s.n ≤ s.c) (h:HG B (itsR G.toBtT ⟨s.a,m,s.c⟩ (its.take m)::Δ) k) [p:OwnS s Γ (itsR G.toBtT s its) Δ]:HG B Γ k:=by
 refine zDm (s:=s) (m:=m) (c':=s.c) hm (Nat.le_trans hm hc) (Nat.le_refl _) ?_
 rw [zEK G.f_len]
 exact h
theorem zQZ {s:Sl} {kp:List (Option Addr)} {m:Nat} {k:K} (hm:m ≤ s.n) (hc:s.n ≤ s.c) (h:HG B (kpsR G.toBtT ⟨s.a,m,s.c⟩ (kp.take m)::Δ) k) [p:OwnS s Γ (kpsR G.toBtT s kp) Δ]:HG B Γ k:=by
 refine zDm (s:=s) (m:=m) (c':=s.c) hm (Nat.le_trans hm hc) (Nat.le_refl _) ?_
 rw [show (kp.map Value.pointer).take (m * 1) = (kp.take m).map Value.pointer by simp]
 exact h
theorem zS6 (ok:BtDOk G c) {d n:Nat} {s kd sp kp sq kq:Sl} {A C:List (Kid G.toBtT)} {p q:Kid G.toBtT} {IA IC ip iq:List G.It} {x y:G.It} {cp cq:List (Kid G.toBtT)} {i:Int} {Q:K}
  (hi:i = ((A.length + 1:Nat):Int)) (hA:IA.length = A.length) (hl:IA.length + IC.length ≤ 5) (hC:C.length = IC.length) (hp:2 ≤ ip.length∧ip.length ≤ 5) (hq:iq.length ≤ 1) (hfp:Fit d (ip++[y]) cp) (hfq:Fit d iq cq)
  (h:∀ P' Q',P'++y::Q' = wv (ip++[y]) cp++x::wv iq cq→∀ s' kd',HG B (nodeB G.toBtT n s' kd'::itsR G.toBtT s' (IA++y::IC)::kpsR G.toBtT kd' ((A++p::q::C).map ptr)::NodeR G.toBtT d 2 p.1 P'::NodeR G.toBtT d 2 q.1 Q'::Γ) Q) :
  HG B (nodeB G.toBtT n s kd::itsR G.toBtT s (IA++x::IC)::kpsR G.toBtT kd ((A++p::q::C).map ptr)::rawL G.toBtT d p.1 sp kp (ip++[y]) cp (rawL G.toBtT d q.1 sq kq iq cq Γ)) (zFd G Q ⟨n,0,none⟩ i ⟨q.1,0,none⟩ true):=by
 subst hi
 have okT:=ok.toBtOk
 obtain ⟨cp',kz,rfl,hf1,hfz⟩:=zMB (i1:=ip) (i2:=[]) hfp
 refine s_cap s fun a1 a2 a3 a4=>?_
 refine s_cap kd fun b1 b2 b3 b4=>?_
 refine s_cap sp fun c1 c2 c3 c4=>?_
 refine s_cap kp fun d1 d2 d3 d4=>?_
 refine s_cap sq fun e1 e2 e3 e4=>?_
 refine s_cap kq fun f1 f2 f3 f4=>?_
 have hsn:=its_n a1
 have hkn:=kps_n b1
 have hspn:=its_n c1
 have hkpn:=kps_n d1
 have hsqn:=its_n e1
 have hkqn:=kps_n f1
 simp only [List.length_append,List.length_cons,List.length_nil,List.length_map] at hsn hkn hspn hkpn hsqn hkqn
 unfold zFd
 refine s_t ?_
 refine s_ld (b:=n) (x:=kd) ?_
 refine s_ai ?_
 refine s_idx (s:=kd) (i:=A.length) ?_
 refine s_ldE0 (s:=kd) (x:=ptr p) (by simp) ?_
 refine s_nn ?_
 refine s_ld (b:=p.1) (x:=sp) ?_
 refine s_ai ?_
 refine s_dr ?_
 refine s_ws ?_
 refine s_ai ?_
 refine s_ldS (b:=q.1) (x:=sq) ?_
 refine s_ldS (b:=n) (x:=s) ?_
 refine s_idx (s:=s) (i:=A.length) ?_
 refine zJF (s:=s) (x:=x) G.f_len (by rw [← hA]; simp) ?_
 refine s_bld1 ?_ (by simp [okT.vz.1]) (G.f_len _)
 refine s_new fun t=>?_
 refine s_sv ?_
 obtain ⟨R,rot,hins⟩:=okT.insI
 refine fun w hw=>hins _ _ _ _ _ ?_
 refine hg hw ?_
 clear hw w
 refine s_ins (s:=sq) (i:=0) (t:=t) (by omega) (by omega) (G.f_len _) (by omega) (zEX okT _) (f_flat okT _) (fun sq' hsq'=>?_) okT.TI okT.ZI
 rw [zQY]
 refine s_st (b:=q.1) ?_
 refine s_dr ?_
 refine s_ai ?_
 refine s_ld (b:=n) (x:=s) ?_
 refine s_ld (b:=p.1) (x:=sp) ?_
 refine s_idx (s:=sp) (i:=ip.length) ?_
 refine s_ldEl (s:=sp) (x:=y) G.f_len (by simp) ?_
 refine s_idx (s:=s) (i:=IA.length) ?_
 refine s_stEl (s:=s) (A:=IA) (x:=x) (y:=y) G.f_len (flat_f okT y) ?_
 refine s_ld (b:=p.1) (x:=sp) ?_
 refine s_slc (lo:=0) (hi:=ip.length) (mx:=sp.c) ?_
 rw [cut0 c3]
 refine s_st (b:=p.1) ?_
 refine zMD (s:=sp) (m:=ip.length) (by omega) c2 ?_
 rw [List.take_left]
 refine s_ld (b:=p.1) (x:=kp) ?_
 have fin:∀ sp2 kp2 sq2 kq2,HG B (rawL G.toBtT d p.1 sp2 kp2 ip cp' (rawL G.toBtT d q.1 sq2 kq2 (x::iq) (kz++cq) (nodeB G.toBtT n s kd::itsR G.toBtT s (IA++y::IC)::kpsR G.toBtT kd ((A++p::q::C).map ptr)::Γ))) Q:=fun sp2 kp2 sq2 kq2=>by
  refine zD6 (m:=2) hf1 hp.2 (fun _=>.inr fun h=>by rw [h] at hp; simp at hp) ?_
  refine s_end (Δ:=rawL G.toBtT d q.1 sq2 kq2 (x::iq) (kz++cq) (NodeR G.toBtT d 2 p.1 (wv ip cp')::nodeB G.toBtT n s kd::itsR G.toBtT s (IA++y::IC)::kpsR G.toBtT kd ((A++p::q::C).map ptr)::Γ)) ?_
  refine zD6 (m:=2) (zLP (i1:=[]) hfz hfq) (by simp; omega) (fun _=>.inr (by simp)) ?_
  refine s_end (h (wv ip cp') (wv (x::iq) (kz++cq)) ?_ s kd)
  rw [wv_app hf1 hfz,show x::iq = []++x::iq from rfl,wv_app hfz hfq]
  simp
 cases d with
 | zero =>
  have e1:cp' = []:=hf1
  have e2:kz = []:=hfz
  have e3:cq = []:=hfq
  subst e1; subst e2; subst e3
  refine s_f ?_ (by simp at hkpn; simp [hkpn])
  simp only [List.append_nil] at fin ⊢
  exact s_end (fin ⟨sp.a,ip.length,sp.c⟩ kp sq' kq)
 | succ d =>
  obtain ⟨z,rfl⟩:∃ z,kz = [z]:=List.length_eq_one_iff.1 hfz
  have hcl:cp'.length = ip.length + 1:=hf1
  have hcql:cq.length = iq.length + 1:=hfq
  simp only [List.length_cons,List.length_nil] at hkpn
  refine s_t ?_ (by simp; omega)
  refine s_dr ?_
  refine s_ws ?_
  refine s_ai ?_
  refine s_ldS (b:=q.1) (x:=kq) ?_
  refine s_ldS (b:=p.1) (x:=kp) ?_
  refine s_idx (s:=kp) (i:=ip.length + 1) ?_
  refine zLO (s:=kp) (c:=Value.pointer) (L:=(cp'++[z]).map ptr) (x:=ptr z) (by rw [← hcl]; simp) ?_
  refine s_new fun t2=>?_
  refine s_sv ?_
  obtain ⟨R2,rot2,hins2⟩:=okT.insK
  refine fun w hw=>hins2 _ _ _ _ _ ?_
  refine hg hw ?_
  clear hw w
  refine s_ins (s:=kq) (i:=0) (t:=t2) (us:=[Value.pointer (ptr z)]) (by omega) (by omega) rfl (by omega) (zF8 _) (by simp [flatV]) (fun kq' hkq'=>?_) okT.TK okT.ZK
  rw [zPb,show ptr z::cq.map ptr = ([z]++cq).map ptr from rfl]
  refine s_st (b:=q.1) ?_
  refine s_ld (b:=p.1) (x:=kp) ?_
  refine s_ai ?_
  refine s_slc (lo:=0) (hi:=ip.length + 1) (mx:=kp.c) ?_
  rw [cut0 d3]
  refine s_st (b:=p.1) ?_
  refine zQZ (s:=kp) (m:=ip.length + 1) (by omega) d2 ?_
  rw [show ((cp'++[z]).map ptr).take (ip.length + 1) = cp'.map ptr by rw [List.map_append]; exact List.take_left' (by simp [hcl])]
  refine s_pick (kidsD G.toBtT (d + 1) (cp'++[z])) ?_
  refine s_part ?_
  refine s_end (Δ:=kidsD G.toBtT (d + 1) [z]::kidsD G.toBtT (d + 1) cq::kidsD G.toBtT (d + 1) cp'::nodeB G.toBtT p.1 ⟨sp.a,ip.length,sp.c⟩ ⟨kp.a,ip.length + 1,kp.c⟩::itsR G.toBtT ⟨sp.a,ip.length,sp.c⟩ ip::kpsR G.toBtT ⟨kp.a,ip.length + 1,kp.c⟩ (cp'.map ptr)::nodeB G.toBtT q.1 sq' kq'::itsR G.toBtT sq' (x::iq)::kpsR G.toBtT kq' (([z]++cq).map ptr)::nodeB G.toBtT n s kd::itsR G.toBtT s (IA++y::IC)::kpsR G.toBtT kd ((A++p::q::C).map ptr)::Γ) ?_
  refine s_join ?_
  exact s_end (fin ⟨sp.a,ip.length,sp.c⟩ ⟨kp.a,ip.length + 1,kp.c⟩ sq' kq')
end
end Bt
end Go.Sep
namespace Go.Sep
open Go Go.RowKit
namespace Bt
section
variable {κ:Type} {G:BtD κ} {c:κ→κ→Int} {B:World} {Γ Δ:List HProp}
theorem kp_at {L:List (Kid G.toBtT)} {i:Nat} {q:Kid G.toBtT} (h:L[i]? = some q):((L.map ptr).map Value.pointer)[i * 1]? = some (Value.pointer (ptr q)):=by simp [h]
theorem zJG {α:Type} {A C:List α} {x y:α}:(A++x::y::C)[A.length + 1]? = some y:=by
 rw [List.getElem?_append_right (by omega),show A.length + 1 - A.length = 1 by omega]; rfl
theorem zQa {x:G.It} {its:List G.It}:((x::its).flatMap G.f).take (0 * (G.nv + 1))++((x::its).flatMap G.f).drop (1 * (G.nv + 1)) = its.flatMap G.f:=by
 rw [zEJ G.f_len]; simp
theorem zPc {p:Kid G.toBtT} {kp:List (Kid G.toBtT)}:(((p::kp).map ptr).map Value.pointer).take (0 * 1)++(((p::kp).map ptr).map Value.pointer).drop (1 * 1) = (kp.map ptr).map Value.pointer:=by simp
theorem zO0 {A C:List G.It} {x:G.It}:((A++x::C).flatMap G.f).take (A.length * (G.nv + 1))++((A++x::C).flatMap G.f).drop ((A.length + 1) * (G.nv + 1)) = (A++C).flatMap G.f:=by
 rw [zEK G.f_len,zEJ G.f_len,List.take_left,show A++x::C = (A++[x])++C by simp,List.drop_left' (by simp)]; simp
theorem zRy {A C:List (Kid G.toBtT)} {p q:Kid G.toBtT}:(((A++p::q::C).map ptr).map Value.pointer).take ((A.length + 1) * 1)++(((A++p::q::C).map ptr).map Value.pointer).drop ((A.length + 2) * 1) = ((A++p::C).map ptr).map Value.pointer:=by
 rw [Nat.mul_one,Nat.mul_one,← List.map_take,← List.map_take,← List.map_drop,← List.map_drop]
 rw [show A++p::q::C = (A++[p])++q::C by simp,List.take_left' (by simp),show (A++[p])++q::C = (A++[p,q])++C by simp,List.drop_left' (by simp)]
 simp
theorem zO1 (ok:BtDOk G c) {d n:Nat} {s kd sr kr sq kq:Sl} {A C:List (Kid G.toBtT)} {q r:Kid G.toBtT} {IA IC ir iq:List G.It} {x y:G.It} {cr cq:List (Kid G.toBtT)} {i:Int} {Q:K}
  (hi:i = (A.length:Int)) (hA:IA.length = A.length) (hl:IA.length + IC.length ≤ 5) (hC:C.length = IC.length) (hr:1 ≤ ir.length∧ir.length ≤ 5) (hq:iq.length ≤ 1) (hfr:Fit d (y::ir) cr) (hfq:Fit d iq cq)
  (h:∀ Q' R',Q'++y::R' = wv iq cq++x::wv (y::ir) cr→∀ s' kd',HG B (nodeB G.toBtT n s' kd'::itsR G.toBtT s' (IA++y::IC)::kpsR G.toBtT kd' ((A++q::r::C).map ptr)::NodeR G.toBtT d 2 q.1 Q'::NodeR G.toBtT d 2 r.1 R'::Γ) Q) :
  HG B (nodeB G.toBtT n s kd::itsR G.toBtT s (IA++x::IC)::kpsR G.toBtT kd ((A++q::r::C).map ptr)::rawL G.toBtT d q.1 sq kq iq cq (rawL G.toBtT d r.1 sr kr (y::ir) cr Γ)) (zFc G Q ⟨n,0,none⟩ i ⟨q.1,0,none⟩ true):=by
 subst hi
 have okT:=ok.toBtOk
 obtain ⟨cz,cr',rfl,hfz,hf2⟩:=zMB (i1:=[]) (x:=y) (i2:=ir) hfr
 refine s_cap s fun a1 a2 a3 a4=>?_
 refine s_cap kd fun b1 b2 b3 b4=>?_
 refine s_cap sr fun c1 c2 c3 c4=>?_
 refine s_cap kr fun d1 d2 d3 d4=>?_
 refine s_cap sq fun e1 e2 e3 e4=>?_
 refine s_cap kq fun f1 f2 f3 f4=>?_
 have hsn:=its_n a1
 have hkn:=kps_n b1
 have hsrn:=its_n c1
 have hkrn:=kps_n d1
 have hsqn:=its_n e1
 have hkqn:=kps_n f1
 simp only [List.length_append,List.length_cons,List.length_nil,List.length_map] at hsn hkn hsrn hkrn hsqn hkqn
 unfold zFc
 repeat first | refine s_nx ?_ | refine s_ai ?_
 refine s_idx (s:=kd) (i:=A.length + 1) ?_
 refine s_ldE0 (s:=kd) (x:=ptr r) (kp_at zJG) ?_
 repeat first | refine s_nx ?_ | refine s_ai ?_
 refine s_idx (s:=s) (i:=A.length) ?_
 refine zJF (s:=s) (x:=x) G.f_len (by rw [← hA]; simp) ?_
 refine s_bld1 ?_ (by simp [okT.vz.1]) (G.f_len _)
 refine s_new fun t=>?_
 repeat refine s_nx ?_
 refine zBT (s:=sq) (us:=G.f x) (blk_rd (G.f_len x)) (f_flat okT x) (by simp only; omega) (hT:=okT.TI) fun sq' hsq'=>?_
 rw [show iq.flatMap G.f++G.f x = (iq++[x]).flatMap G.f by simp]
 repeat refine s_nx ?_
 refine s_nn ?_
 repeat refine s_nx ?_
 refine s_idx (s:=sr) (i:=0) ?_
 refine s_ldEl (s:=sr) (x:=y) G.f_len rfl ?_
 refine s_idx (s:=s) (i:=IA.length) ?_
 refine s_stEl (s:=s) (A:=IA) (x:=x) (y:=y) G.f_len (flat_f okT y) ?_
 repeat refine s_nx ?_
 obtain ⟨Z,hdel⟩:=ok.delI
 refine fun w hw=>hdel _ _ _ _ _ ?_
 refine hg hw ?_
 clear hw w
 refine s_del (s:=sr) (i:=0) (j:=1) (by omega) (by omega) (by omega) (zEX okT _) (fun sr' hsr'=>?_) okT.TI
 rw [zQa]
 repeat refine s_nx ?_
 have fin:∀ sr2 kr2 sq2 kq2,HG B (rawL G.toBtT d q.1 sq2 kq2 (iq++[x]) (cq++cz) (rawL G.toBtT d r.1 sr2 kr2 ir cr' (nodeB G.toBtT n s kd::itsR G.toBtT s (IA++y::IC)::kpsR G.toBtT kd ((A++q::r::C).map ptr)::Γ))) Q:=fun sr2 kr2 sq2 kq2=>by
  refine zD6 (m:=2) (zLP (i2:=[]) hfq hfz) (by simp; omega) (fun _=>.inr (by simp)) ?_
  refine s_pick (kidsD G.toBtT d cr') ?_
  refine s_ownS kr2 ?_
  refine s_ownS sr2 ?_
  refine s_own r.1 ?_
  refine zD6 (m:=2) hf2 hr.2 (fun _=>.inr fun h=>by rw [h] at hr; simp at hr) ?_
  refine s_end (h (wv (iq++[x]) (cq++cz)) (wv ir cr') ?_ s kd)
  rw [wv_app (i2:=[]) hfq hfz,show y::ir = []++y::ir from rfl,wv_app hfz hf2]
  simp
 cases d with
 | zero =>
  have e1:cr' = []:=hf2
  have e2:cz = []:=hfz
  have e3:cq = []:=hfq
  subst e1; subst e2; subst e3
  refine s_f ?_ (by simp at hkrn; simp [hkrn])
  simp only [List.append_nil] at fin ⊢
  exact s_end (fin sr' kr sq' kq)
 | succ d =>
  obtain ⟨z,rfl⟩:∃ z,cz = [z]:=List.length_eq_one_iff.1 hfz
  have hcl:cr'.length = ir.length + 1:=hf2
  have hcql:cq.length = iq.length + 1:=hfq
  simp only [List.length_cons,List.length_nil] at hkrn
  refine s_t ?_ (by simp; omega)
  repeat refine s_nx ?_
  refine s_idx (s:=kr) (i:=0) ?_
  refine zLO (s:=kr) (c:=Value.pointer) (L:=([z]++cr').map ptr) (x:=ptr z) (by simp) ?_
  refine s_new fun t2=>?_
  repeat refine s_nx ?_
  refine zBT (s:=kq) (us:=[Value.pointer (ptr z)]) (blk_rd rfl) (by simp [flatV]) (by simp only; omega) (hT:=okT.TK) fun kq' hkq'=>?_
  rw [show (cq.map ptr).map Value.pointer++[Value.pointer (ptr z)] = ((cq++[z]).map ptr).map Value.pointer by simp]
  repeat refine s_nx ?_
  obtain ⟨Z2,hdel2⟩:=ok.delK
  refine fun w hw=>hdel2 _ _ _ _ _ ?_
  refine hg hw ?_
  clear hw w
  refine s_del (s:=kr) (i:=0) (j:=1) (by omega) (by omega) (by omega) (zF8 _) (fun kr' hkr'=>?_) okT.TK
  rw [show (([z]++cr').map ptr) = ((z::cr').map ptr) from rfl,zPc]
  repeat refine s_nx ?_
  refine s_pick (kidsD G.toBtT (d + 1) ([z]++cr')) ?_
  refine s_part ?_
  refine s_pick (kidsD G.toBtT (d + 1) [z]) ?_
  refine s_pick (kidsD G.toBtT (d + 1) cq) ?_
  refine s_join ?_
  exact s_end (fin sr' kr' sq' kq')
theorem zLQ (ok:BtDOk G c) {d n:Nat} {s kd sp kp sq kq:Sl} {A C:List (Kid G.toBtT)} {p q:Kid G.toBtT} {IA IC ip iq:List G.It} {x:G.It} {cp cq:List (Kid G.toBtT)} {i:Int} {k4:Addr} {Q:K}
  (hi:(if (1:Int) > i then 1 else i) = ((A.length + 1:Nat):Int)) (hA:IA.length = A.length) (hl:IA.length + IC.length ≤ 5) (hC:C.length = IC.length) (hp:ip.length + iq.length ≤ 4) (hfp:Fit d ip cp) (hfq:Fit d iq cq)
  (h:∀ s' kd',HG B (nodeB G.toBtT n s' kd'::itsR G.toBtT s' (IA++IC)::kpsR G.toBtT kd' ((A++p::C).map ptr)::NodeR G.toBtT d 2 p.1 (wv ip cp++x::wv iq cq)::Γ) Q) :
  HG B (nodeB G.toBtT n s kd::itsR G.toBtT s (IA++x::IC)::kpsR G.toBtT kd ((A++p::q::C).map ptr)::rawL G.toBtT d p.1 sp kp ip cp (rawL G.toBtT d q.1 sq kq iq cq Γ)) (zFc G Q ⟨n,0,none⟩ i k4 false):=by
 have okT:=ok.toBtOk
 refine s_cap s fun a1 a2 a3 a4=>?_
 refine s_cap kd fun b1 b2 b3 b4=>?_
 refine s_cap sp fun c1 c2 c3 c4=>?_
 refine s_cap kp fun d1 d2 d3 d4=>?_
 refine s_cap sq fun e1 e2 e3 e4=>?_
 refine s_cap kq fun f1 f2 f3 f4=>?_
 have hsn:=its_n a1
 have hkn:=kps_n b1
 have hspn:=its_n c1
 have hkpn:=kps_n d1
 have hsqn:=its_n e1
 have hkqn:=kps_n f1
 simp only [List.length_append,List.length_cons,List.length_nil,List.length_map] at hsn hkn hspn hkpn hsqn hkqn
 have hks:cp.length ≤ 6∧cq.length ≤ 6:=by
  cases d with
  | zero =>
   have e1:cp = []:=hfp
   have e2:cq = []:=hfq
   subst e1; subst e2; exact ⟨by simp,by simp⟩
  | succ d =>
   have e1:cp.length = ip.length + 1:=hfp
   have e2:cq.length = iq.length + 1:=hfq
   omega
 unfold zFc
 repeat refine s_nx ?_
 refine s_ar hi ?_
 repeat first | refine s_nx ?_ | refine s_ai ?_
 refine s_idx (s:=kd) (i:=A.length) ?_
 refine s_ldE0 (s:=kd) (x:=ptr p) (kp_at at_mid) ?_
 repeat refine s_nx ?_
 refine s_idx (s:=kd) (i:=A.length + 1) ?_
 refine s_ldE0 (s:=kd) (x:=ptr q) (kp_at zJG) ?_
 refine s_dr ?_
 refine s_wsD [nodeB G.toBtT n s kd,itsR G.toBtT s (IA++x::IC),nodeB G.toBtT p.1 sp kp,nodeB G.toBtT q.1 sq kq] ?_
 refine s_nn ?_
 refine s_ai ?_
 refine s_nn ?_
 repeat refine s_nx ?_
 refine s_idx (s:=s) (i:=A.length) ?_
 refine zJF (s:=s) (x:=x) G.f_len (by rw [← hA]; simp) ?_
 repeat refine s_nx ?_
 refine s_bld1 ?_ (by simp [okT.vz.1]) (G.f_len _)
 refine s_new fun t=>?_
 repeat refine s_nx ?_
 refine zBT (s:=sp) (us:=G.f x) (blk_rd (G.f_len x)) (f_flat okT x) (by simp only; omega) (hT:=okT.TI) fun sp1 hsp1=>?_
 rw [show ip.flatMap G.f++G.f x = (ip++[x]).flatMap G.f by simp]
 repeat refine s_nx ?_
 refine zBT (s:=sp1) (us:=iq.flatMap G.f) (fun w hw=>(own_rd (s:=sq) hw).1) (zEX okT _) (by simp only at hsp1 ⊢; omega) (hT:=okT.TI) fun sp2 hsp2=>?_
 rw [show (ip++[x]).flatMap G.f++iq.flatMap G.f = (ip++x::iq).flatMap G.f by simp]
 repeat refine s_nx ?_
 refine zBT (s:=kp) (us:=(cq.map ptr).map Value.pointer) (fun w hw=>(own_rd (s:=kq) hw).1) (zF8 _) (by omega) (hT:=okT.TK) fun kp' hkp'=>?_
 rw [← List.map_append,← List.map_append]
 repeat first | refine s_nx ?_ | refine s_ai ?_
 obtain ⟨Z,hdel⟩:=ok.delI
 refine fun w hw=>hdel _ _ _ _ _ ?_
 refine hg hw ?_
 clear hw w
 rw [show ((A.length + 1:Nat):Int) - 1 = ((A.length:Nat):Int) by omega]
 refine s_del (s:=s) (i:=A.length) (j:=A.length + 1) (by omega) (by omega) (by omega) (zEX okT _) (fun s' hs'=>?_) okT.TI
 rw [← hA,zO0,hA]
 repeat first | refine s_nx ?_ | refine s_ai ?_
 obtain ⟨Z2,hdel2⟩:=ok.delK
 refine fun w hw=>hdel2 _ _ _ _ _ ?_
 refine hg hw ?_
 clear hw w
 rw [show ((A.length + 1:Nat):Int) + 1 = ((A.length + 2:Nat):Int) by omega]
 refine s_del (s:=kd) (i:=A.length + 1) (j:=A.length + 2) (by omega) (by omega) (by omega) (zF8 _) (fun kd' hkd'=>?_) okT.TK
 rw [zRy]
 repeat refine s_nx ?_
 refine s_pick (kidsD G.toBtT d cq) ?_
 refine s_pick (kidsD G.toBtT d cp) ?_
 refine s_join ?_
 refine s_pick (kidsD G.toBtT d (cp++cq)) ?_
 refine s_ownS kp' ?_
 refine s_ownS sp2 ?_
 refine s_own p.1 ?_
 refine zD6 (m:=2) (zLP hfp hfq) (by simp; omega) (fun _=>.inr (by simp)) ?_
 rw [wv_app hfp hfq]
 exact s_end (h s' kd')
end
end Bt
end Go.Sep
namespace Go.Sep
open Go Go.RowKit
namespace Bt
section
variable {κ:Type} {G:BtD κ} {c:κ→κ→Int} {B:World} {Γ Δ:List HProp}
theorem wv_two:∀ {IA IC:List G.It} {A C:List (Kid G.toBtT)},IA.length = A.length→C.length = IC.length→∃ U V:List G.It,(∀ p:Kid G.toBtT,wv (IA++IC) (A++p::C) = U++p.2++V)∧∀ (p:Kid G.toBtT) (x:G.It) (q:Kid G.toBtT),wv (IA++x::IC) (A++p::q::C) = U++p.2++x::(q.2++V)
 | [],[],[],C,_,hC=>⟨[],[],fun p=>by simp [wv],fun p x q=>by simp [wv]⟩
 | [],z::IC,[],C,_,hC=>⟨[],z::wv IC C,fun p=>by simp [wv],fun p x q=>by simp [wv]⟩
 | a::IA,IC,r::A,C,hA,hC=>by
  obtain ⟨U,V,h1,h2⟩:=wv_two (IA:=IA) (IC:=IC) (A:=A) (C:=C) (by simpa using hA) hC
  exact ⟨r.2++a::U,V,fun p=>by simp [wv,h1],fun p x q=>by simp [wv,h2]⟩
 | [],_,_::_,_,hA,_=>by simp at hA
 | _::_,_,[],_,hA,_=>by simp at hA
theorem zNh {α:Type} {L:List α} {a c:Nat} (h:L.length = a + 1 + c):∃ A x C,L = A++x::C∧A.length = a∧C.length = c :=
 ⟨L.take a,L[a],L.drop (a + 1),by rw [← List.drop_eq_getElem_cons,List.take_append_drop],by simp; omega,by simp; omega⟩
theorem s_asm1 {d n:Nat} {s kd:Sl} {its:List G.It} {ks:List (Kid G.toBtT)} {k:K} (hf:ks.length = its.length + 1) (hl:its.length ≤ 5) (h:HG B (NodeR G.toBtT (d + 1) 0 n (wv its ks)::Γ) k) :
  HG B (nodeB G.toBtT n s kd::itsR G.toBtT s its::kpsR G.toBtT kd (ks.map ptr)::kidsR G.toBtT d ks::Γ) k:=zD6 (d:=d + 1) (m:=0) hf hl (fun h=>by omega) h
theorem s_asmK {d n:Nat} {s kd:Sl} {its:List G.It} {A C:List (Kid G.toBtT)} {p:Kid G.toBtT} {P':List G.It} {k:K} (hf:(A++p::C).length = its.length + 1) (hl:its.length ≤ 5) (h:HG B (NodeR G.toBtT (d + 1) 0 n (wv its (A++(p.1,P')::C))::Γ) k) :
  HG B (nodeB G.toBtT n s kd::itsR G.toBtT s its::kpsR G.toBtT kd ((A++p::C).map ptr)::NodeR G.toBtT d 2 p.1 P'::kidsR G.toBtT d (A++C)::Γ) k:=by
 rw [show (A++p::C).map ptr = (A++(p.1,P')::C).map ptr by simp [ptr]]
 refine s_pick (kidsR G.toBtT d (A++C)) ?_
 refine s_pick (NodeR G.toBtT d 2 p.1 P') ?_
 refine zDs (q:=(p.1,P')) ?_
 refine s_pick (kidsR G.toBtT d (A++(p.1,P')::C)) ?_
 refine s_ownS kd ?_
 refine s_ownS s ?_
 refine s_own n ?_
 exact s_asm1 (by simpa using hf) hl h
theorem s_asm2 {d n:Nat} {s kd:Sl} {its:List G.It} {A C:List (Kid G.toBtT)} {p q:Kid G.toBtT} {P' Q':List G.It} {k:K} (hf:(A++p::q::C).length = its.length + 1) (hl:its.length ≤ 5) (h:HG B (NodeR G.toBtT (d + 1) 0 n (wv its (A++(p.1,P')::(q.1,Q')::C))::Γ) k) :
  HG B (nodeB G.toBtT n s kd::itsR G.toBtT s its::kpsR G.toBtT kd ((A++p::q::C).map ptr)::NodeR G.toBtT d 2 p.1 P'::NodeR G.toBtT d 2 q.1 Q'::kidsR G.toBtT d (A++C)::Γ) k:=by
 rw [show (A++p::q::C).map ptr = (A++p::(q.1,Q')::C).map ptr by simp [ptr]]
 refine s_pick (kidsR G.toBtT d (A++C)) ?_
 refine s_pick (NodeR G.toBtT d 2 q.1 Q') ?_
 refine zDs (q:=(q.1,Q')) ?_
 refine s_pick (kidsR G.toBtT d (A++(q.1,Q')::C)) ?_
 refine s_pick (NodeR G.toBtT d 2 p.1 P') ?_
 refine s_ownS kd ?_
 refine s_ownS s ?_
 refine s_own n ?_
 exact s_asmK (by simpa using hf) hl h
theorem zId (ok:BtDOk G c) {d n:Nat} {s kd:Sl} {its:List G.It} {A C:List (Kid G.toBtT)} {q:Kid G.toBtT} {Q:K} (hl:its.length ≤ 5) (hne:its ≠ []) (hf:(A++q::C).length = its.length + 1)
  (h:HG B (NodeR G.toBtT (d + 1) 0 n (wv its (A++q::C))::Γ) Q) :
  HG B (nodeB G.toBtT n s kd::itsR G.toBtT s its::kpsR G.toBtT kd ((A++q::C).map ptr)::NodeR G.toBtT d 0 q.1 q.2::kidsR G.toBtT d (A++C)::Γ) (G.nmendC (some ⟨n,0,none⟩) (A.length:Int) Q):=by
 refine fun w hw=>ok.mend _ _ _ _ ?_
 refine hg hw ?_
 clear hw w
 have okT:=ok.toBtOk
 have hnl:1 ≤ its.length:=List.length_pos_iff.2 hne
 refine s_cap s fun a1 a2 a3 a4=>?_
 refine s_cap kd fun b1 b2 b3 b4=>?_
 have hsn:=its_n a1
 have hkn:=kps_n b1
 have hf':A.length + (C.length + 1) = its.length + 1:=by simpa using hf
 simp only [List.length_append,List.length_cons,List.length_map] at hkn
 unfold nmend
 repeat refine s_nx ?_
 refine s_idx (s:=kd) (i:=A.length) ?_
 refine s_ldE0 (s:=kd) (x:=ptr q) (kp_at at_mid) ?_
 refine s_nn ?_
 refine s_own q.1 ?_
 refine s_raw fun sq kq iq cq hfq hlq _ hqL=>?_
 refine s_cap sq fun e1 e2 e3 e4=>?_
 have hsqn:=its_n e1
 repeat refine s_nx ?_
 refine s_ite (fun hb=>?_) fun hb=>?_
 ·have hb':2 ≤ iq.length:=by simp only [decide_eq_true_eq] at hb; omega
  refine zD6 (m:=2) hfq hlq (fun _=>.inr fun h=>by rw [h] at hb'; simp at hb') ?_
  rw [← hqL]
  refine s_pick (kidsR G.toBtT d (A++C)) ?_
  refine s_pick (NodeR G.toBtT d 2 q.1 q.2) ?_
  refine s_ownS kd ?_
  refine s_ownS s ?_
  refine s_own n ?_
  exact s_asmK hf hl h
 have hq1:iq.length ≤ 1:=by simp only [decide_eq_false_iff_not] at hb; omega
 rcases List.eq_nil_or_concat A with rfl | ⟨A,p,rfl⟩
 ·
  obtain ⟨r,C,rfl⟩:∃ r C',C = r::C':=by
   cases C with
   | nil=>simp only [List.length_nil] at hf'; omega
   | cons r C=>exact ⟨r,C,rfl⟩
  simp only [List.length_cons,List.length_nil,List.nil_append] at hf' hkn hf h ⊢
  obtain ⟨IA,x,IC,rfl,hIA,hIC⟩:=zNh (L:=its) (a:=0) (c:=C.length) (by omega)
  obtain rfl:IA = []:=List.length_eq_zero_iff.1 hIA
  obtain ⟨U,V,hU1,hU2⟩:=wv_two (IA:=[]) (IC:=IC) (A:=[]) (C:=C) rfl hIC.symm
  simp only [List.nil_append] at hU1 hU2 hl hf' h ⊢
  rw [hU2] at h
  simp only [List.length_cons] at hl hf'
  refine s_f ?_
  unfold zFd
  repeat first | refine s_nx ?_ | refine s_ai ?_
  refine s_t ?_ (by simp; omega)
  repeat first | refine s_nx ?_ | refine s_ai ?_
  refine s_idx (s:=kd) (i:=1) ?_
  refine s_ldE0 (s:=kd) (x:=ptr r) (kp_at (zJG (A:=[]))) ?_
  refine s_nn ?_
  refine s_pick (kidsR G.toBtT d (r::C)) ?_
  refine s_kid (A:=[]) ?_
  refine s_raw fun sr kr ir cr hfr hlr hrne hrL=>?_
  refine s_cap sr fun c1 c2 c3 c4=>?_
  have hsrn:=its_n c1
  repeat refine s_nx ?_
  by_cases hb3:2 < ir.length
  ·rw [show decide ((2:Int) < (sr.n:Int)) = true by simp; omega]
   obtain ⟨y,ir,rfl⟩:∃ y ir',ir = y::ir':=by
    cases ir with
    | nil=>simp at hb3
    | cons y ir=>exact ⟨y,ir,rfl⟩
   simp only [List.length_cons] at hb3 hlr
   refine s_pick (kidsD G.toBtT d cr) ?_
   refine s_ownS kr ?_
   refine s_ownS sr ?_
   refine s_own r.1 ?_
   refine s_pick (kidsD G.toBtT d cq) ?_
   refine s_ownS kq ?_
   refine s_ownS sq ?_
   refine s_own q.1 ?_
   refine s_ownS kd ?_
   refine s_ownS s ?_
   refine s_own n ?_
   refine zO1 ok (A:=[]) (IA:=[]) rfl rfl (by simp only [List.length_nil]; omega) hIC.symm (by omega) hq1 hfr hfq fun Q' R' e s' kd'=>?_
   refine s_pick (kidsR G.toBtT d ([]++C)) ?_
   refine s_pick (NodeR G.toBtT d 2 r.1 R') ?_
   refine s_pick (NodeR G.toBtT d 2 q.1 Q') ?_
   refine s_ownS kd' ?_
   refine s_ownS s' ?_
   refine s_own n ?_
   refine s_asm2 (A:=[]) (by simp; omega) (by simp; omega) ?_
   simp only [List.nil_append]
   rw [hU2,show U++(q.1,Q').2++y::((r.1,R').2++V) = U++(Q'++y::R')++V by simp,e,← hqL,← hrL]
   simpa using h
  ·rw [show decide ((2:Int) < (sr.n:Int)) = false by simp; omega]
   refine s_pick (kidsD G.toBtT d cr) ?_
   refine s_ownS kr ?_
   refine s_ownS sr ?_
   refine s_own r.1 ?_
   refine s_pick (kidsD G.toBtT d cq) ?_
   refine s_ownS kq ?_
   refine s_ownS sq ?_
   refine s_own q.1 ?_
   refine s_ownS kd ?_
   refine s_ownS s ?_
   refine s_own n ?_
   refine zLQ ok (A:=[]) (IA:=[]) (by simp) rfl (by simp only [List.length_nil]; omega) hIC.symm (by omega) hfq hfr fun s' kd'=>?_
   refine s_pick (kidsR G.toBtT d ([]++C)) ?_
   refine s_pick (NodeR G.toBtT d 2 q.1 (wv iq cq++x::wv ir cr)) ?_
   refine s_ownS kd' ?_
   refine s_ownS s' ?_
   refine s_own n ?_
   refine s_asmK (A:=[]) (by simp; omega) (by simp; omega) ?_
   simp only [List.nil_append]
   have h2:=hU1 (q.1,wv iq cq++x::wv ir cr)
   rw [h2,← hqL,← hrL]
   simpa using h
 ·
  simp only [List.concat_eq_append,List.append_assoc,List.singleton_append] at hf' hkn hf h ⊢
  have hAl:(A++[p]).length = A.length + 1:=by simp
  rw [hAl] at hf' hkn ⊢
  obtain ⟨IA,x,IC,rfl,hIA,hIC⟩:=zNh (L:=its) (a:=A.length) (c:=C.length) (by omega)
  obtain ⟨U,V,hU1,hU2⟩:=wv_two (IA:=IA) (IC:=IC) (A:=A) (C:=C) hIA hIC.symm
  have hil:(IA++x::IC).length = IA.length + (IC.length + 1):=by simp
  rw [hU2] at h
  rw [hil] at hl
  refine s_t ?_
  repeat first | refine s_nx ?_ | refine s_ai ?_
  refine s_idx (s:=kd) (i:=A.length) ?_
  refine s_ldE0 (s:=kd) (x:=ptr p) (kp_at at_mid) ?_
  refine s_nn ?_
  refine s_pick (kidsR G.toBtT d (A++p::C)) ?_
  refine s_kid ?_
  refine s_raw fun sp kp ip cp hfp hlp hpne hpL=>?_
  refine s_cap sp fun c1 c2 c3 c4=>?_
  have hspn:=its_n c1
  repeat refine s_nx ?_
  by_cases hb3:2 < ip.length
  ·rw [show decide ((2:Int) < (sp.n:Int)) = true by simp; omega]
   rcases List.eq_nil_or_concat ip with rfl | ⟨ip,y,rfl⟩
   ·simp at hb3
   simp only [List.concat_eq_append] at hb3 hlp hfp hpL ⊢
   have hipl:(ip++[y]).length = ip.length + 1:=by simp
   rw [hipl] at hb3 hlp
   refine s_pick (kidsD G.toBtT d cq) ?_
   refine s_ownS kq ?_
   refine s_ownS sq ?_
   refine s_own q.1 ?_
   refine s_pick (kidsD G.toBtT d cp) ?_
   refine s_ownS kp ?_
   refine s_ownS sp ?_
   refine s_own p.1 ?_
   refine s_ownS kd ?_
   refine s_ownS s ?_
   refine s_own n ?_
   refine zS6 ok (A:=A) (by omega) hIA (by omega) hIC.symm (by omega) hq1 hfp hfq fun P' Q' e s' kd'=>?_
   refine s_pick (kidsR G.toBtT d (A++C)) ?_
   refine s_pick (NodeR G.toBtT d 2 q.1 Q') ?_
   refine s_pick (NodeR G.toBtT d 2 p.1 P') ?_
   refine s_ownS kd' ?_
   refine s_ownS s' ?_
   refine s_own n ?_
   refine s_asm2 (by simp; omega) (by simp; omega) ?_
   rw [hU2,show U++(p.1,P').2++y::((q.1,Q').2++V) = U++(P'++y::Q')++V by simp,e,← hqL,← hpL]
   simpa using h
  rw [show decide ((2:Int) < (sp.n:Int)) = false by simp; omega]
  unfold zFd
  repeat first | refine s_nx ?_ | refine s_ai ?_
  cases C with
  | nil =>
   refine s_f ?_ (by simp only [List.length_nil] at hkn; simp; omega)
   refine s_pick (kidsD G.toBtT d cq) ?_
   refine s_ownS kq ?_
   refine s_ownS sq ?_
   refine s_own q.1 ?_
   refine s_pick (kidsD G.toBtT d cp) ?_
   refine s_ownS kp ?_
   refine s_ownS sp ?_
   refine s_own p.1 ?_
   refine s_ownS kd ?_
   refine s_ownS s ?_
   refine s_own n ?_
   refine zLQ ok (by simp only [gt_iff_lt]; split <;> omega) hIA (by omega) hIC.symm (by omega) hfp hfq fun s' kd'=>?_
   refine s_pick (kidsR G.toBtT d (A++[])) ?_
   refine s_pick (NodeR G.toBtT d 2 p.1 (wv ip cp++x::wv iq cq)) ?_
   refine s_ownS kd' ?_
   refine s_ownS s' ?_
   refine s_own n ?_
   refine s_asmK (by simp only [List.length_append,List.length_cons]; omega) (by simp only [List.length_append]; omega) ?_
   rw [hU1,← hqL,← hpL]
   simpa using h
  | cons r C =>
   simp only [List.length_cons] at hf' hkn hIC
   obtain ⟨x2,IC,rfl⟩:∃ x2 IC',IC = x2::IC':=by
    cases IC with
    | nil=>simp at hIC
    | cons x2 IC=>exact ⟨x2,IC,rfl⟩
   simp only [List.length_cons] at hIC hl
   refine s_t ?_ (by simp; omega)
   repeat first | refine s_nx ?_ | refine s_ai ?_
   refine s_idx (s:=kd) (i:=A.length + 2) ?_
   refine s_ldE0 (s:=kd) (x:=ptr r) (kp_at (by rw [show A++p::q::r::C = (A++[p])++q::r::C by simp,show A.length + 2 = (A++[p]).length + 1 by simp]; exact zJG)) ?_
   refine s_nn ?_
   refine s_pick (kidsR G.toBtT d (A++r::C)) ?_
   refine s_kid ?_
   refine s_raw fun sr kr ir cr hfr hlr hrne hrL=>?_
   refine s_cap sr fun g1 g2 g3 g4=>?_
   have hsrn:=its_n g1
   repeat refine s_nx ?_
   by_cases hb4:2 < ir.length
   ·rw [show decide ((2:Int) < (sr.n:Int)) = true by simp; omega]
    obtain ⟨y,ir,rfl⟩:∃ y ir',ir = y::ir':=by
     cases ir with
     | nil=>simp at hb4
     | cons y ir=>exact ⟨y,ir,rfl⟩
    simp only [List.length_cons] at hb4 hlr
    refine s_pick (kidsD G.toBtT d cp) ?_
    refine s_ownS kp ?_
    refine s_ownS sp ?_
    refine s_own p.1 ?_
    refine zD6 (m:=2) hfp hlp (fun _=>.inr (hpne rfl)) ?_
    rw [← hpL]
    rw [show A++p::q::r::C = (A++[p])++q::r::C by simp,show IA++x::x2::IC = (IA++[x])++x2::IC by simp]
    refine s_pick (kidsD G.toBtT d cr) ?_
    refine s_ownS kr ?_
    refine s_ownS sr ?_
    refine s_own r.1 ?_
    refine s_pick (kidsD G.toBtT d cq) ?_
    refine s_ownS kq ?_
    refine s_ownS sq ?_
    refine s_own q.1 ?_
    refine s_ownS kd ?_
    refine s_ownS s ?_
    refine s_own n ?_
    refine zO1 ok (A:=A++[p]) (IA:=IA++[x]) (by rw [hAl]) (by simp [hIA]) (by simp; omega) (by omega) (by omega) hq1 hfr hfq fun Q' R' e s' kd'=>?_
    refine s_pick (kidsR G.toBtT d (A++C)) ?_
    refine s_pick (NodeR G.toBtT d 2 p.1 p.2) ?_
    refine zDs ?_
    rw [show A++p::C = (A++[p])++C by simp]
    refine s_pick (kidsR G.toBtT d ((A++[p])++C)) ?_
    refine s_pick (NodeR G.toBtT d 2 r.1 R') ?_
    refine s_pick (NodeR G.toBtT d 2 q.1 Q') ?_
    refine s_ownS kd' ?_
    refine s_ownS s' ?_
    refine s_own n ?_
    refine s_asm2 (by simp; omega) (by simp; omega) ?_
    obtain ⟨U',V',hV1,hV2⟩:=wv_two (IA:=IA++[x]) (IC:=IC) (A:=A++[p]) (C:=C) (by simp [hIA]) (by omega)
    have h3:=hV2 q x2 r
    have h4:=hU2 p x q
    rw [show (IA++[x])++x2::IC = IA++x::x2::IC by simp,show (A++[p])++q::r::C = A++p::q::r::C by simp,h4] at h3
    rw [hV2,show U'++(q.1,Q').2++y::((r.1,R').2++V') = U'++(Q'++y::R')++V' by simp,e,← hqL,← hrL]
    rw [h3] at h
    simpa using h
   ·rw [show decide ((2:Int) < (sr.n:Int)) = false by simp; omega]
    refine s_pick (kidsD G.toBtT d cr) ?_
    refine s_ownS kr ?_
    refine s_ownS sr ?_
    refine s_own r.1 ?_
    refine zD6 (m:=2) hfr hlr (fun _=>.inr (hrne rfl)) ?_
    rw [← hrL]
    refine s_pick (kidsR G.toBtT d (A++C)) ?_
    refine s_pick (NodeR G.toBtT d 2 r.1 r.2) ?_
    refine zDs ?_
    refine s_pick (kidsD G.toBtT d cq) ?_
    refine s_ownS kq ?_
    refine s_ownS sq ?_
    refine s_own q.1 ?_
    refine s_pick (kidsD G.toBtT d cp) ?_
    refine s_ownS kp ?_
    refine s_ownS sp ?_
    refine s_own p.1 ?_
    refine s_ownS kd ?_
    refine s_ownS s ?_
    refine s_own n ?_
    refine zLQ ok (by simp only [gt_iff_lt]; split <;> omega) hIA (by simp; omega) (by simp; omega) (by omega) hfp hfq fun s' kd'=>?_
    refine s_pick (kidsR G.toBtT d (A++r::C)) ?_
    refine s_pick (NodeR G.toBtT d 2 p.1 (wv ip cp++x::wv iq cq)) ?_
    refine s_ownS kd' ?_
    refine s_ownS s' ?_
    refine s_own n ?_
    refine s_asmK (by simp only [List.length_append,List.length_cons]; omega) (by simp only [List.length_append,List.length_cons]; omega) ?_
    rw [hU1,← hqL,← hpL]
    simpa using h
end
end Bt
end Go.Sep
namespace Go.Sep
open Go Go.RowKit
namespace Bt
section
variable {κ:Type} {G:BtD κ} {c:κ→κ→Int} {B:World} {Γ Δ:List HProp}
theorem wv_end:∀ {its:List G.It} {A:List (Kid G.toBtT)},its.length = A.length→∃ U:List G.It,∀ p:Kid G.toBtT,wv its (A++[p]) = U++p.2
 | [],[],_=>⟨[],fun p=>by simp [wv]⟩
 | a::its,r::A,h=>by
  obtain ⟨U,h1⟩:=wv_end (its:=its) (A:=A) (by simpa using h)
  exact ⟨r.2++a::U,fun p=>by simp [wv,h1]⟩
 | [],_::_,h=>by simp at h
 | _::_,[],h=>by simp at h
theorem zPd (ok:BtDOk G c):∀ (d:Nat) {b:Nat} {L:List G.It} {Γ:List HProp} {Q:Array Value→K},
  (∀ L0 x,L = L0++[x]→HG B (NodeR G.toBtT d 0 b L0::Γ) (Q (G.f x).toArray))→HG B (NodeR G.toBtT d 2 b L::Γ) (G.nlastC (some ⟨b,0,none⟩) Q):=by
 have okT:=ok.toBtOk
 intro d
 induction d with
 | zero =>
  intro b L Γ Q h
  refine fun w hw=>ok.last _ _ _ ?_
  refine hg hw ?_
  clear hw w
  refine zF9 fun s kd hne hl=>?_
  rcases List.eq_nil_or_concat L with rfl | ⟨L0,x,rfl⟩
  ·exact absurd rfl (hne rfl)
  simp only [List.concat_eq_append] at h hl ⊢
  have hll:(L0++[x]).length = L0.length + 1:=by simp
  rw [hll] at hl
  refine s_cap s fun a1 a2 a3 a4=>?_
  refine s_cap kd fun b1 b2 b3 b4=>?_
  have hsn:=its_n a1
  have hkn:=kps_n b1
  rw [hll] at hsn
  simp only [List.length_nil] at hkn
  unfold nlast
  refine s_new fun t2=>?_
  repeat first | refine s_nx ?_ | refine s_ai ?_
  refine s_f ?_ (by simp; omega)
  repeat first | refine s_nx ?_ | refine s_ai ?_
  refine s_idx (s:=s) (i:=L0.length) ?_
  refine zJF (s:=s) (x:=x) G.f_len (by simp) ?_
  refine s_new fun x5=>?_
  repeat refine s_nx ?_
  refine s_stN (b:=x5) ?_ (by simp [okT.vz.1]) (G.f_len x) (flat_f okT x)
  repeat first | refine s_nx ?_ | refine s_ai ?_
  refine s_slc (lo:=0) (hi:=L0.length) (mx:=s.c) ?_
  rw [cut0 a3]
  repeat refine s_nx ?_
  refine zMD (s:=s) (m:=L0.length) (by omega) a2 ?_
  rw [List.take_left]
  refine s_ldN (b:=x5) (l':=G.f x) ?_ (List.take_of_length_le (by simp [G.f_len])) (G.f_len _)
  refine s_stN (b:=t2) ?_ (by simp [okT.vz.1]) (G.f_len x) (flat_f okT x)
  refine s_ldN (b:=t2) (l':=G.f x) ?_ (List.take_of_length_le (by simp [G.f_len])) (G.f_len _)
  refine s_ownS kd ?_
  refine s_ownS ⟨s.a,L0.length,s.c⟩ ?_
  refine s_own b ?_
  refine s_mk0 (m:=0) (by simp) (by omega) ?_
  exact s_end (h L0 x rfl)
 | succ d ih =>
  intro b L Γ Q h
  refine fun w hw=>ok.last _ _ _ ?_
  refine hg hw ?_
  clear hw w
  refine s_raw fun s kd its ks hf hl hne hL=>?_
  subst hL
  have hf':ks.length = its.length + 1:=hf
  rcases List.eq_nil_or_concat ks with rfl | ⟨A,q,rfl⟩
  ·simp at hf'
  simp only [List.concat_eq_append] at h hf hf' ⊢
  have hkl:(A++[q]).length = A.length + 1:=by simp
  rw [hkl] at hf'
  refine s_pick (kidsD G.toBtT (d + 1) (A++[q])) ?_
  refine s_conv (A':=kidsR G.toBtT d (A++[q])) (fun _ h=>h) ?_
  refine s_kid (A:=A) (C:=[]) ?_
  refine s_cap s fun a1 a2 a3 a4=>?_
  refine s_cap kd fun b1 b2 b3 b4=>?_
  have hsn:=its_n a1
  have hkn:=kps_n b1
  rw [List.length_map,hkl] at hkn
  unfold nlast
  refine s_new fun t2=>?_
  repeat first | refine s_nx ?_ | refine s_ai ?_
  rw [show ((kd.n:Nat):Int) - 1 = ((A.length:Nat):Int) by omega]
  refine s_t ?_ (by simp)
  repeat refine s_nx ?_
  refine s_idx (s:=kd) (i:=A.length) ?_
  refine s_ldE0 (s:=kd) (x:=ptr q) (kp_at at_mid) ?_
  refine s_pick (NodeR G.toBtT d 2 q.1 q.2) ?_
  refine ih (b:=q.1) (L:=q.2) fun L0 x e=>?_
  refine s_new fun x4=>?_
  refine s_stN (b:=x4) ?_ (by simp [okT.vz.1]) (G.f_len x) (flat_f okT x)
  rw [show (A++[q]).map ptr = (A++[(q.1,L0)]).map ptr by simp [ptr]]
  refine s_pick (kidsR G.toBtT d (A++[])) ?_
  refine s_pick (NodeR G.toBtT d 0 q.1 L0) ?_
  refine s_ownS kd ?_
  refine s_ownS s ?_
  refine s_own b ?_
  refine zId ok (q:=(q.1,L0)) (C:=[]) hl (hne rfl) (by simp; omega) ?_
  refine s_ldN (b:=x4) (l':=G.f x) ?_ (List.take_of_length_le (by simp [G.f_len])) (G.f_len _)
  refine s_stN (b:=t2) ?_ (by simp [okT.vz.1]) (G.f_len x) (flat_f okT x)
  refine s_ldN (b:=t2) (l':=G.f x) ?_ (List.take_of_length_le (by simp [G.f_len])) (G.f_len _)
  refine s_end (h (wv its (A++[(q.1,L0)])) x ?_)
  obtain ⟨U,hU⟩:=wv_end (its:=its) (A:=A) (by omega)
  rw [hU,hU,e,List.append_assoc]
def DelR (c:κ→κ→Int) {ν:Type} (z:ν) (L:List (κ×ν)) (k:κ) (L':List (κ×ν)) (old:ν) (had:Bool):Prop :=
 (∃ A C,L = A++(k,old)::C∧L' = A++C∧had = true)∨((∃ A C,L = A++C∧(∀ x ∈ A,c x.1 k < 0)∧(∀ x ∈ C,c k x.1 < 0))∧L' = L∧old = z∧had = false)
theorem DelR.mid {ν:Type} {z old:ν} {A C L L':List (κ×ν)} {k:κ} {had:Bool} (hA:∀ x ∈ A,c x.1 k < 0) (hC:∀ x ∈ C,c k x.1 < 0) (h:DelR c z L k L' old had):DelR c z (A++L++C) k (A++L'++C) old had:=by
 rcases h with ⟨A',C',rfl,rfl,rfl⟩ | ⟨⟨A',C',rfl,h1,h2⟩,rfl,rfl,rfl⟩
 ·exact .inl ⟨A++A',C'++C,by simp,by simp,rfl⟩
 ·refine .inr ⟨⟨A++A',C'++C,by simp,fun x hx=>?_,fun x hx=>?_⟩,rfl,rfl,rfl⟩
  ·rcases List.mem_append.1 hx with hx | hx
   ·exact hA x hx
   ·exact h1 x hx
  ·rcases List.mem_append.1 hx with hx | hx
   ·exact h2 x hx
   ·exact hC x hx
theorem DelR.srt {ν:Type} {z old:ν} {L L':List (κ×ν)} {k:κ} {had:Bool} (h:DelR c z L k L' old had) (hs:Srt c L):Srt c L':=by
 rcases h with ⟨A',C',rfl,rfl,rfl⟩ | ⟨_,rfl,rfl,rfl⟩
 ·exact hs.sub ((List.Sublist.refl A').append (List.sublist_cons_self _ _))
 ·exact hs
theorem DelR.len {ν:Type} {z old:ν} {L L':List (κ×ν)} {k:κ} {had:Bool} (h:DelR c z L k L' old had):L.length = L'.length + (if had then 1 else 0):=by
 rcases h with ⟨A',C',rfl,rfl,rfl⟩ | ⟨_,rfl,rfl,rfl⟩
 ·simp; omega
 ·simp
theorem zPe (ok:BtDOk G c):∀ (d:Nat) {m b:Nat} {M:List G.It} {k:κ} {Γ:List HProp} {Q:Array Value→Bool→K},1 ≤ m→Srt c M →
  (∀ M' old had,DelR c (G.z0 ok.vz) M k M' old had→HG B (NodeR G.toBtT d 0 b M'::Γ) (Q old.1.toArray had)) →
  HG B (NodeR G.toBtT d m b M::Γ) (G.ntakeC (some ⟨b,0,none⟩) k Q):=by
 have okT:=ok.toBtOk
 intro d
 induction d with
 | zero =>
  intro m b M k Γ Q hm hs h
  refine fun w hw=>ok.take _ _ _ _ ?_
  refine hg hw ?_
  clear hw w
  refine zF9 fun s kd _ hl=>?_
  refine s_cap s fun a1 a2 a3 a4=>?_
  refine s_cap kd fun b1 b2 b3 b4=>?_
  have hsn:=its_n a1
  have hkn:=kps_n b1
  simp only [List.length_nil] at hkn
  unfold ntake
  refine s_new fun v4=>?_
  refine zFU okT (s:=s) (kd:=kd) hs (by omega) (fun A v0 C e=>?_) fun A C e hA hC=>?_
  ·subst e
   have hlen:(A++(k,v0)::C).length = A.length + (C.length + 1):=List.length_append
   repeat refine s_nx ?_
   rw [show decide ((kd.n:Int) = 0) = true by simp; omega]
   unfold zFe
   repeat refine s_nx ?_
   refine s_idx (s:=s) (i:=A.length) ?_
   refine s_ldEN (s:=s) (l':=v0.1) zFV v0.2.1 ?_
   refine s_stN (b:=v4) ?_ okT.vz.1 v0.2.1 v0.2.2
   repeat first | refine s_nx ?_ | refine s_ai ?_
   obtain ⟨Z,hdel⟩:=ok.delI
   refine fun w hw=>hdel _ _ _ _ _ ?_
   refine hg hw ?_
   clear hw w
   rw [show ((A.length:Nat):Int) + 1 = ((A.length + 1:Nat):Int) by omega]
   refine s_del (s:=s) (i:=A.length) (j:=A.length + 1) (by omega) (by omega) (by omega) (zEX okT _) (fun s' hs'=>?_) okT.TI
   rw [zO0]
   repeat refine s_nx ?_
   refine s_ret3 (v:=v0) ?_
   refine s_ownS kd ?_
   refine s_ownS s' ?_
   refine s_own b ?_
   refine s_mk0 (m:=0) (by simp) (by simp; omega) ?_
   exact s_end (h _ _ _ (.inl ⟨A,C,rfl,rfl,rfl⟩))
  ·subst e
   repeat refine s_nx ?_
   unfold zFe
   repeat refine s_nx ?_
   refine s_f ?_ (by simp; omega)
   unfold zHp
   refine s_ret3 (v:=G.z0 okT.vz) ?_
   refine s_ownS kd ?_
   refine s_ownS s ?_
   refine s_own b ?_
   refine s_mk0 (m:=0) (by simp) hl ?_
   exact s_end (h _ _ _ (.inr ⟨⟨A,C,rfl,hA,hC⟩,rfl,rfl,rfl⟩))
 | succ d ih =>
  intro m b M k Γ Q hm hs h
  refine fun w hw=>ok.take _ _ _ _ ?_
  refine hg hw ?_
  clear hw w
  refine zGx fun s kd q0 ps hne hl hM=>?_
  subst hM
  have hne:=hne hm
  refine s_cap s fun a1 a2 a3 a4=>?_
  refine s_cap kd fun b1 b2 b3 b4=>?_
  have hsn:=its_n a1
  have hkn:=kps_n b1
  simp only [List.length_map,List.length_cons] at hsn hkn
  unfold ntake
  refine s_new fun v4=>?_
  refine zFU okT (s:=s) (kd:=kd) (hs.sub (zGw q0 ps)) (by simp; omega) (fun A v0 C e=>?_) fun A C e hA hC=>?_
  ·obtain ⟨l,q,r,hA,hC,hK,hL,hlen⟩:=zip_of (q0:=q0) e
   rw [e,hK]
   rw [hL] at hs h
   obtain ⟨⟨xx,q1⟩,r,rfl,hxx,hC'⟩:=List.map_eq_cons_iff.1 hC.symm
   simp only at hxx
   subst hxx
   subst hA
   subst hC'
   simp only [List.length_cons] at hlen
   have hll:(l.map Prod.snd).length = l.length:=by simp
   have hlf:(l.map Prod.fst).length = l.length:=by simp
   repeat refine s_nx ?_
   rw [show decide ((kd.n:Int) = 0) = false by simp; omega]
   unfold zFe
   repeat refine s_nx ?_
   refine s_idx (s:=s) (i:=(l.map Prod.snd).length) ?_
   refine s_ldEN (s:=s) (l':=v0.1) zFV v0.2.1 ?_
   refine s_stN (b:=v4) ?_ okT.vz.1 v0.2.1 v0.2.2
   refine s_dr ?_
   refine s_wsD [nodeB G.toBtT b s kd,itsR G.toBtT s (l.map Prod.snd++(k,v0)::r.map Prod.fst),kpsR G.toBtT kd ((l.map Prod.fst++q::(((k,v0),q1)::r).map Prod.snd).map ptr)] ?_
   repeat refine s_nx ?_
   refine s_idx (s:=kd) (i:=(l.map Prod.fst).length) ?_ (by omega)
   refine zLO (s:=kd) (c:=Value.pointer) (L:=(l.map Prod.fst++q::(((k,v0),q1)::r).map Prod.snd).map ptr) (x:=ptr q) (by simp) ?_
   refine s_pick (kidsR G.toBtT d (l.map Prod.fst++q::(((k,v0),q1)::r).map Prod.snd)) ?_
   refine s_kid ?_
   refine zPd ok d (b:=q.1) (L:=q.2) fun L0 x e2=>?_
   repeat refine s_nx ?_
   refine s_idx (s:=s) (i:=(l.map Prod.snd).length) ?_
   refine s_stEl (s:=s) (A:=l.map Prod.snd) (x:=(k,v0)) (y:=x) G.f_len (flat_f okT x) ?_
   rw [show (l.map Prod.fst++q::(((k,v0),q1)::r).map Prod.snd).map ptr = (l.map Prod.fst++(q.1,L0)::(((k,v0),q1)::r).map Prod.snd).map ptr by simp [ptr]]
   rw [show ((l.map Prod.snd).length:Int) = ((l.map Prod.fst).length:Int) by rw [hll,hlf]]
   refine s_pick (kidsR G.toBtT d (l.map Prod.fst++(((k,v0),q1)::r).map Prod.snd)) ?_
   refine s_pick (NodeR G.toBtT d 0 q.1 L0) ?_
   refine s_ownS kd ?_
   refine s_ownS s ?_
   refine s_own b ?_
   refine zId ok (q:=(q.1,L0)) (by simp; omega) (by simp) (by simp; omega) ?_
   refine s_ret3 (v:=v0) ?_
   refine s_end (h (wv (l.map Prod.snd++x::r.map Prod.fst) (l.map Prod.fst++(q.1,L0)::(((k,v0),q1)::r).map Prod.snd)) v0 true (.inl ⟨preL l++q.2,q1.2++postL r,?_,?_,rfl⟩))
   ·simp [postL]
   ·obtain ⟨q0',ps',e3,e4,e5,e6⟩:=zback l (q.1,L0) ((x,q1)::r)
    rw [show l.map Prod.snd++x::r.map Prod.fst = ps'.map Prod.fst from e4.symm,show l.map Prod.fst++(q.1,L0)::(((k,v0),q1)::r).map Prod.snd = q0'::ps'.map Prod.snd from e5.symm,wv_ps,e6,e2]
    simp [postL]
  ·obtain ⟨l,q,r,rfl,rfl,hK,hL,hlen⟩:=zip_of (q0:=q0) e
   rw [e,hK]
   rw [hL] at hs h
   have hll:(l.map Prod.snd).length = l.length:=by simp
   have hlf:(l.map Prod.fst).length = l.length:=by simp
   have hs1:=List.pairwise_append.1 hs
   have hs2:=List.pairwise_append.1 hs1.1
   have hpre:=pre_lt okT l hs2.1 hA
   have hpost:=zIo okT r hs1.2.1 hC
   repeat refine s_nx ?_
   unfold zFe
   repeat refine s_nx ?_
   refine s_t ?_ (by simp; omega)
   repeat refine s_nx ?_
   refine s_idx (s:=kd) (i:=(l.map Prod.fst).length) ?_ (by omega)
   refine s_ldE0 (s:=kd) (x:=ptr q) (kp_at at_mid) ?_
   refine s_pick (kidsR G.toBtT d (l.map Prod.fst++q::r.map Prod.snd)) ?_
   refine s_kid ?_
   refine ih (m:=2) (b:=q.1) (M:=q.2) (by omega) hs2.2.1 fun M' old had hp=>?_
   refine s_stN (b:=v4) ?_ okT.vz.1 old.2.1 old.2.2
   rw [show (l.map Prod.fst++q::r.map Prod.snd).map ptr = (l.map Prod.fst++(q.1,M')::r.map Prod.snd).map ptr by simp [ptr]]
   rw [show ((l.map Prod.snd).length:Int) = ((l.map Prod.fst).length:Int) by rw [hll,hlf]]
   refine s_pick (kidsR G.toBtT d (l.map Prod.fst++r.map Prod.snd)) ?_
   refine s_pick (NodeR G.toBtT d 0 q.1 M') ?_
   refine s_ownS kd ?_
   refine s_ownS s ?_
   refine s_own b ?_
   refine zId ok (q:=(q.1,M')) (by simp; omega) (fun h0=>hne ?_) (by simp; omega) ?_
   ·have:=congrArg List.length h0
    simp only [List.length_append,List.length_map,List.length_nil] at this
    exact List.length_eq_zero_iff.1 (by omega)
   unfold zHp
   refine s_ret3 (v:=old) ?_
   obtain ⟨q0',ps',e3,e4,e5,e6⟩:=zback l (q.1,M') r
   rw [← e4,← e5,wv_ps,e6]
   exact s_end (h _ _ _ (hp.mid hpre hpost))
theorem zO2 (ok:BtDOk G c) {t v4 d b:Nat} {L L':List G.It} {k:κ} {old:Cel G.nv} {had:Bool} {Q:Array Value→Bool→K} (hs:Srt c L) (hL:L.length < 1000000000) (hp:DelR c (G.z0 ok.vz) L k L' old had) (h:HG B (TreeR G.toBtT c t L'::Γ) (Q old.1.toArray had)) :
  HG B (valB G.toBtT v4 old::blk t (.cells [.pointer (some ⟨b,0,none⟩),.int .i64 L.length].toArray G.tT (0,0))::NodeR G.toBtT d 1 b L'::Γ) (zJE G Q ⟨t,0,none⟩ ⟨v4,0,none⟩ had):=by
 have hlen:=hp.len
 unfold zJE
 refine s_ite (fun hb=>?_) fun hb=>?_
 ·rw [hb,if_pos rfl] at hlen
  repeat first | refine s_nx ?_ | refine s_ai ?_
  unfold zJD
  rw [show ((L.length:Nat):Int) - 1 = ((L'.length:Nat):Int) by omega]
  refine s_ret3 (v:=old) ?_
  refine s_own b ?_
  refine s_own t ?_
  exact zDx (hp.srt hs) (s_end h)
 ·rw [hb,if_neg (by simp)] at hlen
  unfold zJD
  rw [show ((L.length:Nat):Int) = ((L'.length:Nat):Int) by omega]
  refine s_ret3 (v:=old) ?_
  refine s_own b ?_
  refine s_own t ?_
  exact zDx (hp.srt hs) (s_end h)
theorem zQb (ok:BtDOk G c) {t:Nat} {L:List G.It} {k:κ} {Q:Array Value→Bool→K} (hL:L.length < 1000000000) (h:∀ L' old had,DelR c (G.z0 ok.vz) L k L' old had→HG B (TreeR G.toBtT c t L'::Γ) (Q old.1.toArray had)) :
  HG B (TreeR G.toBtT c t L::Γ) (tdel G (some ⟨t,0,none⟩) k Q):=by
 have okT:=ok.toBtOk
 refine s_tree fun d b hs=>?_
 unfold tdel
 refine s_new fun v4=>?_
 repeat refine s_nx ?_
 refine s_pick (NodeR G.toBtT d 1 b L) ?_
 refine zPe ok d (m:=1) (Nat.le_refl _) hs fun M' old had hp=>?_
 have h:=h M' old had hp
 refine s_stN (b:=v4) ?_ okT.vz.1 old.2.1 old.2.2
 repeat refine s_nx ?_
 refine s_own b ?_
 refine s_raw fun s kd its ks hf hl _ hM=>?_
 refine s_cap s fun a1 a2 a3 a4=>?_
 refine s_cap kd fun b1 b2 b3 b4=>?_
 have hsn:=its_n a1
 have hkn:=kps_n b1
 rw [List.length_map] at hkn
 repeat refine s_nx ?_
 have back:((d = 0∧1 = 1)∨its ≠ [])→HG B (rawL G.toBtT d b s kd its ks (valB G.toBtT v4 old::blk t (.cells [.pointer (some ⟨b,0,none⟩),.int .i64 L.length].toArray G.tT (0,0))::Γ)) (zG8 G Q ⟨t,0,none⟩ ⟨v4,0,none⟩ had false):=fun hb=>by
  refine zD6 (m:=1) hf hl (fun _=>hb) ?_
  rw [← hM]
  unfold zG8
  repeat refine s_nx ?_
  refine s_own b ?_
  refine s_own t ?_
  refine s_pick (valB G.toBtT v4 old) ?_
  exact zO2 ok hs hL hp h
 refine s_ite (fun hb=>?_) fun hb=>?_
 ·have hn:its = []:=List.length_eq_zero_iff.1 (by simp only [decide_eq_true_eq] at hb; omega)
  subst hn
  repeat refine s_nx ?_
  cases d with
  | zero =>
   have hk:ks = []:=hf
   subst hk
   rw [show decide ((kd.n:Int) = 1) = false by simp only [List.length_nil] at hkn; simp; omega]
   exact s_end (back (.inl ⟨rfl,rfl⟩))
  | succ d =>
   obtain ⟨q,rfl⟩:∃ q,ks = [q]:=List.length_eq_one_iff.1 hf
   simp only [List.length_cons,List.length_nil] at hkn
   rw [show decide ((kd.n:Int) = 1) = true by simp; omega]
   unfold zG8
   repeat refine s_nx ?_
   refine s_idx (s:=kd) (i:=0) ?_
   refine s_ldE0 (s:=kd) (x:=ptr q) (by simp) ?_
   refine s_st (b:=t) (v:=.pointer (some ⟨q.1,0,none⟩)) ?_
   refine s_pick (kidsD G.toBtT (d + 1) [q]) ?_
   refine s_conv (A':=kidsR G.toBtT d [q]) (fun _ h=>h) ?_
   refine s_kid (A:=[]) (C:=[]) (q:=q) ?_
   refine s_conv (NodeR.weak (m':=1) (by simp) (by simp)) ?_
   have e:q.2 = M':=hM.symm
   rw [e]
   refine s_pick (NodeR G.toBtT d 1 q.1 M') ?_
   refine s_own t ?_
   refine s_pick (valB G.toBtT v4 old) ?_
   refine zO2 ok hs hL hp ?_
   exact s_end h
 ·have hn:its ≠ []:=fun h0=>by
   rw [h0,List.length_nil] at hsn
   simp only [decide_eq_false_iff_not] at hb; omega
  exact s_end (back (.inr hn))
end
end Bt
end Go.Sep
namespace Go.Proofs.YtdemfamgieonbaaGreat
open Go Go.Sep Go.Sep.Bt
set_option maxRecDepth 100000
noncomputable def btSD:BtD ByteArray where
 toBtT:=btS
 delIC:=zAH.call
 delKC:=zAS.call
 ntakeC:=zAU.call
 nlastC:=zBH.call
 nmendC:=zAN.call
theorem zS7:BtDOk btSD cmpS where
 toBtOk:=btS_ok
 delI:=⟨_,fun s i j Q w h=>zB3 _ _ _ _ _ h⟩
 delK:=⟨_,fun s i j Q w h=>zB6 _ _ _ _ _ h⟩
 take:=fun n k Q w h=>zEO _ _ _ _ h
 last:=fun n Q w h=>zEP _ _ _ h
 mend:=fun n i Q w h=>zEQ _ _ _ _ h
def delM (M:Recs) (k:ByteArray):Recs:=M.filter fun x=>!decide (x.1 = k)
def setM (M:Recs) (k:ByteArray) (r:Rec):Recs:=if r.has = false∧r.cnt = 0 then delM M k else putM M k r
theorem zIe {M:Recs} {k:ByteArray} (h:∀ x ∈ M,x.1 ≠ k):delM M k = M:=List.filter_eq_self.2 fun x hx=>by simpa using h x hx
theorem zRz {A C:Recs} {k:ByteArray} {r:Rec} (hA:∀ x ∈ A,x.1 ≠ k) (hC:∀ x ∈ C,x.1 ≠ k):delM (A++(k,r)::C) k = A++C:=by
 unfold delM
 rw [List.filter_append,List.filter_cons_of_neg (by simp)]
 exact congr (congrArg _ (zIe hA)) (zIe hC)
theorem zNi (M:Recs) (k:ByteArray) (r:Rec):(setM M k r).length ≤ M.length + 1:=by
 unfold setM
 split
 ·have:=List.length_filter_le (fun x=>!decide (x.1 = k)) M
  unfold delM; omega
 ·exact zNL _ _ _
section
variable {B:World} {Γ Δ:List HProp}
theorem zPf {t:Nat} {L:List btS.It} {k:ByteArray} {Q:Array Value→Bool→K} (hL:L.length < 1000000000) (h:∀ L' old had,DelR cmpS (btS.z0 btS_ok.vz) L k L' old had→HG B (TreeR btS cmpS t L'::Γ) (Q old.1.toArray had)) :
  HG B (TreeR btS cmpS t L::Γ) (zAD.call (some ⟨t,0,none⟩) k Q):=fun w hw =>
 zD8 _ _ _ _ (show tdel btSD (some ⟨t,0,none⟩) k Q w from hg hw (zQb zS7 hL h))
theorem zQc {X Y:List RecX} {k:ByteArray} {r:Rec×Sl} (h:Srt cmpS ((X++(k,r)::Y).map recI)):∀ x ∈ Y,cmpS k x.1 < 0:=fun x hx=>by
 rw [List.map_append,List.map_cons] at h
 exact (List.pairwise_cons.1 (List.pairwise_append.1 h).2.1).1 (recI x) (List.mem_map.2 ⟨x,hx,rfl⟩)
theorem zOE {st t n:Nat} {X:List RecX} {k:ByteArray} {q:Array Value→Bool→K} (hok:∀ x ∈ X.map recM,x.2.ok) (h1:1 ≤ n) (h3:n ≤ 3) (hL:X.length < 1000000000)
  (h:∀ a b,HG B (StoreR st n (delM (X.map recM) k)::Γ) (q a b)) :
  HG B (blk st (.cells [.int .i64 n,.pointer (some ⟨t,0,none⟩)].toArray zA2 (0,0))::TreeR btS cmpS t (X.map recI)::Sep.stars (X.map recB)::Γ) (zAD.call (some ⟨t,0,none⟩) k q):=by
 refine s_own t ?_
 refine zJf fun hs=>?_
 refine zPf (by simpa using hL) fun L' old had hp=>?_
 rcases hp with ⟨A,C,e,rfl,rfl⟩ | ⟨⟨A,C,e,hA,hC⟩,rfl,rfl,rfl⟩
 ·obtain ⟨XA,r0,XC,rfl,rfl,rfl,rfl⟩:=zIV e
  have e2:delM ((XA++(k,r0)::XC).map recM) k = (XA++XC).map recM:=by
   rw [List.map_append,List.map_cons,List.map_append]
   refine zRz (fun x hx=>?_) fun x hx=>?_
   ·obtain ⟨y,hy,rfl⟩:=List.mem_map.1 hx
    exact ne_of_lt (zIW hs y hy)
   ·obtain ⟨y,hy,rfl⟩:=List.mem_map.1 hx
    exact Ne.symm (ne_of_lt (zQc hs y hy))
  rw [e2] at h
  refine s_pick (Sep.stars ((XA++(k,r0)::XC).map recB)) ?_
  refine s_mid ?_
  rw [show XA.map recI++XC.map recI = (XA++XC).map recI by simp]
  refine s_pick (Sep.stars ((XA++XC).map recB)) ?_
  refine s_own t ?_
  refine s_own st ?_
  refine zDl (fun x hx=>hok x ?_) h1 h3 (s_end (h _ _))
  rw [List.map_append] at hx ⊢
  rcases List.mem_append.1 hx with hx | hx
  ·exact List.mem_append_left _ hx
  ·exact List.mem_append_right _ (List.mem_cons_of_mem _ hx)
 ·have e2:delM (X.map recM) k = X.map recM:=zIe fun x hx=>by
   obtain ⟨y,hy,rfl⟩:=List.mem_map.1 hx
   have hy2:recI y ∈ A++C:=by rw [← e]; exact List.mem_map.2 ⟨y,hy,rfl⟩
   rcases List.mem_append.1 hy2 with h4 | h4
   ·exact ne_of_lt (hA _ h4)
   ·exact Ne.symm (ne_of_lt (hC _ h4))
  rw [e2] at h
  refine s_pick (Sep.stars (X.map recB)) ?_
  refine s_own t ?_
  refine s_own st ?_
  exact zDl hok h1 h3 (s_end (h _ _))
theorem zG9 {st n:Nat} {M:Recs} {k:ByteArray} {r:Rec} {s:Sl} {q:K} (hr:r.ok) (hL:M.length < 1000000000) (h:HG B (StoreR st n (setM M k r)::Γ) q):HG B (StoreR st n M::Bytes zAe s r.val::Γ) (zA6.call (some ⟨st,0,none⟩) k (recA r s) q):=by
 unfold setM at h
 split at h
 ·rename_i h0
  refine fun w hw=>zFl _ _ _ _ _ ?_
  refine hg hw ?_
  clear hw w
  refine zG2 fun t X hM hok h1 h3=>?_
  subst hM
  unfold zA6
  refine s_new fun r5=>?_
  repeat refine s_nx ?_
  refine s_t ?_ (by simp [h0.1])
  repeat refine s_nx ?_
  rw [show decide (r.cnt = 0) = true by simpa using h0.2]
  unfold zA6.s1
  repeat refine s_nx ?_
  refine s_pick (Sep.stars (X.map recB)) ?_
  refine s_own t ?_
  refine s_own st ?_
  exact zOE hok h1 h3 (by simpa using hL) fun _ _=>s_end h
 ·rename_i h0
  refine zH3 hr ?_ hL h
  by_cases h1:r.has = true
  ·exact .inl h1
  ·exact .inr fun h2=>h0 ⟨by simpa using h1,h2⟩
theorem zLR {st n:Nat} {M:Recs} {k:ByteArray} {v:Sl} {xs:List UInt8} {q:K} (hk:k.size < 1000000000000) (hL:M.length < 1000000000) (hr:∀ w,Holds B Γ w→RdB w v xs) (hx:xs.length ≤ 1000000000)
  (h:HG B (StoreR st n (setM M k { sGet n M k with has:=true,val:=xs })::Γ) q):HG B (StoreR st n M::Γ) (zDP.call (some ⟨st,0,none⟩) k v q):=by
 refine fun w hw=>zIU _ _ _ _ _ ?_
 refine hg hw ?_
 clear hw w
 unfold zDP
 refine zC8 hk fun s hok=>?_
 generalize sGet n M k = r at *
 refine s_new fun r6=>?_
 refine s_stN (b:=r6) (l':=recL r s) ?_
 refine zDh (fun w hw=>hr w hw.drops) hx fun s' _=>?_
 repeat refine s_nx ?_
 refine s_ownS s' ?_
 refine s_own st ?_
 obtain ⟨o1,o2,o3⟩:=hok
 refine zG9 (r:={ r with has:=true,val:=xs }) ⟨o1,o2,hx⟩ hL ?_
 exact s_end h
theorem zJz {st n:Nat} {M:Recs} {k:ByteArray} {q:K} (hk:k.size < 1000000000000) (hL:M.length < 1000000000)
  (h:HG B (StoreR st n (setM M k { sGet n M k with has:=false,val:=[] })::Γ) q):HG B (StoreR st n M::Γ) (zCq.call (some ⟨st,0,none⟩) k q):=by
 refine fun w hw=>zG1 _ _ _ _ ?_
 refine hg hw ?_
 clear hw w
 unfold zCq
 refine zC8 hk fun s hok=>?_
 generalize sGet n M k = r at *
 refine s_new fun r6=>?_
 refine s_stN (b:=r6) (l':=recL r s) ?_
 repeat refine s_nx ?_
 refine fun w hw=>?_
 refine hg (show Holds B (Bytes zAe ⟨none,0,0⟩ []::_) w from hw.nilSl zAe 1) ?_
 clear hw w
 refine s_ownS ⟨none,0,0⟩ ?_
 refine s_own st ?_
 obtain ⟨o1,o2,o3⟩:=hok
 refine zG9 (r:={ r with has:=false,val:=[] }) ⟨o1,o2,by simp⟩ hL ?_
 exact s_end h
end
end Go.Proofs.YtdemfamgieonbaaGreat
namespace Go.Proofs.YtdemfamgieonbaaGreat
open Go Go.Sep Go.Sep.Bt
set_option maxRecDepth 100000
def sPut (n:Nat) (M:Recs) (k:ByteArray) (xs:List UInt8):Recs:=setM M k { sGet n M k with has:=true,val:=xs }
def sDel (n:Nat) (M:Recs) (k:ByteArray):Recs:=setM M k { sGet n M k with has:=false,val:=[] }
def apply0 (n:Nat) (M:Recs) (x:List UInt8×Rec):Recs:=if (sGet n M (bs x.1)).cnt ≠ x.2.cnt then (sMove n M (bs x.1) x.2.home).1 else M
def apply1 (n:Nat) (M:Recs) (x:List UInt8×Rec):Recs:=if x.2.has then sPut n (apply0 n M x) (bs x.1) x.2.val else sDel n (apply0 n M x) (bs x.1)
def applyM (n:Nat) (M:Recs) (W:WM):Recs:=W.foldl (apply1 n) M
theorem zPg (n:Nat) (M:Recs) (k:ByteArray) (to:Int):(sMove n M k to).1.length ≤ M.length + 1:=by
 unfold sMove
 split
 ·simp
 split
 ·simp
 exact zNL _ _ _
theorem zKa (n:Nat) (M:Recs) (x:List UInt8×Rec):(apply0 n M x).length ≤ M.length + 1:=by
 unfold apply0
 split
 ·exact zPg _ _ _ _
 ·omega
theorem zKb (n:Nat) (M:Recs) (x:List UInt8×Rec):(apply1 n M x).length ≤ M.length + 2:=by
 have h:=zKa n M x
 unfold apply1 sPut sDel
 split
 ·exact Nat.le_trans (zNi _ _ _) (by omega)
 ·exact Nat.le_trans (zNi _ _ _) (by omega)
section
variable {B:World} {Γ Δ:List HProp} {st n:Nat} {M:Recs}
instance (priority:=high) zT0 {b n m:Nat}:AdrIs (((⟨b,0,none⟩:Addr).add n).add m) b (n + m):=⟨by rw [add_mk,add_mk,Nat.zero_add]⟩
abbrev rowL (x:List UInt8×(Rec×Sl)):List Value:=[strV x.1,.bool x.2.1.has,x.2.2.val,.int .i64 x.2.1.home,.int .u64 x.2.1.cnt]
theorem zR0 {s:Sl} {R:WX} {Q:K} (hr:∀ w,Holds B Γ w→RdC w s 5 (R.flatMap rowF)) (hv:∀ x ∈ R,∀ w,Holds B Γ w→RdB w x.2.2 x.2.1.val) (hR:∀ x ∈ R,x.1.length < 1000000000∧x.2.1.ok) (hL:M.length + 2 * R.length < 100000000)
  (h:HG B (StoreR st n (applyM n M (modW R))::Γ) Q):HG B (StoreR st n M::Γ) (zBI.call (some ⟨st,0,none⟩) s Q):=fun w hw=>by
 refine zMb _ _ _ _ ?_
 have hsn:s.n = R.length:=rd_len zJw (by omega) (hr w hw.tail)
 refine hg hw ?_
 clear hw w
 unfold zBI
 refine s_loop (α:=Int) (ι:=Nat×Recs) (fun x i=>x = (i.1:Int)∧i.1 ≤ R.length∧i.2 = applyM n M (modW (R.take i.1))∧i.2.length ≤ M.length + 2 * i.1) (fun x i=>StoreR st n i.2::Γ) (fun x i=>R.length - i.1) (0,M) ⟨rfl,Nat.zero_le _,rfl,Nat.le_refl _⟩ ?_
 rintro k' _ ⟨i,N⟩ ⟨rfl,hi,hN,hNl⟩ hk'
 simp only at hi hN hNl hk' ⊢
 unfold zBI.b1
 refine s_ite (fun hb=>?_) fun hb=>?_
 ·have hil:i < R.length:=by simp only [decide_eq_true_eq] at hb; omega
  have hge:R[i]? = some R[i]:=List.getElem?_eq_getElem hil
  have hmem:R[i] ∈ R:=List.getElem_mem hil
  have htk:R.take (i + 1) = R.take i++[R[i]]:=List.take_succ_eq_append_getElem hil
  generalize R[i] = x at hge hmem htk
  obtain ⟨hxk,hxo⟩:=hR x hmem
  have hsz:(bs x.1).size = x.1.length:=rfl
  refine s_idxN rowF zJw (fun w hw=>hr w hw.tail) hge ?_
  refine s_new fun w5=>?_
  refine s_stN (b:=w5) (l':=rowL x) ?_
  repeat refine s_nx ?_
  refine s_own st ?_
  refine zC8 (by omega) fun sl hok=>?_
  repeat refine s_nx ?_
  have next:∀ N2,N2 = apply0 n N (x.1,x.2.1)→HG B (blk w5 (.cells (rowL x).toArray zBQ (0,0))::StoreR st n N2::Γ) (zBI.s3 Q k' (some ⟨st,0,none⟩) ⟨w5,0,none⟩ s (s.n:Int) (i:Int)):=fun N2 hN2=>by
   have hl0:=zKa n N (x.1,x.2.1)
   have hl1:=zKb n N (x.1,x.2.1)
   have fin:HG B (StoreR st n (apply1 n N (x.1,x.2.1))::Γ) (zBI.s2 Q k' (some ⟨st,0,none⟩) s (s.n:Int) (i:Int)):=by
    unfold zBI.s2
    refine s_ai ?_
    refine hk' ((i:Int) + 1) (i + 1,apply1 n N (x.1,x.2.1)) ⟨by simp,hil,?_,by simp only; omega⟩ (by simp only; omega)
    simp only [htk,modW,List.map_append,List.map_cons,List.map_nil,applyM,List.foldl_append,List.foldl_cons,List.foldl_nil]
    rw [hN]; rfl
   unfold zBI.s3
   repeat refine s_nx ?_
   refine s_ite (fun hc=>?_) fun hc=>?_
   ·repeat refine s_nx ?_
    refine s_own st ?_
    refine zLR (by omega) (by rw [hN2]; omega) (fun w hw=>hv x hmem w hw.drops) hxo.2.2 ?_
    have e:setM N2 (bs x.1) { sGet n N2 (bs x.1) with has:=true,val:=x.2.1.val } = apply1 n N (x.1,x.2.1):=by
     unfold apply1 sPut; rw [if_pos hc,← hN2]
    rw [e]
    exact s_end fin
   ·repeat refine s_nx ?_
    refine s_own st ?_
    refine zJz (by omega) (by rw [hN2]; omega) ?_
    have e:setM N2 (bs x.1) { sGet n N2 (bs x.1) with has:=false,val:=[] } = apply1 n N (x.1,x.2.1):=by
     unfold apply1 sDel; rw [if_neg (by simp [hc]),← hN2]
    rw [e]
    exact s_end fin
  refine s_ite (fun hc=>?_) fun hc=>?_
  ·have hc':(sGet n N (bs x.1)).cnt ≠ x.2.1.cnt:=by simpa using hc
   repeat refine s_nx ?_
   refine s_own st ?_
   refine zLF (M:=N) (by omega) (by omega) ?_
   exact s_end (next _ (by unfold apply0; rw [if_pos hc']))
  ·have hc':¬ (sGet n N (bs x.1)).cnt ≠ x.2.1.cnt:=by simpa using hc
   exact s_end (next _ (by unfold apply0; rw [if_neg hc']))
 ·have hil:i = R.length:=by simp only [decide_eq_false_iff_not] at hb; omega
  rw [hil,List.take_length] at hN
  rw [hN]
  exact h
end
end Go.Proofs.YtdemfamgieonbaaGreat
namespace Go.Proofs.YtdemfamgieonbaaGreat
open Go Go.Sep
set_option maxRecDepth 100000
abbrev TX:=List UInt8
def cmpct {α:Type} [DecidableEq α]:List α→List α
 | []=>[]
 | [x]=>[x]
 | x::y::L=>if y = x then cmpct (y::L) else x::cmpct (y::L)
theorem zF3 {α:Type} [DecidableEq α]:∀ (A:List α) (a b:α),cmpct (A++[a,b]) = if b = a then cmpct (A++[a]) else cmpct (A++[a])++[b]
 | [],a,b=>by
  by_cases h:b = a <;> simp [cmpct,h]
 | [x],a,b=>by
  have h1:=zF3 [] a b
  simp only [List.nil_append,List.singleton_append] at h1 ⊢
  rw [cmpct,h1]
  by_cases h:b = a
  ·rw [if_pos h,if_pos h]; simp [cmpct]
  ·rw [if_neg h,if_neg h]
   by_cases h2:a = x
   ·simp [cmpct,h2]
   ·simp [cmpct,h2]
 | x::y::A,a,b=>by
  have h1:=zF3 (y::A) a b
  simp only [List.cons_append] at h1 ⊢
  rw [cmpct,h1]
  by_cases h:b = a
  ·rw [if_pos h,if_pos h,cmpct]
  ·rw [if_neg h,if_neg h]
   by_cases h2:y = x
   ·simp [cmpct,h2]
   ·simp [cmpct,h2]
theorem zFs {α:Type} [DecidableEq α]:∀ L:List α,(cmpct L).length ≤ L.length
 | []=>Nat.le_refl _
 | [x]=>Nat.le_refl _
 | x::y::L=>by
  have:=zFs (y::L)
  rw [cmpct]
  split
  ·exact Nat.le_succ_of_le this
  ·simp only [List.length_cons] at this ⊢; omega
theorem zFt {α:Type} [DecidableEq α]:∀ {L:List α} {x:α},x ∈ cmpct L ↔ x ∈ L
 | [],x=>Iff.rfl
 | [y],x=>Iff.rfl
 | y::z::L,x=>by
  have ih:=zFt (L:=z::L) (x:=x)
  rw [cmpct]
  split
  ·rename_i h
   rw [ih,h]; simp
  ·rw [List.mem_cons,ih,List.mem_cons (a:=x) (b:=y)]
theorem zKc:∀ (x:TX) (L:List TX),(∀ y ∈ L,x ≤ y)→∀ z,z ∈ (cmpct (x::L)).tail→(x::L).Pairwise (· ≤ ·)→x < z
 | x,[],_,z,hz,_=>by simp [cmpct] at hz
 | x,y::L,h,z,hz,hp=>by
  rw [cmpct] at hz
  have hp2:=List.pairwise_cons.1 hp
  split at hz
  ·rename_i e
   subst e
   exact zKc y L (fun w hw=>h w (List.mem_cons_of_mem _ hw)) z hz hp2.2
  ·rename_i e
   rw [List.tail_cons,zFt] at hz
   have h1:x ≤ z:=h z hz
   rcases List.le_iff_lt_or_eq.1 h1 with h2 | h2
   ·exact h2
   ·exfalso
    have h3:y ≤ z:=by
     rcases List.mem_cons.1 hz with rfl | hz
     ·exact List.le_refl _
     ·exact (List.pairwise_cons.1 hp2.2).1 z hz
    have h4:x ≤ y:=h y List.mem_cons_self
    exact e (List.le_antisymm (by rw [h2]; exact h3) h4)
theorem zJb:∀ (L:List TX),L.Pairwise (· ≤ ·)→(cmpct L).Pairwise (· < ·)
 | [],_=>List.Pairwise.nil
 | [x],_=>List.pairwise_singleton _ _
 | x::y::L,h=>by
  have ih:=zJb (y::L) (List.pairwise_cons.1 h).2
  rw [cmpct]
  split
  ·exact ih
  ·rename_i e
   refine List.pairwise_cons.2 ⟨fun z hz=>?_,ih⟩
   refine zKc x (y::L) (List.pairwise_cons.1 h).1 z ?_ h
   rw [cmpct,if_neg e]; exact hz
theorem zNj:∀ {L M:List TX},L.Pairwise (· < ·)→M.Pairwise (· < ·)→(∀ x,x ∈ L ↔ x ∈ M)→L = M
 | [],[],_,_,_=>rfl
 | [],y::M,_,_,h=>by have:=(h y).2 List.mem_cons_self; simp at this
 | x::L,[],_,_,h=>by have:=(h x).1 List.mem_cons_self; simp at this
 | x::L,y::M,hL,hM,h=>by
  have h1:=List.pairwise_cons.1 hL
  have h2:=List.pairwise_cons.1 hM
  have hxy:x = y:=by
   rcases List.mem_cons.1 ((h x).1 List.mem_cons_self) with e | e
   ·exact e
   ·rcases List.mem_cons.1 ((h y).2 List.mem_cons_self) with e2 | e2
    ·exact e2.symm
    ·exact absurd (List.lt_trans (h1.1 y e2) (h2.1 x e)) (List.lt_irrefl _)
  subst hxy
  congr 1
  refine zNj h1.2 h2.2 fun z=>?_
  constructor
  ·intro hz
   rcases List.mem_cons.1 ((h z).1 (List.mem_cons_of_mem _ hz)) with e | e
   ·subst e; exact absurd (h1.1 z hz) (List.lt_irrefl _)
   ·exact e
  ·intro hz
   rcases List.mem_cons.1 ((h z).2 (List.mem_cons_of_mem _ hz)) with e | e
   ·subst e; exact absurd (h2.1 z hz) (List.lt_irrefl _)
   ·exact e
theorem zR1 (L:List TX):(sortL L).Pairwise (· ≤ ·):=by
 have:=List.pairwise_mergeSort (le:=fun a b:TX=>decide (a ≤ b)) (fun a b c h1 h2=>by simp only [decide_eq_true_eq] at *; exact List.le_trans h1 h2) (fun a b=>by simp only [Bool.or_eq_true,decide_eq_true_eq]; exact List.le_total a b) L
 refine List.Pairwise.imp ?_ this
 intro a b h; simpa using h
section
variable {B:World} {Γ Δ:List HProp} {k:K}
theorem zPh {s:Sl} {L:List TX} {Q:Sl→K} (hL:L.length < 100000000) (h:∀ s',HG B (SlS s' (cmpct L)::Γ) (Q s')):HG B (SlS s L::Γ) (zAG.call s Q):=by
 refine fun w hw=>zEp _ _ _ ?_
 refine hg hw ?_
 clear hw w
 unfold zAG
 refine s_cap s fun a1 a2 a3 a4=>?_
 rw [List.length_map,Nat.mul_one] at a1
 refine s_ite (fun hb=>?_) fun hb=>?_
 ·have e:cmpct L = L:=by
   match L,a1 with
   | [],_=>rfl
   | [x],_=>rfl
   | x::y::L,a1=>simp only [List.length_cons] at a1; simp only [decide_eq_true_eq] at hb; omega
  rw [e] at h
  exact h s
 have hn2:2 ≤ L.length:=by simp only [decide_eq_false_iff_not] at hb; omega
 refine zDA (α:=Int) (fun x=>∃ i:Nat,x = (i:Int)∧1 ≤ i∧i ≤ L.length∧cmpct (L.take i) = L.take i) (fun x=>L.length - x.toNat) ⟨1,rfl,Nat.le_refl _,by omega,?_⟩ fun k' x hx hk'=>?_
 ·match L,hn2 with
  | x::L,_=>simp [cmpct]
 obtain ⟨i,rfl,hi1,hi,hc⟩:=hx
 unfold zAG.b1
 refine s_ite (fun hb2=>?_) fun hb2=>?_
 rotate_left
 ·have hil:i = L.length:=by simp only [decide_eq_false_iff_not] at hb2; omega
  rw [hil,List.take_length] at hc
  rw [hc] at h
  exact h s
 have hil:i < L.length:=by simp only [decide_eq_true_eq] at hb2; omega
 obtain ⟨j,rfl⟩:∃ j,i = j + 1:=⟨i - 1,by omega⟩
 have step:∀ m,m + 1 < L.length→cmpct (L.take (m + 2)) = if L[m + 1]? = L[m]? then cmpct (L.take (m + 1)) else cmpct (L.take (m + 1))++L[m + 1]?.toList:=fun m hm=>by
  have t1:L.take (m + 2) = L.take m++[L[m],L[m + 1]]:=by rw [List.take_succ_eq_append_getElem hm,List.take_succ_eq_append_getElem (by omega),List.append_assoc]; rfl
  have t2:L.take (m + 1) = L.take m++[L[m]]:=List.take_succ_eq_append_getElem (by omega)
  rw [t1,t2,zF3,List.getElem?_eq_getElem hm,List.getElem?_eq_getElem (show m < L.length by omega)]
  simp
 obtain ⟨a,ha⟩:∃ a,L[j + 1]? = some a:=⟨_,List.getElem?_eq_getElem hil⟩
 obtain ⟨b,hb'⟩:∃ b,L[j]? = some b:=⟨_,List.getElem?_eq_getElem (by omega)⟩
 refine s_dr ?_
 refine s_idxS (L:=L) (j:=j + 1) (fun w hw=>(own_rd (s:=s) hw).1) ha ?_ rfl
 refine s_ai ?_
 refine s_idxS (L:=L) (j:=j) (fun w hw=>(own_rd (s:=s) hw).1) hb' ?_ (by omega)
 rw [zBp,zBp]
 have hst:=step j hil
 rw [ha,hb'] at hst
 refine s_ite (fun he=>?_) fun he=>?_
 rotate_left
 ·have hne:¬ some a = some b:=by simpa using he
  rw [if_neg hne] at hst
  refine s_ai ?_
  refine hk' _ ⟨j + 2,by simp; omega,by omega,hil,?_⟩ (by omega)
  rw [hst,hc,List.take_succ_eq_append_getElem hil]
  rw [List.getElem?_eq_getElem hil] at ha
  rw [Option.some.inj ha]; rfl
 have hab:some a = some b:=by simpa using he
 rw [if_pos hab,hc] at hst
 refine s_slc (lo:=j + 1) (hi:=s.n) (mx:=s.c) ?_
 refine s_loop (α:=Int×Int) (ι:=Nat×Nat×List TX) (fun y i=>y.1 = (i.1:Int)∧y.2 = (i.2.1:Int)∧1 ≤ i.2.1∧j + 1 + i.2.1 ≤ L.length∧i.1 < j + 1 + i.2.1∧i.2.2.length = L.length∧i.2.2.drop (j + i.2.1) = L.drop (j + i.2.1)∧i.2.2.take i.1 = cmpct (L.take (j + 1 + i.2.1)))
  (fun y i=>SlS s i.2.2::Γ) (fun y i=>L.length - i.2.1) (j + 1,1,L) ⟨rfl,rfl,Nat.le_refl _,by simp only; omega,by simp only; omega,rfl,rfl,hst.symm⟩ ?_
 rintro k2 ⟨_,_⟩ ⟨p,q,M⟩ ⟨rfl,rfl,hq1,hq,hpq,hM,hd,ht⟩ hk2
 simp only at hq1 hq hpq hM hd ht hk2 ⊢
 unfold zAG.b2
 simp only
 refine s_cap s fun d1 d2 d3 d4=>?_
 rw [List.length_map,Nat.mul_one] at d1
 refine s_ite (fun hb3=>?_) fun hb3=>?_
 ·have hql:j + 1 + q < L.length:=by simp only [decide_eq_true_eq] at hb3; omega
  obtain ⟨x,hx⟩:∃ x,L[j + 1 + q]? = some x:=⟨_,List.getElem?_eq_getElem hql⟩
  obtain ⟨y,hy⟩:∃ y,L[j + q]? = some y:=⟨_,List.getElem?_eq_getElem (by omega)⟩
  have hMx:M[j + 1 + q]? = some x:=by
   have:=congrArg (·[1]?) hd
   simp only [List.getElem?_drop] at this
   rw [show j + q + 1 = j + 1 + q by omega] at this
   rw [this,hx]
  have hMy:M[j + q]? = some y:=by
   have:=congrArg (·[0]?) hd
   simp only [List.getElem?_drop,Nat.add_zero] at this
   rw [this,hy]
  have hrd:∀ w,Holds B (SlS s M::Γ) w→RdC w ⟨cutA s.a (j + 1) s.c 1,s.n - (j + 1),s.c - (j + 1)⟩ 1 ((M.drop (j + 1)).map strV):=fun w hw=>by
   have:=(own_rd (s:=s) hw).1.drop (l:=j + 1) (c:=s.c) (by omega) d2 d3
   rwa [Nat.mul_one,← List.map_drop] at this
  have hst2:=step (j + q) (by omega)
  rw [show j + q + 1 = j + 1 + q by omega,hx,hy,show j + q + 2 = j + 1 + (q + 1) by omega] at hst2
  refine s_dr ?_
  refine s_idxS (L:=M.drop (j + 1)) (j:=q) hrd (by rw [List.getElem?_drop]; exact hMx) ?_ rfl
  refine s_ai ?_
  refine s_idxS (L:=M.drop (j + 1)) (j:=q - 1) hrd (by rw [List.getElem?_drop,show j + 1 + (q - 1) = j + q by omega]; exact hMy) ?_ (by omega)
  rw [zBp,zBp]
  unfold zAG.s3
  refine s_ite (fun he2=>?_) fun he2=>?_
  ·have hne:¬ some x = some y:=by simpa using he2
   rw [if_neg hne] at hst2
   refine s_idxS (L:=M.drop (j + 1)) (j:=q) hrd (by rw [List.getElem?_drop]; exact hMx) ?_ rfl
   refine s_idx (s:=s) (i:=p) ?_
   rw [← add0 (elA s p 1)]
   refine s_stE (s:=s) ?_ (by simp; omega)
   rw [show p * 1 + 0 = p by omega,show Value.string (bs x) = strV x from rfl,← List.map_set]
   refine s_ai ?_
   refine s_ai ?_
   refine hk2 _ (p + 1,q + 1,M.set p x) ⟨by simp,by simp,by simp only; omega,by simp only; omega,by simp only; omega,by simpa using hM,?_,?_⟩ (by simp only; omega)
   ·simp only
    rw [List.drop_set_of_lt (by omega),show j + (q + 1) = (j + q) + 1 by omega,← List.drop_drop,hd,List.drop_drop]
   ·simp only
    rw [zHe (by omega),ht,hst2]; rfl
  ·have heq:some x = some y:=by simpa using he2
   rw [if_pos heq] at hst2
   refine s_ai ?_
   refine hk2 _ (p,q + 1,M) ⟨rfl,by simp,by simp only; omega,by simp only; omega,by simp only; omega,hM,?_,?_⟩ (by simp only; omega)
   ·simp only
    rw [show j + (q + 1) = (j + q) + 1 by omega,← List.drop_drop,hd,List.drop_drop]
   ·simp only
    rw [ht,hst2]
 ·have hql:j + 1 + q = L.length:=by simp only [decide_eq_false_iff_not] at hb3; omega
  rw [hql,List.take_length] at ht
  refine s_slc (lo:=p) (hi:=s.n) (mx:=s.c) ?_
  refine zDm (s:=s) (m:=p) (c':=s.c) (by omega) (by omega) (Nat.le_refl _) ?_
  rw [show (M.map strV).take (p * 1) = (cmpct L).map strV by rw [Nat.mul_one,← List.map_take,ht]]
  refine zGt (s:=⟨s.a,p,s.c⟩) (l:=p) (q:=s.n - p) (m:=s.c) rfl (Nat.le_refl _) (by simp only; omega) (by omega) ?_
  refine s_slc (lo:=0) (hi:=p) (mx:=s.c) ?_
  rw [cut0 d3]
  exact h ⟨s.a,p,s.c⟩
theorem zR2 {n:Nat} {Q:Sl→K} (hn:n < 50000000) (h:∀ s,s.n = 0→HG B (SlS s []::Γ) (Q s)):HG B Γ (zAa.call ⟨none,0,0⟩ (n:Int) Q):=by
 refine fun w hw=>zFO _ _ _ _ ?_
 refine hg hw ?_
 clear hw w
 unfold zAa
 refine s_f ?_ (by simp)
 unfold zAa.s1
 refine zK4 (s:=⟨none,0,0⟩) (E:=zB1) (esz:=1) (by kernel_rfl) ?_
 refine s_ar (e':=0) (by rw [wrap64 (by simp) (by simp)]; simp) ?_
 refine s_ar (e':=(n:Int)) (by rw [wrap64 (by omega) (by omega)]; omega) ?_
 unfold zAa.s2
 refine s_ite (fun hb=>?_) fun hb=>?_
 ·refine zK4 (s:=⟨none,0,0⟩) (E:=zB1) (esz:=1) (by kernel_rfl) ?_
  refine s_slc (lo:=0) (hi:=0) (mx:=0) ?_
  refine s_appZ (s:=⟨none,0,0⟩) (vs:=[]) (E:=zB1) (esz:=1) (by omega) (by simp only [decide_eq_true_eq] at hb; simp; omega) (by simp; omega) (fun s' zs hs' hz hf=>?_) (fun w hw=>RdC.none') (Nat.le_refl _)
  simp only [Nat.zero_add,List.nil_append] at hs' ⊢
  refine s_cap s' fun a1 a2 a3 a4=>?_
  refine s_slc (lo:=0) (hi:=0) (mx:=s'.c) ?_ rfl (by simp) rfl
  rw [cut0 a3]
  refine zDm (s:=s') (m:=0) (c':=s'.c) (Nat.zero_le _) (Nat.zero_le _) (Nat.le_refl _) ?_
  simp only [Nat.zero_mul,List.take_zero,Nat.sub_zero]
  exact h ⟨s'.a,0,s'.c⟩ rfl
 ·refine fun w hw=>?_
  exact h ⟨none,0,0⟩ rfl w (hw.nilSl _ _)
theorem zPi {t:Nat} {a b:Sl} {La Lb:List TX} {Q:Sl→K} (hla:La.length ≤ 10000000) (hlb:Lb.length ≤ 10000000) (ha:∀ w,Holds B Γ w→RdC w a 1 (La.map strV)) (hb:∀ w,Holds B Γ w→RdC w b 1 (Lb.map strV)) (h:∀ s,HG B (SlS s (La++Lb)::Γ) (Q s)) :
  HG B (blk t (.cells [a.val,b.val].toArray zDG (0,0))::Γ) (zAK.call (Sl.mk (some ⟨t,0,none⟩) 2 2) Q):=fun w hw=>by
 refine zEz _ _ _ ?_
 have han:a.n = La.length:=by have:=(ha w hw.tail).len; simpa using this.symm
 have hbn:b.n = Lb.length:=by have:=(hb w hw.tail).len; simpa using this.symm
 refine Sep.hg hw ?_
 clear hw w
 unfold zAK
 have rd:∀ {X:List HProp} [Drops X (blk t (.cells [a.val,b.val].toArray zDG (0,0))::Γ)],∀ w,Holds B X w→RdC w (Sl.mk (some ⟨t,0,none⟩) 2 2) 1 ([a,b].map Sl.val):=fun w hw=>by
  have:=RdC.of_blk (esz:=1) (E:=zDG) (b:=t) (n:=2) (vs:=[a.val,b.val]) (cs:=[a.val,b.val].toArray) (Γ:=blk t (.cells [a.val,b.val].toArray zDG (0,0))::Γ) hw.drops List.mem_cons_self (by simp) rfl 2
  simpa using this
 refine s_loop (α:=Int×Int) (ι:=Nat) (fun x j=>j ≤ 2∧x.2 = (j:Int)∧x.1 = (if j = 0 then 0 else if j = 1 then La.length else La.length + Lb.length:Nat)) (fun x j=>blk t (.cells [a.val,b.val].toArray zDG (0,0))::Γ) (fun x j=>2 - j) 0 ⟨by omega,rfl,rfl⟩ ?_
 rintro k' ⟨_,_⟩ j ⟨hj,rfl,rfl⟩ hk'
 simp only at hk' ⊢
 unfold zAK.b1 zAK.s2
 match j,hj with
 | 0,_ =>
  refine s_t ?_
  refine s_idx1 (L:=[a,b]) (j:=0) (x:=a) rd rfl ?_ rfl
  refine s_ar (e':=(La.length:Int)) (by rw [wrap64 (by simp <;> omega) (by simp <;> omega)]; simp <;> omega) ?_
  refine s_f ?_
  refine s_ai ?_
  exact hk' _ 1 ⟨by omega,rfl,rfl⟩ (by omega)
 | 1,_ =>
  refine s_t ?_
  refine s_idx1 (L:=[a,b]) (j:=1) (x:=b) rd rfl ?_ rfl
  refine s_ar (e':=((La.length + Lb.length:Nat):Int)) (by rw [wrap64 (by simp <;> omega) (by simp <;> omega)]; simp <;> omega) ?_
  refine s_f ?_
  refine s_ai ?_
  exact hk' _ 2 ⟨by omega,rfl,rfl⟩ (by omega)
 | 2,_ =>
  refine s_f ?_
  refine zR2 (n:=La.length + Lb.length) (by omega) fun s0 hs0=>?_
  refine s_loop (α:=Sl×Int) (ι:=Nat) (fun x j=>j ≤ 2∧x.2 = (j:Int)∧x.1.n = (if j = 0 then 0 else if j = 1 then La.length else La.length + Lb.length)) (fun x j=>SlS x.1 (if j = 0 then [] else if j = 1 then La else La++Lb)::blk t (.cells [a.val,b.val].toArray zDG (0,0))::Γ) (fun x j=>2 - j) 0 ⟨by omega,rfl,hs0⟩ ?_
  rintro k2 ⟨s1,_⟩ j ⟨hj,rfl,hs1⟩ hk2
  simp only at hs1 hk2 ⊢
  unfold zAK.b3
  match j,hj with
  | 0,_ =>
   refine s_t ?_
   refine s_idx1 (L:=[a,b]) (j:=0) (x:=a) rd rfl ?_ rfl
   simp only [if_true] at hs1
   refine zBT (s:=s1) (us:=La.map strV) (fun w hw=>ha w hw.drops) (fun v hv=>by obtain ⟨y,_,rfl⟩:=List.mem_map.1 hv; rfl) (by omega) fun s2 hs2=>?_
   refine s_ai ?_
   exact hk2 (s2,1) 1 ⟨by omega,rfl,by show s2.n = La.length; omega⟩ (by omega)
  | 1,_ =>
   refine s_t ?_
   refine s_idx1 (L:=[a,b]) (j:=1) (x:=b) rd rfl ?_ rfl
   have hs1':s1.n = La.length:=hs1
   refine zBT (s:=s1) (vs:=La.map strV) (us:=Lb.map strV) (fun w hw=>hb w hw.drops) (fun v hv=>by obtain ⟨y,_,rfl⟩:=List.mem_map.1 hv; rfl) (by omega) fun s2 hs2=>?_
   refine s_ai ?_
   rw [← List.map_append]
   exact hk2 (s2,2) 2 ⟨by omega,rfl,by show s2.n = La.length + Lb.length; omega⟩ (by omega)
  | 2,_ =>
   refine s_f ?_
   show HG B (SlS s1 (La++Lb)::blk t (.cells [a.val,b.val].toArray zDG (0,0))::Γ) _
   exact s_end (h s1)
end
end Go.Proofs.YtdemfamgieonbaaGreat
namespace Go.Proofs.YtdemfamgieonbaaGreat
open Go Go.Sep
set_option maxRecDepth 100000
set_option maxHeartbeats 4000000
attribute [local irreducible] G Gp Cx Tx Ex Sx Dx Ox Ax Lx Rx Fx Bx Bj Al Do Ld LdN St StN New CallF Ar DoU Rd Rd2 Pu Cd Ite Fv CallV CallY Ans0 Ans1 Ans2 Ans3 Ans4 Ans5 Ext Dead Dr WithS Sv LdS LdNS RdS Rd2S Nn Idx IdxA IdxS Fld Bld Slc SlcS Cat All LoopK RangeF RangeJ TakeD
namespace F_IRRef05
instance at_123:AT Tryz.prog 123 4:=⟨by kernel_rfl⟩
instance at_25:AT Tryz.prog 25 5:=⟨by kernel_rfl⟩
instance cb_120:CB Tryz.prog 120:=⟨by kernel_rfl⟩
instance cb_43:CB Tryz.prog 43:=⟨by kernel_rfl⟩
instance cb_44:CB Tryz.prog 44:=⟨by kernel_rfl⟩
instance cb_45:CB Tryz.prog 45:=⟨by kernel_rfl⟩
instance ct_2:CT Tryz.prog 2:=⟨by kernel_rfl⟩
instance ct_22:CT Tryz.prog 22:=⟨by kernel_rfl⟩
instance ct_23:CT Tryz.prog 23:=⟨by kernel_rfl⟩
instance ct_3:CT Tryz.prog 3:=⟨by kernel_rfl⟩
instance ct_85:CT Tryz.prog 85:=⟨by kernel_rfl⟩
instance ct_9:CT Tryz.prog 9:=⟨by kernel_rfl⟩
instance zHk:FT Tryz.prog 123 0 0 1:=⟨by kernel_rfl⟩
instance zHl:FT Tryz.prog 123 1 1 1:=⟨by kernel_rfl⟩
instance zHm:FT Tryz.prog 123 2 2 1:=⟨by kernel_rfl⟩
instance zHn:FT Tryz.prog 123 3 3 1:=⟨by kernel_rfl⟩
instance zFb:FT Tryz.prog 25 0 0 1:=⟨by kernel_rfl⟩
instance zO3:FT Tryz.prog 25 1 1 1:=⟨by kernel_rfl⟩
instance zG7:FT Tryz.prog 25 2 2 1:=⟨by kernel_rfl⟩
instance zJA:FT Tryz.prog 25 3 3 1:=⟨by kernel_rfl⟩
instance zJB:FT Tryz.prog 25 4 4 1:=⟨by kernel_rfl⟩
instance mx:MX Tryz.prog:=⟨mixed⟩
instance pl_25:PLT Tryz.prog 25 [(0,1),(1,1),(2,1),(3,1),(4,1)]:=⟨_,Tryz.underlying25,by kernel_rfl⟩
instance sl_22:SLT Tryz.prog 22 9 1:=⟨by kernel_rfl⟩
instance sl_23:SLT Tryz.prog 23 123 4:=⟨by kernel_rfl⟩
instance sl_85:SLT Tryz.prog 85 5 1:=⟨by kernel_rfl⟩
instance st_9:STT Tryz.prog 9:=⟨by kernel_rfl⟩
instance sz_123:SZ Tryz.prog 123 4:=⟨by kernel_rfl⟩
instance sz_23:SZ Tryz.prog 23 1:=⟨by kernel_rfl⟩
instance sz_25:SZ Tryz.prog 25 5:=⟨by kernel_rfl⟩
instance sz_85:SZ Tryz.prog 85 1:=⟨by kernel_rfl⟩
instance sz_9:SZ Tryz.prog 9 1:=⟨by kernel_rfl⟩
instance zt_123:ZT Tryz.prog 123 (.agg #[(.int .i64 0),(.string ⟨#[]⟩),(Sl.val ⟨none,0,0⟩),(.int .i64 0)]):=⟨Tryz.t123,by kernel_rfl,by kernel_rfl⟩
instance zt_25:ZT Tryz.prog 25 (.agg #[(.int .i64 0),(Sl.val ⟨none,0,0⟩),(Sl.val ⟨none,0,0⟩),(Sl.val ⟨none,0,0⟩),(.int .i64 0)]):=⟨Tryz.t25,by kernel_rfl,by kernel_rfl⟩
instance zt_5:ZT Tryz.prog 5 (.int .u8 0):=⟨Tryz.t5,by kernel_rfl,by kernel_rfl⟩
instance zt_9:ZT Tryz.prog 9 (.string ⟨#[]⟩):=⟨Tryz.t9,by kernel_rfl,by kernel_rfl⟩
end F_IRRef05
def zAj.s5 (Q:Bool→K) (X2:Int→K) (X3:Int→K) (X4:Int→K) (t1_5:Addr) (i5_5:Int) (t74_5:Bool):K :=
 Ite t74_5
  (Q true)
  (Ar (IntKind.wrap .i64 (i5_5 + 1)) fun t56 =>
  X4 t56)
def zAj.b4 (Q:Bool→K) (X2:Int→K) (X3:Int→K) (X4:Int→K) (t1_4:Addr) (i5_4:Int):K :=
 Ld (t1_4.add 3) Sl.val fun t52 =>
 Ite (decide (i5_4 < (t52.n:Int)))
  (Ld (t1_4.add 3) Sl.val fun t58 =>
  Idx t58 i5_4 4 fun t60 =>
  Ld (t60.add 1) Value.string fun t62 =>
  Ite (decide ((200:Int) < (t62.size:Int)))
   (zAj.s5 Q X2 X3 X4 t1_4 i5_4 true)
   (Ld (t1_4.add 3) Sl.val fun t67 =>
   Idx t67 i5_4 4 fun t69 =>
   Ld (t69.add 2) Sl.val fun t71 =>
   zAj.s5 Q X2 X3 X4 t1_4 i5_4 (decide ((200:Int) < (t71.n:Int)))))
  (Q false)
def zAj.b3 (Q:Bool→K) (X2:Int→K) (X3:Int→K) (t1_3:Addr) (i4_3:Int):K :=
 Ld (t1_3.add 2) Sl.val fun t38 =>
 Ite (decide (i4_3 < (t38.n:Int)))
  (Ld (t1_3.add 2) Sl.val fun t44 =>
  Idx t44 i4_3 1 fun t46 =>
  Ld t46 Value.string fun t47 =>
  Ite (decide ((200:Int) < (t47.size:Int)))
   (Q true)
   (Ar (IntKind.wrap .i64 (i4_3 + 1)) fun t42 =>
   X3 t42))
  (LoopK (α:=Int) (fun X x=>zAj.b4 Q X2 X3 X t1_3 x) 0)
def zAj.b2 (Q:Bool→K)  (X2:Int→K) (t1_2:Addr) (i3_2:Int):K :=
 Ld (t1_2.add 1) Sl.val fun t24 =>
 Ite (decide (i3_2 < (t24.n:Int)))
  (Ld (t1_2.add 1) Sl.val fun t30 =>
  Idx t30 i3_2 1 fun t32 =>
  Ld t32 Value.string fun t33 =>
  Ite (decide ((200:Int) < (t33.size:Int)))
   (Q true)
   (Ar (IntKind.wrap .i64 (i3_2 + 1)) fun t28 =>
   X2 t28))
  (LoopK (α:=Int) (fun X x=>zAj.b3 Q X2 X t1_2 x) 0)
def zAj.s1 (Q:Bool→K)  (t1_1:Addr) (t21_1:Bool):K :=
 Ite t21_1
  (Q true)
  (LoopK (α:=Int) (fun X x=>zAj.b2 Q X t1_1 x) 0)
def zAj (t0:(Array Value)) (Q:Bool→K):K :=
 New 25 t0 fun t1 =>
 Ld (t1.add 1) Sl.val fun t7 =>
 Ite (decide ((40:Int) < (t7.n:Int)))
  (zAj.s1 Q t1 true)
  (Ld (t1.add 2) Sl.val fun t12 =>
  Ite (decide ((40:Int) < (t12.n:Int)))
   (zAj.s1 Q t1 true)
   (Ld (t1.add 3) Sl.val fun t18 =>
   zAj.s1 Q t1 (decide ((60:Int) < (t18.n:Int)))))
theorem zLS (t0:(Array Value)) (Q:Bool→K) (w:World) (h:zAj t0 Q w):zAj.call t0 Q w:=by
 have hJ17:∀ (X2:Int→K),XH 4 X2→∀ (X3:Int→K),XH 9 X3→∀ (X4:Int→K),XH 14 X4→JH 17 fun D=>∃ (t1_5:Addr) (i5_5:Int),D [(1,(.pointer (some t1_5))),(5,(.int .i64 i5_5))] (fun C=>∀ (t74_5:Bool),C [(1,(.pointer (some t1_5))),(5,(.int .i64 i5_5)),(74,(.bool t74_5))] (zAj.s5 Q X2 X3 X4 t1_5 i5_5 t74_5)):=by intros; exact ⟨fun _ ⟨_,_,h⟩=>⟨_,_,h⟩⟩
 have hL14:∀ (X2:Int→K),XH 4 X2→∀ (X3:Int→K),XH 9 X3→∀ (t1_4:Addr),LH 14 (fun x:Int=>[(1,(.pointer (some t1_4))),(5,(.int .i64 x))]) (fun X x=>zAj.b4 Q X2 X3 X t1_4 x):=by intros; exact ⟨⟩
 have hL9:∀ (X2:Int→K),XH 4 X2→∀ (t1_3:Addr),LH 9 (fun x:Int=>[(1,(.pointer (some t1_3))),(4,(.int .i64 x))]) (fun X x=>zAj.b3 Q X2 X t1_3 x):=by intros; exact ⟨⟩
 have hL4:∀ (t1_2:Addr),LH 4 (fun x:Int=>[(1,(.pointer (some t1_2))),(3,(.int .i64 x))]) (fun X x=>zAj.b2 Q X t1_2 x):=by intros; exact ⟨⟩
 have hJ2:JH 2 fun D=>∃ (t1_1:Addr),D [(1,(.pointer (some t1_1)))] (fun C=>∀ (t21_1:Bool),C [(1,(.pointer (some t1_1))),(21,(.bool t21_1))] (zAj.s1 Q t1_1 t21_1)):=by intros; exact ⟨fun _ ⟨_,h⟩=>⟨_,_,h⟩⟩
 exact g_walk 75 h Tryz.func9
def zAJ.s3 (Q:Bool→K) (X2:Int→K) (regions1_3:Int) (t2_3:Addr) (keys5_3:Sl) (i6_3:Int) (t90_3:Bool):K :=
 Ite t90_3
  (Q false)
  (Ar (IntKind.wrap .i64 (i6_3 + 1)) fun t60 =>
  X2 t60)
def zAJ.s4 (Q:Bool→K) (X2:Int→K) (t4_4:Bool):K :=
 Q t4_4
def zAJ.b6 (Q:Bool→K) (X2:Int→K) (X6:Int→K) (t2_6:Addr) (i7_6:Int):K :=
 Ld (t2_6.add 3) Sl.val fun t137 =>
 Ite (decide (i7_6 < (t137.n:Int)))
  (Dr <|
  LdN t2_6 5 fun t142 =>
  Ld (t2_6.add 3) Sl.val fun t144 =>
  Idx t144 i7_6 4 fun t146 =>
  LdN t146 4 fun t147 =>
  zAr.call t142 t147 fun t148 =>
  Ite (!t148)
   (Q false)
   (Ar (IntKind.wrap .i64 (i7_6 + 1)) fun t141 =>
   X6 t141))
  (Q true)
def zAJ.s5 (Q:Bool→K) (X2:Int→K) (t2_5:Addr) (t134_5:Bool):K :=
 Ite t134_5
  (Q false)
  (LoopK (α:=Int) (fun X x=>zAJ.b6 Q X2 X t2_5 x) 0)
def zAJ.b2 (Q:Bool→K)  (X2:Int→K) (regions1_2:Int) (t2_2:Addr) (keys5_2:Sl) (i6_2:Int):K :=
 Ite (decide (i6_2 < (keys5_2.n:Int)))
  (Dr <|
  Idx keys5_2 i6_2 1 fun t63 =>
  Ld t63 Value.string fun t64 =>
  Ite (decide ((t64.size:Int) < 1))
   (zAJ.s3 Q X2 regions1_2 t2_2 keys5_2 i6_2 true)
   (Idx keys5_2 i6_2 1 fun t70 =>
   Ld t70 Value.string fun t71 =>
   Ite (decide ((16:Int) < (t71.size:Int)))
    (zAJ.s3 Q X2 regions1_2 t2_2 keys5_2 i6_2 true)
    (Ld (t2_2.add 1) Sl.val fun t78 =>
    Ite (decide (i6_2 < (t78.n:Int)))
     (Idx keys5_2 i6_2 1 fun t86 =>
     Ld (t2_2.add 2) Sl.val fun t83 =>
     Ld t86 Value.string fun t87 =>
     zDC.call t83 t87 fun t88 =>
     zAJ.s3 Q X2 regions1_2 t2_2 keys5_2 i6_2 t88)
     (zAJ.s3 Q X2 regions1_2 t2_2 keys5_2 i6_2 false))))
  (Ld t2_2 (Value.int .i64) fun t92 =>
  Ite (decide (t92 = 2))
   (Ld (t2_2.add 1) Sl.val fun t95 =>
   Ite (decide ((t95.n:Int) = 0))
    (Ld (t2_2.add 3) Sl.val fun t100 =>
    Ite (decide ((t100.n:Int) = 0))
     (Ld (t2_2.add 2) Sl.val fun t106 =>
     Ite (decide ((t106.n:Int) = 1))
      (Ld (t2_2.add 4) (Value.int .i64) fun t112 =>
      Ite (decide ((0:Int) ≤ t112))
       (Ld (t2_2.add 4) (Value.int .i64) fun t117 =>
       zAJ.s4 Q X2 (decide (t117 < regions1_2)))
       (zAJ.s4 Q X2 false))
      (zAJ.s4 Q X2 false))
     (zAJ.s4 Q X2 false))
    (zAJ.s4 Q X2 false))
   (Ld t2_2 (Value.int .i64) fun t122 =>
   Ite (decide (t122 ≠ 1))
    (zAJ.s5 Q X2 t2_2 true)
    (Ld (t2_2.add 4) (Value.int .i64) fun t126 =>
    Ite (decide (t126 ≠ 0))
     (zAJ.s5 Q X2 t2_2 true)
     (Ld (t2_2.add 3) Sl.val fun t131 =>
     zAJ.s5 Q X2 t2_2 (decide ((16:Int) < (t131.n:Int)))))))
def zAJ.s1 (Q:Bool→K)  (regions1_1:Int) (t2_1:Addr) (t47_1:Bool):K :=
 Ite t47_1
  (Q false)
  (Dr <| WithS fun S =>
  LdS S (t2_1.add 1) Sl.val fun t50 =>
  LdS S (t2_1.add 2) Sl.val fun t53 =>
  New 9 #[] fun t48 =>
  Sv S <|
  Do Tryz.prog (Builtin.append_ #[22,22] 22 #[(Sl.val (Sl.mk (some t48) 0 0)),(Sl.val t50)]) Sl.val fun t51 =>
  Sv S <|
  Do Tryz.prog (Builtin.append_ #[22,22] 22 #[(Sl.val t51),(Sl.val t53)]) Sl.val fun t54 =>
  LoopK (α:=Int) (fun X x=>zAJ.b2 Q X regions1_1 t2_1 t54 x) 0)
def zAJ (t0:(Array Value)) (regions1:Int) (Q:Bool→K):K :=
 New 25 t0 fun t2 =>
 Ite (decide (regions1 < 1))
  (zAJ.s1 Q regions1 t2 true)
  (Ite (decide ((3:Int) < regions1))
   (zAJ.s1 Q regions1 t2 true)
   (Ld (t2.add 1) Sl.val fun t16 =>
   zCR.call t16 fun t17 =>
   Ite (!t17)
    (zAJ.s1 Q regions1 t2 true)
    (Ld (t2.add 2) Sl.val fun t22 =>
    zCR.call t22 fun t23 =>
    Ite (!t23)
     (zAJ.s1 Q regions1 t2 true)
     (Ld (t2.add 1) Sl.val fun t28 =>
     Ite (decide ((8:Int) < (t28.n:Int)))
      (zAJ.s1 Q regions1 t2 true)
      (Ld (t2.add 2) Sl.val fun t34 =>
      Ite (decide ((8:Int) < (t34.n:Int)))
       (zAJ.s1 Q regions1 t2 true)
       (Ld (t2.add 1) Sl.val fun t40 =>
       Ld (t2.add 2) Sl.val fun t43 =>
       Ar (IntKind.wrap .i64 ((t40.n:Int) + (t43.n:Int))) fun t45 =>
       zAJ.s1 Q regions1 t2 (decide ((8:Int) < t45))))))))
theorem zLT (t0:(Array Value)) (regions1:Int) (Q:Bool→K) (w:World) (h:zAJ t0 regions1 Q w):zAJ.call t0 regions1 Q w:=by
 have hJ8:∀ (X2:Int→K),XH 5 X2→JH 8 fun D=>∃ (regions1_3:Int) (t2_3:Addr) (keys5_3:Sl) (i6_3:Int),D [(1,(.int .i64 regions1_3)),(2,(.pointer (some t2_3))),(5,(Sl.val keys5_3)),(6,(.int .i64 i6_3))] (fun C=>∀ (t90_3:Bool),C [(1,(.int .i64 regions1_3)),(2,(.pointer (some t2_3))),(5,(Sl.val keys5_3)),(6,(.int .i64 i6_3)),(90,(.bool t90_3))] (zAJ.s3 Q X2 regions1_3 t2_3 keys5_3 i6_3 t90_3)):=by intros; exact ⟨fun _ ⟨_,_,_,_,h⟩=>⟨_,_,h⟩⟩
 have hD7:DH 7 1 [27] (.s [0,1,2,3,4,5,6] (.i (.s [7,8,9,10,11,12,13,14,15,16,17,18,19,20,21,22,23,24,25,26,27,28,29] .e) (.s [7,8,9,10,11,12,13,14] (.i (.s [15,16,17,18,19,20,21,22,23,24,25,26,27,28,29] .e) (.s [15,16,17,18,19,20] (.i (.s [21,23,24,25,22,26] (.a [(27,0,.s [28,29] .e)])) (.s [21,22,23,24,25,26,27,28,29] .e))))))):=by intros; exact ⟨⟩
 have hJ1000010:∀ (X2:Int→K),XH 5 X2→JH 1000010 fun D=>D [] (fun C=>∀ (t4_4:Bool),C [(4,(.bool t4_4))] (zAJ.s4 Q X2 t4_4)):=by intros; exact ⟨fun _ h=>⟨_,_,h⟩⟩
 have hD16:DH 16 1 [6] (.s [1,3,0,2,4,5] (.a [(6,0,.s [7] .e)])):=by intros; exact ⟨⟩
 have hL14:∀ (X2:Int→K),XH 5 X2→∀ (t2_6:Addr),LH 14 (fun x:Int=>[(2,(.pointer (some t2_6))),(7,(.int .i64 x))]) (fun X x=>zAJ.b6 Q X2 X t2_6 x):=by intros; exact ⟨⟩
 have hJ12:∀ (X2:Int→K),XH 5 X2→JH 12 fun D=>∃ (t2_5:Addr),D [(2,(.pointer (some t2_5)))] (fun C=>∀ (t134_5:Bool),C [(2,(.pointer (some t2_5))),(134,(.bool t134_5))] (zAJ.s5 Q X2 t2_5 t134_5)):=by intros; exact ⟨fun _ ⟨_,h⟩=>⟨_,_,h⟩⟩
 have hL5:∀ (regions1_2:Int) (t2_2:Addr) (keys5_2:Sl),LH 5 (fun x:Int=>[(1,(.int .i64 regions1_2)),(2,(.pointer (some t2_2))),(5,(Sl.val keys5_2)),(6,(.int .i64 x))]) (fun X x=>zAJ.b2 Q X regions1_2 t2_2 keys5_2 x):=by intros; exact ⟨⟩
 have hD3:DH 3 2 [6] (.s [1,4,2,5] (.a [(0,1,.a [(3,1,.a [(6,0,.s [7] .e)])])])):=by intros; exact ⟨⟩
 have hJ2:JH 2 fun D=>∃ (regions1_1:Int) (t2_1:Addr),D [(1,(.int .i64 regions1_1)),(2,(.pointer (some t2_1)))] (fun C=>∀ (t47_1:Bool),C [(1,(.int .i64 regions1_1)),(2,(.pointer (some t2_1))),(47,(.bool t47_1))] (zAJ.s1 Q regions1_1 t2_1 t47_1)):=by intros; exact ⟨fun _ ⟨_,_,h⟩=>⟨_,_,h⟩⟩
 exact g_walk 150 h Tryz.func10
def zCR.b1 (Q:Bool→K)  (X1:Int→K) (list0_1:Sl) (i3_1:Int):K :=
 Ite (decide (i3_1 < (list0_1.n:Int)))
  (Dr <|
  Ar (IntKind.wrap .i64 (i3_1 - 1)) fun t12 =>
  Idx list0_1 t12 1 fun t13 =>
  Ld t13 Value.string fun t14 =>
  Idx list0_1 i3_1 1 fun t17 =>
  Ld t17 Value.string fun t18 =>
  Ite (!(Op.bytesLess t14.toList t18.toList))
   (Q false)
   (Ar (IntKind.wrap .i64 (i3_1 + 1)) fun t9 =>
   X1 t9))
  (Q true)
def zCR (list0:Sl) (Q:Bool→K):K :=
 LoopK (α:=Int) (fun X x=>zCR.b1 Q X list0 x) 1
theorem zKd (list0:Sl) (Q:Bool→K) (w:World) (h:zCR list0 Q w):zCR.call list0 Q w:=by
 have hL2:∀ (list0_1:Sl),LH 2 (fun x:Int=>[(0,(Sl.val list0_1)),(3,(.int .i64 x))]) (fun X x=>zCR.b1 Q X list0_1 x):=by intros; exact ⟨⟩
 exact g_walk 20 h Tryz.func43
def zDC.b1 (Q:Bool→K)  (X1:Int→K) (list0_1:Sl) (key1_1:ByteArray) (i5_1:Int):K :=
 Ite (decide (i5_1 < (list0_1.n:Int)))
  (Idx list0_1 i5_1 1 fun t14 =>
  Ld t14 Value.string fun t15 =>
  Ite (t15.toList == key1_1.toList)
   (Q true)
   (Ar (IntKind.wrap .i64 (i5_1 + 1)) fun t11 =>
   X1 t11))
  (Q false)
def zDC (list0:Sl) (key1:ByteArray) (Q:Bool→K):K :=
 LoopK (α:=Int) (fun X x=>zDC.b1 Q X list0 key1 x) 0
theorem zOF (list0:Sl) (key1:ByteArray) (Q:Bool→K) (w:World) (h:zDC list0 key1 Q w):zDC.call list0 key1 Q w:=by
 have hL2:∀ (list0_1:Sl) (key1_1:ByteArray),LH 2 (fun x:Int=>[(0,(Sl.val list0_1)),(1,(.string key1_1)),(5,(.int .i64 x))]) (fun X x=>zDC.b1 Q X list0_1 key1_1 x):=by intros; exact ⟨⟩
 exact g_walk 18 h Tryz.func44
def zAr.s2 (Q:Bool→K)  (t4_2:Bool):K :=
 Q t4_2
def zAr.s5 (Q:Bool→K)  (t4_5:Bool):K :=
 Q t4_5
def zAr.s4 (Q:Bool→K)  (o3_4:Addr) (t66_4:Bool):K :=
 Ite t66_4
  (Q false)
  (Ld o3_4 (Value.int .i64) fun t68 =>
  Ite (decide (t68 = 2))
   (zAr.s5 Q true)
   (Ld o3_4 (Value.int .i64) fun t72 =>
   Ite (decide (t72 = 4))
    (zAr.s5 Q true)
    (Ld (o3_4.add 2) Sl.val fun t77 =>
    zAr.s5 Q (decide ((t77.n:Int) = 0)))))
def zAr.s3 (Q:Bool→K)  (o3_3:Addr) (t58_3:Bool):K :=
 Ite t58_3
  (Q false)
  (Ld o3_3 (Value.int .i64) fun t60 =>
  Ite (decide (t60 ≠ 6))
   (Ld (o3_3.add 3) (Value.int .i64) fun t64 =>
   zAr.s4 Q o3_3 (decide (t64 ≠ 0)))
   (zAr.s4 Q o3_3 false))
def zAr.s1 (Q:Bool→K)  (t2_1:Addr) (o3_1:Addr) (t18_1:Bool):K :=
 Ite t18_1
  (Q false)
  (Ld o3_1 (Value.int .i64) fun t20 =>
  Ite (decide (t20 = 7))
   (Ld (o3_1.add 1) Value.string fun t23 =>
   Ite (t23.toList == (⟨#[]⟩:ByteArray).toList)
    (Ld (o3_1.add 3) (Value.int .i64) fun t27 =>
    zAr.s2 Q (decide (t27 = 0)))
    (zAr.s2 Q false))
   (Ld (t2_1.add 2) Sl.val fun t31 =>
   Ld (o3_1.add 1) Value.string fun t33 =>
   zDC.call t31 t33 fun t34 =>
   Ite (!t34)
    (Ld (t2_1.add 1) Sl.val fun t38 =>
    Ld (o3_1.add 1) Value.string fun t40 =>
    zDC.call t38 t40 fun t41 =>
    Ite (!t41)
     (zAr.s3 Q o3_1 true)
     (Ld o3_1 (Value.int .i64) fun t45 =>
     Ite (decide (t45 = 2))
      (zAr.s3 Q o3_1 true)
      (Ld o3_1 (Value.int .i64) fun t50 =>
      Ite (decide (t50 = 3))
       (zAr.s3 Q o3_1 true)
       (Ld o3_1 (Value.int .i64) fun t55 =>
       zAr.s3 Q o3_1 (decide (t55 = 6))))))
    (zAr.s3 Q o3_1 false)))
def zAr (t0:(Array Value)) (o1:(Array Value)) (Q:Bool→K):K :=
 New 25 t0 fun t2 =>
 New 123 o1 fun o3 =>
 Ld (o3.add 2) Sl.val fun t6 =>
 Ite (decide ((32:Int) < (t6.n:Int)))
  (zAr.s1 Q t2 o3 true)
  (Ld o3 (Value.int .i64) fun t11 =>
  Ite (decide (t11 < 1))
   (zAr.s1 Q t2 o3 true)
   (Ld o3 (Value.int .i64) fun t16 =>
   zAr.s1 Q t2 o3 (decide ((7:Int) < t16))))
theorem zOG (t0:(Array Value)) (o1:(Array Value)) (Q:Bool→K) (w:World) (h:zAr t0 o1 Q w):zAr.call t0 o1 Q w:=by
 have hJ1000004:JH 1000004 fun D=>D [] (fun C=>∀ (t4_2:Bool),C [(4,(.bool t4_2))] (zAr.s2 Q t4_2)):=by intros; exact ⟨fun _ h=>⟨_,_,h⟩⟩
 have hJ1000009:JH 1000009 fun D=>D [] (fun C=>∀ (t4_5:Bool),C [(4,(.bool t4_5))] (zAr.s5 Q t4_5)):=by intros; exact ⟨fun _ h=>⟨_,_,h⟩⟩
 have hJ8:JH 8 fun D=>∃ (o3_4:Addr),D [(3,(.pointer (some o3_4)))] (fun C=>∀ (t66_4:Bool),C [(3,(.pointer (some o3_4))),(66,(.bool t66_4))] (zAr.s4 Q o3_4 t66_4)):=by intros; exact ⟨fun _ ⟨_,h⟩=>⟨_,_,h⟩⟩
 have hJ6:JH 6 fun D=>∃ (o3_3:Addr),D [(3,(.pointer (some o3_3)))] (fun C=>∀ (t58_3:Bool),C [(3,(.pointer (some o3_3))),(58,(.bool t58_3))] (zAr.s3 Q o3_3 t58_3)):=by intros; exact ⟨fun _ ⟨_,h⟩=>⟨_,_,h⟩⟩
 have hJ2:JH 2 fun D=>∃ (t2_1:Addr) (o3_1:Addr),D [(2,(.pointer (some t2_1))),(3,(.pointer (some o3_1)))] (fun C=>∀ (t18_1:Bool),C [(2,(.pointer (some t2_1))),(3,(.pointer (some o3_1))),(18,(.bool t18_1))] (zAr.s1 Q t2_1 o3_1 t18_1)):=by intros; exact ⟨fun _ ⟨_,_,h⟩=>⟨_,_,h⟩⟩
 exact g_walk 81 h Tryz.func45
def zBl.s4 (Q:Bool→K) (X2:Int→K) (a2_4:Addr) (b3_4:Addr) (i5_4:Int) (t89_4:Bool):K :=
 Ite t89_4
  (Q false)
  (Ar (IntKind.wrap .i64 (i5_4 + 1)) fun t51 =>
  X2 t51)
def zBl.s3 (Q:Bool→K) (X2:Int→K) (a2_3:Addr) (b3_3:Addr) (i5_3:Int) (x6_3:Addr) (y7_3:Addr):K :=
 Ld x6_3 (Value.int .i64) fun t63 =>
 Ld y7_3 (Value.int .i64) fun t65 =>
 Ite (decide (t63 ≠ t65))
  (zBl.s4 Q X2 a2_3 b3_3 i5_3 true)
  (Ld (x6_3.add 1) Value.string fun t69 =>
  Ld (y7_3.add 1) Value.string fun t71 =>
  Ite (!(t69.toList == t71.toList))
   (zBl.s4 Q X2 a2_3 b3_3 i5_3 true)
   (Ld (x6_3.add 3) (Value.int .i64) fun t76 =>
   Ld (y7_3.add 3) (Value.int .i64) fun t78 =>
   Ite (decide (t76 ≠ t78))
    (zBl.s4 Q X2 a2_3 b3_3 i5_3 true)
    (Ld (x6_3.add 2) Sl.val fun t83 =>
    Rd Tryz.prog (convert 85 9 (Sl.val t83)) Value.string fun t84 =>
    Ld (y7_3.add 2) Sl.val fun t86 =>
    Rd Tryz.prog (convert 85 9 (Sl.val t86)) Value.string fun t87 =>
    zBl.s4 Q X2 a2_3 b3_3 i5_3 (!(t84.toList == t87.toList)))))
def zBl.b2 (Q:Bool→K)  (X2:Int→K) (a2_2:Addr) (b3_2:Addr) (i5_2:Int):K :=
 Ld (a2_2.add 3) Sl.val fun t47 =>
 Ite (decide (i5_2 < (t47.n:Int)))
  (Dr <| WithS fun S =>
  LdS S (a2_2.add 3) Sl.val fun t53 =>
  Idx t53 i5_2 4 fun t55 =>
  LdNS S t55 4 fun t56 =>
  LdS S (b3_2.add 3) Sl.val fun t58 =>
  Idx t58 i5_2 4 fun t60 =>
  LdNS S t60 4 fun t61 =>
  All [
   (New 123 #[(.int .i64 0),(.string ⟨#[]⟩),(Sl.val ⟨none,0,0⟩),(.int .i64 0)] fun x6 =>
   Sv S <|
   New 123 #[(.int .i64 0),(.string ⟨#[]⟩),(Sl.val ⟨none,0,0⟩),(.int .i64 0)] fun y7 =>
   Sv S <|
   StN x6 4 t56 <|
   Sv S <|
   StN y7 4 t61 <|
   zBl.s3 Q X2 a2_2 b3_2 i5_2 x6 y7),
   (New 123 #[(.int .i64 0),(.string ⟨#[]⟩),(Sl.val ⟨none,0,0⟩),(.int .i64 0)] fun y7 =>
   Sv S <|
   New 123 #[(.int .i64 0),(.string ⟨#[]⟩),(Sl.val ⟨none,0,0⟩),(.int .i64 0)] fun x6 =>
   Sv S <|
   StN x6 4 t56 <|
   Sv S <|
   StN y7 4 t61 <|
   zBl.s3 Q X2 a2_2 b3_2 i5_2 x6 y7)
   ])
  (Q true)
def zBl.s1 (Q:Bool→K)  (a2_1:Addr) (b3_1:Addr) (t44_1:Bool):K :=
 Ite t44_1
  (Q false)
  (LoopK (α:=Int) (fun X x=>zBl.b2 Q X a2_1 b3_1 x) 0)
def zBl (a0:(Array Value)) (b1:(Array Value)) (Q:Bool→K):K :=
 New 25 a0 fun a2 =>
 New 25 b1 fun b3 =>
 Ld a2 (Value.int .i64) fun t9 =>
 Ld b3 (Value.int .i64) fun t11 =>
 Ite (decide (t9 ≠ t11))
  (zBl.s1 Q a2 b3 true)
  (Ld (a2.add 4) (Value.int .i64) fun t15 =>
  Ld (b3.add 4) (Value.int .i64) fun t17 =>
  Ite (decide (t15 ≠ t17))
   (zBl.s1 Q a2 b3 true)
   (Ld (a2.add 1) Sl.val fun t22 =>
   Ld (b3.add 1) Sl.val fun t24 =>
   zDk.call t22 t24 fun t25 =>
   Ite (!t25)
    (zBl.s1 Q a2 b3 true)
    (Ld (a2.add 2) Sl.val fun t30 =>
    Ld (b3.add 2) Sl.val fun t32 =>
    zDk.call t30 t32 fun t33 =>
    Ite (!t33)
     (zBl.s1 Q a2 b3 true)
     (Ld (a2.add 3) Sl.val fun t38 =>
     Ld (b3.add 3) Sl.val fun t41 =>
     zBl.s1 Q a2 b3 (decide ((t38.n:Int) ≠ (t41.n:Int)))))))
def zCZ.s2 (Q:Sl→K) (X1:Sl→Int→K) (out3_2:Sl) (all4_2:Sl) (i5_2:Int):K :=
 Ar (IntKind.wrap .i64 (i5_2 + 1)) fun t21 =>
 X1 out3_2 t21
def zCZ.s4 (Q:Sl→K) (X1:Sl→Int→K) (X3:Int→K) (out3_4:Sl) (all4_4:Sl) (i5_4:Int) (k6_4:Int) (t51_4:Bool):K :=
 Ite t51_4
  (Idx out3_4 k6_4 1 fun t56 =>
  Ld t56 Value.string fun t57 =>
  Ar (IntKind.wrap .i64 (k6_4 - 1)) fun t62 =>
  Idx out3_4 t62 1 fun t63 =>
  Ld t63 Value.string fun t64 =>
  Idx out3_4 k6_4 1 fun t65 =>
  St t65 (.string t64) <|
  Ar (IntKind.wrap .i64 (k6_4 - 1)) fun t68 =>
  Idx out3_4 t68 1 fun t70 =>
  St t70 (.string t57) <|
  Ar (IntKind.wrap .i64 (k6_4 - 1)) fun t53 =>
  X3 t53)
  (zCZ.s2 Q X1 out3_4 all4_4 i5_4)
def zCZ.b3 (Q:Sl→K) (X1:Sl→Int→K) (X3:Int→K) (out3_3:Sl) (all4_3:Sl) (i5_3:Int) (k6_3:Int):K :=
 Dr <|
 Ite (decide ((0:Int) < k6_3))
  (Idx out3_3 k6_3 1 fun t43 =>
  Ld t43 Value.string fun t44 =>
  Ar (IntKind.wrap .i64 (k6_3 - 1)) fun t47 =>
  Idx out3_3 t47 1 fun t48 =>
  Ld t48 Value.string fun t49 =>
  zCZ.s4 Q X1 X3 out3_3 all4_3 i5_3 k6_3 (Op.bytesLess t44.toList t49.toList))
  (zCZ.s4 Q X1 X3 out3_3 all4_3 i5_3 k6_3 false)
def zCZ.b1 (Q:Sl→K)  (X1:Sl→Int→K) (all4_1:Sl) (out3_1:Sl) (i5_1:Int):K :=
 Ite (decide (i5_1 < (all4_1.n:Int)))
  (Idx all4_1 i5_1 1 fun t25 =>
  Ld t25 Value.string fun t26 =>
  zDC.call out3_1 t26 fun t27 =>
  Ite t27
   (zCZ.s2 Q X1 out3_1 all4_1 i5_1)
   (Idx all4_1 i5_1 1 fun t31 =>
   Ld t31 Value.string fun t32 =>
   New 9 #[(.string t32)] fun t33 =>
   Do Tryz.prog (Builtin.append_ #[22,22] 22 #[(Sl.val out3_1),(Sl.val (Sl.mk (some t33) 1 1))]) Sl.val fun t34 =>
   Ar (IntKind.wrap .i64 ((t34.n:Int) - 1)) fun t37 =>
   LoopK (α:=Int) (fun X x=>zCZ.b3 Q X1 X t34 all4_1 i5_1 x) t37))
  (Q out3_1)
def zCZ (t0:(Array Value)) (Q:Sl→K):K :=
 New 25 t0 fun t1 =>
 New 9 #[] fun t8 =>
 Dr <| WithS fun S =>
 LdS S (t1.add 1) Sl.val fun t11 =>
 LdS S (t1.add 2) Sl.val fun t14 =>
 New 9 #[] fun t9 =>
 Sv S <|
 Do Tryz.prog (Builtin.append_ #[22,22] 22 #[(Sl.val (Sl.mk (some t9) 0 0)),(Sl.val t11)]) Sl.val fun t12 =>
 Sv S <|
 Do Tryz.prog (Builtin.append_ #[22,22] 22 #[(Sl.val t12),(Sl.val t14)]) Sl.val fun t15 =>
 LoopK (α:=Sl×Int) (fun X x=>zCZ.b1 Q (fun out3_1 i5_1=>X (out3_1,i5_1)) t15 x.1 x.2) ((Sl.mk (some t8) 0 0),0)
def zBg.b2 (Q:(Array Value)→K)  (X2:Int→K) (t1_2:Addr) (t2_2:Addr) (out3_2:Addr) (i4_2:Int):K :=
 Ld (t1_2.add 3) Sl.val fun t21 =>
 Ite (decide (i4_2 < (t21.n:Int)))
  (Ld (t1_2.add 3) Sl.val fun t27 =>
  Idx t27 i4_2 4 fun t29 =>
  LdN t29 4 fun t30 =>
  New 123 #[(.int .i64 0),(.string ⟨#[]⟩),(Sl.val ⟨none,0,0⟩),(.int .i64 0)] fun o5 =>
  StN o5 4 t30 <|
  New 5 #[] fun t31 =>
  Ld (t1_2.add 3) Sl.val fun t33 =>
  Idx t33 i4_2 4 fun t35 =>
  Ld (t35.add 2) Sl.val fun t37 =>
  Do Tryz.prog (Builtin.append_ #[85,85] 85 #[(Sl.val (Sl.mk (some t31) 0 0)),(Sl.val t37)]) Sl.val fun t38 =>
  St (o5.add 2) (Sl.val t38) <|
  Ld (out3_2.add 3) Sl.val fun t41 =>
  LdN o5 4 fun t42 =>
  Bld #[(.int .i64 0),(.string ⟨#[]⟩),(Sl.val ⟨none,0,0⟩),(.int .i64 0)] (fun i=>some (i * 4,4)) [(0,(.agg t42))] fun ct43 =>
  New 123 ct43 fun t43 =>
  Do Tryz.prog (Builtin.append_ #[23,23] 23 #[(Sl.val t41),(Sl.val (Sl.mk (some t43) 1 1))]) Sl.val fun t44 =>
  St (out3_2.add 3) (Sl.val t44) <|
  Ar (IntKind.wrap .i64 (i4_2 + 1)) fun t25 =>
  X2 t25)
  (LdN out3_2 5 fun t46 =>
  StN t2_2 5 t46 <|
  LdN t2_2 5 fun r0 =>
  Q r0)
def zBg.s1 (Q:(Array Value)→K)  (t1_1:Addr) (t2_1:Addr) (out3_1:Addr):K :=
 LoopK (α:=Int) (fun X x=>zBg.b2 Q X t1_1 t2_1 out3_1 x) 0
def zBg (t0:(Array Value)) (Q:(Array Value)→K):K :=
 New 25 t0 fun t1 =>
 New 25 #[(.int .i64 0),(Sl.val ⟨none,0,0⟩),(Sl.val ⟨none,0,0⟩),(Sl.val ⟨none,0,0⟩),(.int .i64 0)] fun t2 =>
 Dr <| WithS fun S =>
 LdS S t1 (Value.int .i64) fun t7 =>
 LdS S (t1.add 4) (Value.int .i64) fun t9 =>
 LdS S (t1.add 1) Sl.val fun t12 =>
 LdS S (t1.add 2) Sl.val fun t16 =>
 All [
  (New 9 #[] fun t10 =>
  Sv S <|
  All [
   (Do Tryz.prog (Builtin.append_ #[22,22] 22 #[(Sl.val (Sl.mk (some t10) 0 0)),(Sl.val t12)]) Sl.val fun t13 =>
   Sv S <|
   All [
    (New 9 #[] fun t14 =>
    Sv S <|
    All [
     (Do Tryz.prog (Builtin.append_ #[22,22] 22 #[(Sl.val (Sl.mk (some t14) 0 0)),(Sl.val t16)]) Sl.val fun t17 =>
     Sv S <|
     New 25 #[(.int .i64 0),(Sl.val ⟨none,0,0⟩),(Sl.val ⟨none,0,0⟩),(Sl.val ⟨none,0,0⟩),(.int .i64 0)] fun out3 =>
     Sv S <|
     StN out3 5 #[(.int .i64 t7),(Sl.val t13),(Sl.val t17),(Sl.val ⟨none,0,0⟩),(.int .i64 t9)] <|
     zBg.s1 Q t1 t2 out3),
     (New 25 #[(.int .i64 0),(Sl.val ⟨none,0,0⟩),(Sl.val ⟨none,0,0⟩),(Sl.val ⟨none,0,0⟩),(.int .i64 0)] fun out3 =>
     Sv S <|
     Do Tryz.prog (Builtin.append_ #[22,22] 22 #[(Sl.val (Sl.mk (some t14) 0 0)),(Sl.val t16)]) Sl.val fun t17 =>
     Sv S <|
     StN out3 5 #[(.int .i64 t7),(Sl.val t13),(Sl.val t17),(Sl.val ⟨none,0,0⟩),(.int .i64 t9)] <|
     zBg.s1 Q t1 t2 out3)
     ]),
    (New 25 #[(.int .i64 0),(Sl.val ⟨none,0,0⟩),(Sl.val ⟨none,0,0⟩),(Sl.val ⟨none,0,0⟩),(.int .i64 0)] fun out3 =>
    Sv S <|
    New 9 #[] fun t14 =>
    Sv S <|
    Do Tryz.prog (Builtin.append_ #[22,22] 22 #[(Sl.val (Sl.mk (some t14) 0 0)),(Sl.val t16)]) Sl.val fun t17 =>
    Sv S <|
    StN out3 5 #[(.int .i64 t7),(Sl.val t13),(Sl.val t17),(Sl.val ⟨none,0,0⟩),(.int .i64 t9)] <|
    zBg.s1 Q t1 t2 out3)
    ]),
   (New 9 #[] fun t14 =>
   Sv S <|
   All [
    (Do Tryz.prog (Builtin.append_ #[22,22] 22 #[(Sl.val (Sl.mk (some t10) 0 0)),(Sl.val t12)]) Sl.val fun t13 =>
    Sv S <|
    All [
     (Do Tryz.prog (Builtin.append_ #[22,22] 22 #[(Sl.val (Sl.mk (some t14) 0 0)),(Sl.val t16)]) Sl.val fun t17 =>
     Sv S <|
     New 25 #[(.int .i64 0),(Sl.val ⟨none,0,0⟩),(Sl.val ⟨none,0,0⟩),(Sl.val ⟨none,0,0⟩),(.int .i64 0)] fun out3 =>
     Sv S <|
     StN out3 5 #[(.int .i64 t7),(Sl.val t13),(Sl.val t17),(Sl.val ⟨none,0,0⟩),(.int .i64 t9)] <|
     zBg.s1 Q t1 t2 out3),
     (New 25 #[(.int .i64 0),(Sl.val ⟨none,0,0⟩),(Sl.val ⟨none,0,0⟩),(Sl.val ⟨none,0,0⟩),(.int .i64 0)] fun out3 =>
     Sv S <|
     Do Tryz.prog (Builtin.append_ #[22,22] 22 #[(Sl.val (Sl.mk (some t14) 0 0)),(Sl.val t16)]) Sl.val fun t17 =>
     Sv S <|
     StN out3 5 #[(.int .i64 t7),(Sl.val t13),(Sl.val t17),(Sl.val ⟨none,0,0⟩),(.int .i64 t9)] <|
     zBg.s1 Q t1 t2 out3)
     ]),
    (New 25 #[(.int .i64 0),(Sl.val ⟨none,0,0⟩),(Sl.val ⟨none,0,0⟩),(Sl.val ⟨none,0,0⟩),(.int .i64 0)] fun out3 =>
    Sv S <|
    Do Tryz.prog (Builtin.append_ #[22,22] 22 #[(Sl.val (Sl.mk (some t10) 0 0)),(Sl.val t12)]) Sl.val fun t13 =>
    Sv S <|
    Do Tryz.prog (Builtin.append_ #[22,22] 22 #[(Sl.val (Sl.mk (some t14) 0 0)),(Sl.val t16)]) Sl.val fun t17 =>
    Sv S <|
    StN out3 5 #[(.int .i64 t7),(Sl.val t13),(Sl.val t17),(Sl.val ⟨none,0,0⟩),(.int .i64 t9)] <|
    zBg.s1 Q t1 t2 out3)
    ]),
   (New 25 #[(.int .i64 0),(Sl.val ⟨none,0,0⟩),(Sl.val ⟨none,0,0⟩),(Sl.val ⟨none,0,0⟩),(.int .i64 0)] fun out3 =>
   Sv S <|
   All [
    (Do Tryz.prog (Builtin.append_ #[22,22] 22 #[(Sl.val (Sl.mk (some t10) 0 0)),(Sl.val t12)]) Sl.val fun t13 =>
    Sv S <|
    New 9 #[] fun t14 =>
    Sv S <|
    Do Tryz.prog (Builtin.append_ #[22,22] 22 #[(Sl.val (Sl.mk (some t14) 0 0)),(Sl.val t16)]) Sl.val fun t17 =>
    Sv S <|
    StN out3 5 #[(.int .i64 t7),(Sl.val t13),(Sl.val t17),(Sl.val ⟨none,0,0⟩),(.int .i64 t9)] <|
    zBg.s1 Q t1 t2 out3),
    (New 9 #[] fun t14 =>
    Sv S <|
    Do Tryz.prog (Builtin.append_ #[22,22] 22 #[(Sl.val (Sl.mk (some t10) 0 0)),(Sl.val t12)]) Sl.val fun t13 =>
    Sv S <|
    Do Tryz.prog (Builtin.append_ #[22,22] 22 #[(Sl.val (Sl.mk (some t14) 0 0)),(Sl.val t16)]) Sl.val fun t17 =>
    Sv S <|
    StN out3 5 #[(.int .i64 t7),(Sl.val t13),(Sl.val t17),(Sl.val ⟨none,0,0⟩),(.int .i64 t9)] <|
    zBg.s1 Q t1 t2 out3)
    ])
   ]),
  (New 9 #[] fun t14 =>
  Sv S <|
  All [
   (New 9 #[] fun t10 =>
   Sv S <|
   All [
    (Do Tryz.prog (Builtin.append_ #[22,22] 22 #[(Sl.val (Sl.mk (some t10) 0 0)),(Sl.val t12)]) Sl.val fun t13 =>
    Sv S <|
    All [
     (Do Tryz.prog (Builtin.append_ #[22,22] 22 #[(Sl.val (Sl.mk (some t14) 0 0)),(Sl.val t16)]) Sl.val fun t17 =>
     Sv S <|
     New 25 #[(.int .i64 0),(Sl.val ⟨none,0,0⟩),(Sl.val ⟨none,0,0⟩),(Sl.val ⟨none,0,0⟩),(.int .i64 0)] fun out3 =>
     Sv S <|
     StN out3 5 #[(.int .i64 t7),(Sl.val t13),(Sl.val t17),(Sl.val ⟨none,0,0⟩),(.int .i64 t9)] <|
     zBg.s1 Q t1 t2 out3),
     (New 25 #[(.int .i64 0),(Sl.val ⟨none,0,0⟩),(Sl.val ⟨none,0,0⟩),(Sl.val ⟨none,0,0⟩),(.int .i64 0)] fun out3 =>
     Sv S <|
     Do Tryz.prog (Builtin.append_ #[22,22] 22 #[(Sl.val (Sl.mk (some t14) 0 0)),(Sl.val t16)]) Sl.val fun t17 =>
     Sv S <|
     StN out3 5 #[(.int .i64 t7),(Sl.val t13),(Sl.val t17),(Sl.val ⟨none,0,0⟩),(.int .i64 t9)] <|
     zBg.s1 Q t1 t2 out3)
     ]),
    (New 25 #[(.int .i64 0),(Sl.val ⟨none,0,0⟩),(Sl.val ⟨none,0,0⟩),(Sl.val ⟨none,0,0⟩),(.int .i64 0)] fun out3 =>
    Sv S <|
    Do Tryz.prog (Builtin.append_ #[22,22] 22 #[(Sl.val (Sl.mk (some t10) 0 0)),(Sl.val t12)]) Sl.val fun t13 =>
    Sv S <|
    Do Tryz.prog (Builtin.append_ #[22,22] 22 #[(Sl.val (Sl.mk (some t14) 0 0)),(Sl.val t16)]) Sl.val fun t17 =>
    Sv S <|
    StN out3 5 #[(.int .i64 t7),(Sl.val t13),(Sl.val t17),(Sl.val ⟨none,0,0⟩),(.int .i64 t9)] <|
    zBg.s1 Q t1 t2 out3)
    ]),
   (New 25 #[(.int .i64 0),(Sl.val ⟨none,0,0⟩),(Sl.val ⟨none,0,0⟩),(Sl.val ⟨none,0,0⟩),(.int .i64 0)] fun out3 =>
   Sv S <|
   New 9 #[] fun t10 =>
   Sv S <|
   Do Tryz.prog (Builtin.append_ #[22,22] 22 #[(Sl.val (Sl.mk (some t10) 0 0)),(Sl.val t12)]) Sl.val fun t13 =>
   Sv S <|
   Do Tryz.prog (Builtin.append_ #[22,22] 22 #[(Sl.val (Sl.mk (some t14) 0 0)),(Sl.val t16)]) Sl.val fun t17 =>
   Sv S <|
   StN out3 5 #[(.int .i64 t7),(Sl.val t13),(Sl.val t17),(Sl.val ⟨none,0,0⟩),(.int .i64 t9)] <|
   zBg.s1 Q t1 t2 out3)
   ]),
  (New 25 #[(.int .i64 0),(Sl.val ⟨none,0,0⟩),(Sl.val ⟨none,0,0⟩),(Sl.val ⟨none,0,0⟩),(.int .i64 0)] fun out3 =>
  Sv S <|
  All [
   (New 9 #[] fun t10 =>
   Sv S <|
   All [
    (Do Tryz.prog (Builtin.append_ #[22,22] 22 #[(Sl.val (Sl.mk (some t10) 0 0)),(Sl.val t12)]) Sl.val fun t13 =>
    Sv S <|
    New 9 #[] fun t14 =>
    Sv S <|
    Do Tryz.prog (Builtin.append_ #[22,22] 22 #[(Sl.val (Sl.mk (some t14) 0 0)),(Sl.val t16)]) Sl.val fun t17 =>
    Sv S <|
    StN out3 5 #[(.int .i64 t7),(Sl.val t13),(Sl.val t17),(Sl.val ⟨none,0,0⟩),(.int .i64 t9)] <|
    zBg.s1 Q t1 t2 out3),
    (New 9 #[] fun t14 =>
    Sv S <|
    Do Tryz.prog (Builtin.append_ #[22,22] 22 #[(Sl.val (Sl.mk (some t10) 0 0)),(Sl.val t12)]) Sl.val fun t13 =>
    Sv S <|
    Do Tryz.prog (Builtin.append_ #[22,22] 22 #[(Sl.val (Sl.mk (some t14) 0 0)),(Sl.val t16)]) Sl.val fun t17 =>
    Sv S <|
    StN out3 5 #[(.int .i64 t7),(Sl.val t13),(Sl.val t17),(Sl.val ⟨none,0,0⟩),(.int .i64 t9)] <|
    zBg.s1 Q t1 t2 out3)
    ]),
   (New 9 #[] fun t14 =>
   Sv S <|
   New 9 #[] fun t10 =>
   Sv S <|
   Do Tryz.prog (Builtin.append_ #[22,22] 22 #[(Sl.val (Sl.mk (some t10) 0 0)),(Sl.val t12)]) Sl.val fun t13 =>
   Sv S <|
   Do Tryz.prog (Builtin.append_ #[22,22] 22 #[(Sl.val (Sl.mk (some t14) 0 0)),(Sl.val t16)]) Sl.val fun t17 =>
   Sv S <|
   StN out3 5 #[(.int .i64 t7),(Sl.val t13),(Sl.val t17),(Sl.val ⟨none,0,0⟩),(.int .i64 t9)] <|
   zBg.s1 Q t1 t2 out3)
   ])
  ]
def zDk.b1 (Q:Bool→K)  (X1:Int→K) (a0_1:Sl) (b1_1:Sl) (i5_1:Int):K :=
 Ite (decide (i5_1 < (a0_1.n:Int)))
  (Dr <|
  Idx a0_1 i5_1 1 fun t19 =>
  Ld t19 Value.string fun t20 =>
  Idx b1_1 i5_1 1 fun t23 =>
  Ld t23 Value.string fun t24 =>
  Ite (!(t20.toList == t24.toList))
   (Q false)
   (Ar (IntKind.wrap .i64 (i5_1 + 1)) fun t16 =>
   X1 t16))
  (Q true)
def zDk (a0:Sl) (b1:Sl) (Q:Bool→K):K :=
 Ite (decide ((a0.n:Int) ≠ (b1.n:Int)))
  (Q false)
  (LoopK (α:=Int) (fun X x=>zDk.b1 Q X a0 b1 x) 0)
end Go.Proofs.YtdemfamgieonbaaGreat
namespace Go.Proofs.YtdemfamgieonbaaGreat
open Go Go.Sep
set_option maxRecDepth 100000
def keysT (L:List TX):List TX:=cmpct (sortL L)
theorem zOH (L:List TX):(keysT L).Pairwise (· < ·):=zJb _ (zR1 L)
theorem zIf {L:List TX} {x:TX}:x ∈ keysT L ↔ x ∈ L:=by unfold keysT; rw [zFt,zQL]
theorem zGd (L:List TX):(keysT L).length ≤ L.length:=by
 have:=zFs (sortL L)
 rwa [zLy] at this
section
variable {B:World} {Γ Δ:List HProp} {k:K}
theorem zLU {s:Sl} {L:List TX} {key:TX} {Q:Bool→K} (hL:L.length < 1000000000) (hr:∀ w,Holds B Γ w→RdC w s 1 (L.map strV)) (h:HG B Γ (Q (decide (key ∈ L)))):HG B Γ (zDC.call s (bs key) Q):=fun w hw=>by
 refine zOF _ _ _ _ ?_
 have hn:s.n = L.length:=by have:=(hr w hw).len; simpa using this.symm
 refine Sep.hg hw ?_
 clear hw w
 unfold zDC
 refine zDA (α:=Int) (fun x=>∃ i:Nat,x = (i:Int)∧i ≤ L.length∧key ∉ L.take i) (fun x=>L.length - x.toNat) ⟨0,rfl,Nat.zero_le _,by simp⟩ fun k' x hx hk'=>?_
 obtain ⟨i,rfl,hi,hno⟩:=hx
 unfold zDC.b1
 refine s_ite (fun hb=>?_) fun hb=>?_
 ·have hil:i < L.length:=by simp only [decide_eq_true_eq] at hb; omega
  have hge:L[i]? = some L[i]:=List.getElem?_eq_getElem hil
  have hmem:L[i] ∈ L:=List.getElem_mem hil
  have htk:L.take (i + 1) = L.take i++[L[i]]:=List.take_succ_eq_append_getElem hil
  generalize L[i] = x at hge hmem htk
  refine s_idxS hr hge ?_
  rw [zBp,zBp]
  refine s_ite (fun he=>?_) fun he=>?_
  ·have he':x = key:=by simpa using he
   rw [show decide (key ∈ L) = true by rw [← he']; simpa using hmem] at h
   exact h
  ·have he':¬ x = key:=by simpa using he
   refine s_ai ?_
   refine hk' _ ⟨i + 1,by simp,hil,?_⟩ (by omega)
   rw [htk]
   simp only [List.mem_append,List.mem_singleton,not_or]
   exact ⟨hno,fun e=>he' e.symm⟩
 ·have hil:i = L.length:=by simp only [decide_eq_false_iff_not] at hb; omega
  rw [hil,List.take_length] at hno
  rw [show decide (key ∈ L) = false by simpa using hno] at h
  exact h
end
end Go.Proofs.YtdemfamgieonbaaGreat
namespace Go.Proofs.YtdemfamgieonbaaGreat
open Go Go.Sep
set_option maxRecDepth 100000
abbrev GreatP (t:TxX):Prop:=40 < t.reads.length∨40 < t.writes.length∨60 < t.ops.length∨(∃ k ∈ t.reads,200 < k.length)∨(∃ k ∈ t.writes,200 < k.length)∨∃ x ∈ t.ops,200 < x.1.key.length∨200 < x.1.val.length
abbrev SameP (a b:TxX):Prop:=a.kind = b.kind∧a.to = b.to∧a.reads = b.reads∧a.writes = b.writes∧a.ops.map Prod.fst = b.ops.map Prod.fst
section
variable {B:World} {Γ Γ0 Δ:List HProp} {k:K}
theorem zLV {α β:Type} (f:α→List Value) {esz off:Nat} {L:List α} {s:Sl} {j:Nat} {jj:Int} {x:α} {c:β→Value} {v:β} {k:β→K} (hf:∀ x,(f x).length = esz) (hr:∀ w,Holds B Γ w→RdC w s esz (L.flatMap f)) (hx:L[j]? = some x) (hv:(f x)[off]? = some (c v)) (h:HG B Γ (k v)) (hj:jj = (j:Int):=by first | rfl | omega) :
  HG B Γ (Idx s jj esz fun t=>Ld (t.add off) c k):=fun w hw=>by
 subst hj
 have hrw:=hr w hw
 have hj:j < L.length:=(List.getElem?_eq_some_iff.1 hx).1
 have ho:off < esz:=by rw [← hf x]; exact (List.getElem?_eq_some_iff.1 hv).1
 have hn:L.length = s.n:=by
  have:=hrw.len; rw [zAT f esz hf] at this
  exact Nat.eq_of_mul_eq_mul_right (by omega) this
 cases ha:s.a with
 | none=>have:=hrw.nil ha; omega
 | some a =>
  refine ⟨a,_,ha,by omega,by omega,rfl,v,?_,h w hw⟩
  simp only [Int.toNat_natCast]
  have h2:=zKz f esz hf hrw ha hx off (by simpa [hf] using ho)
  rw [h2]
  simpa using hv
theorem zJH {w:World} {t:TxX} (h:txRd w t):t.rs.n = t.reads.length∧t.ws.n = t.writes.length∧t.os.n = t.ops.length :=
 ⟨by have:=h.1.len; simpa using this.symm,by have:=h.2.1.len; simpa using this.symm,rd_len zDF (by omega) h.2.2.1⟩
theorem zPj {t:TxX} {Q:Bool→K} (hr:∀ w,Holds B Γ w→txRd w t) (h:HG B Γ (Q (decide (GreatP t)))):HG B Γ (zAj.call (txL t).toArray Q):=fun w hw=>by
 refine zLS _ _ _ ?_
 obtain ⟨n1,n2,n3⟩:=zJH (hr w hw)
 refine Sep.hg hw ?_
 clear hw w
 unfold zAj
 refine s_new fun t1=>?_
 have yes:GreatP t→HG B (blk t1 (.cells (txL t).toArray zAp (0,0))::Γ) (Q true):=fun hg=>by
  rw [show decide (GreatP t) = true from decide_eq_true hg] at h
  exact s_end h
 repeat refine s_nx ?_
 refine s_ite (fun hb=>?_) fun hb=>?_
 ·unfold zAj.s1
  exact s_t (yes (.inl (by simp only [decide_eq_true_eq] at hb; omega)))
 repeat refine s_nx ?_
 refine s_ite (fun hb2=>?_) fun hb2=>?_
 ·unfold zAj.s1
  exact s_t (yes (.inr (.inl (by simp only [decide_eq_true_eq] at hb2; omega))))
 repeat refine s_nx ?_
 by_cases hb3:60 < t.os.n
 ·rw [show decide ((60:Int) < (t.os.n:Int)) = true by simp; omega]
  unfold zAj.s1
  exact s_t (yes (.inr (.inr (.inl (by omega)))))
 rw [show decide ((60:Int) < (t.os.n:Int)) = false by simp; omega]
 simp only [decide_eq_false_iff_not] at hb hb2
 unfold zAj.s1
 repeat refine s_nx ?_
 refine zDA (α:=Int) (fun x=>∃ i:Nat,x = (i:Int)∧i ≤ t.reads.length∧∀ k ∈ t.reads.take i,k.length ≤ 200) (fun x=>t.reads.length - x.toNat) ⟨0,rfl,Nat.zero_le _,by simp⟩ fun k1 x hx hk1=>?_
 obtain ⟨i,rfl,hi,hs1⟩:=hx
 unfold zAj.b2
 repeat refine s_nx ?_
 refine s_ite (fun hc=>?_) fun hc=>?_
 ·have hil:i < t.reads.length:=by simp only [decide_eq_true_eq] at hc; omega
  have hge:t.reads[i]? = some t.reads[i]:=List.getElem?_eq_getElem hil
  have hmem:t.reads[i] ∈ t.reads:=List.getElem_mem hil
  have htk:t.reads.take (i + 1) = t.reads.take i++[t.reads[i]]:=List.take_succ_eq_append_getElem hil
  generalize t.reads[i] = x at hge hmem htk
  repeat refine s_nx ?_
  refine s_idxS (L:=t.reads) (fun w hw=>(hr w hw.tail).1) hge ?_
  have hsz:(bs x).size = x.length:=rfl
  refine s_ite (fun hd=>?_) fun hd=>?_
  ·exact yes (.inr (.inr (.inr (.inl ⟨x,hmem,by simp only [decide_eq_true_eq] at hd; omega⟩))))
  ·refine s_ai ?_
   refine hk1 _ ⟨i + 1,by simp,hil,fun y hy=>?_⟩ (by omega)
   rw [htk] at hy
   rcases List.mem_append.1 hy with hy | hy
   ·exact hs1 y hy
   ·rw [List.mem_singleton.1 hy]; simp only [decide_eq_false_iff_not] at hd; omega
 have hil:i = t.reads.length:=by simp only [decide_eq_false_iff_not] at hc; omega
 rw [hil,List.take_length] at hs1
 refine zDA (α:=Int) (fun x=>∃ i:Nat,x = (i:Int)∧i ≤ t.writes.length∧∀ k ∈ t.writes.take i,k.length ≤ 200) (fun x=>t.writes.length - x.toNat) ⟨0,rfl,Nat.zero_le _,by simp⟩ fun k2 x hx hk2=>?_
 obtain ⟨j,rfl,hj,hs2⟩:=hx
 unfold zAj.b3
 repeat refine s_nx ?_
 refine s_ite (fun hc2=>?_) fun hc2=>?_
 ·have hil:j < t.writes.length:=by simp only [decide_eq_true_eq] at hc2; omega
  have hge:t.writes[j]? = some t.writes[j]:=List.getElem?_eq_getElem hil
  have hmem:t.writes[j] ∈ t.writes:=List.getElem_mem hil
  have htk:t.writes.take (j + 1) = t.writes.take j++[t.writes[j]]:=List.take_succ_eq_append_getElem hil
  generalize t.writes[j] = x at hge hmem htk
  repeat refine s_nx ?_
  refine s_idxS (L:=t.writes) (fun w hw=>(hr w hw.tail).2.1) hge ?_
  have hsz:(bs x).size = x.length:=rfl
  refine s_ite (fun hd=>?_) fun hd=>?_
  ·exact yes (.inr (.inr (.inr (.inr (.inl ⟨x,hmem,by simp only [decide_eq_true_eq] at hd; omega⟩)))))
  ·refine s_ai ?_
   refine hk2 _ ⟨j + 1,by simp,hil,fun y hy=>?_⟩ (by omega)
   rw [htk] at hy
   rcases List.mem_append.1 hy with hy | hy
   ·exact hs2 y hy
   ·rw [List.mem_singleton.1 hy]; simp only [decide_eq_false_iff_not] at hd; omega
 have hjl:j = t.writes.length:=by simp only [decide_eq_false_iff_not] at hc2; omega
 rw [hjl,List.take_length] at hs2
 refine zDA (α:=Int) (fun x=>∃ i:Nat,x = (i:Int)∧i ≤ t.ops.length∧∀ y ∈ t.ops.take i,y.1.key.length ≤ 200∧y.1.val.length ≤ 200) (fun x=>t.ops.length - x.toNat) ⟨0,rfl,Nat.zero_le _,by simp⟩ fun k3 x hx hk3=>?_
 obtain ⟨m,rfl,hm,hs3⟩:=hx
 unfold zAj.b4
 repeat refine s_nx ?_
 refine s_ite (fun hc3=>?_) fun hc3=>?_
 ·have hil:m < t.ops.length:=by simp only [decide_eq_true_eq] at hc3; omega
  have hge:t.ops[m]? = some t.ops[m]:=List.getElem?_eq_getElem hil
  have hmem:t.ops[m] ∈ t.ops:=List.getElem_mem hil
  have htk:t.ops.take (m + 1) = t.ops.take m++[t.ops[m]]:=List.take_succ_eq_append_getElem hil
  generalize t.ops[m] = x at hge hmem htk
  repeat refine s_nx ?_
  refine zLV opF (off:=1) (c:=Value.string) (x:=x) (v:=bs x.1.key) zDF (fun w hw=>(hr w hw.tail).2.2.1) hge rfl ?_
  have hsz:(bs x.1.key).size = x.1.key.length:=rfl
  unfold zAj.s5
  refine s_ite (fun hd=>?_) fun hd=>?_
  ·refine s_t ?_
   exact yes (.inr (.inr (.inr (.inr (.inr ⟨x,hmem,.inl (by simp only [decide_eq_true_eq] at hd; omega)⟩)))))
  ·repeat refine s_nx ?_
   refine fun w hw=>?_
   have hxl:x.2.n = x.1.val.length:=by have:=((hr w hw.tail).2.2.2 x hmem).len; simpa using this.symm
   refine Sep.hg hw ?_
   clear hw w
   refine zLV opF (off:=2) (c:=Sl.val) (x:=x) (v:=x.2) zDF (fun w hw=>(hr w hw.tail).2.2.1) hge rfl ?_
   refine s_ite (fun he=>?_) fun he=>?_
   ·exact yes (.inr (.inr (.inr (.inr (.inr ⟨x,hmem,.inr (by simp only [decide_eq_true_eq] at he; omega)⟩)))))
   ·refine s_ai ?_
    refine hk3 _ ⟨m + 1,by simp,hil,fun y hy=>?_⟩ (by omega)
    rw [htk] at hy
    rcases List.mem_append.1 hy with hy | hy
    ·exact hs3 y hy
    ·rw [List.mem_singleton.1 hy]; simp only [decide_eq_false_iff_not] at hd he; omega
 ·have hml:m = t.ops.length:=by simp only [decide_eq_false_iff_not] at hc3; omega
  rw [hml,List.take_length] at hs3
  rw [show decide (GreatP t) = false by
   simp only [decide_eq_false_iff_not]
   rintro (g | g | g | ⟨k,hk,g⟩ | ⟨k,hk,g⟩ | ⟨x,hx,g⟩)
   ·omega
   ·omega
   ·omega
   ·have:=hs1 k hk; omega
   ·have:=hs2 k hk; omega
   ·have:=hs3 x hx; omega] at h
  exact s_end h
end
end Go.Proofs.YtdemfamgieonbaaGreat
namespace Go.Proofs.YtdemfamgieonbaaGreat
open Go Go.Sep
set_option maxRecDepth 100000
set_option maxHeartbeats 4000000
attribute [local irreducible] G Gp Cx Tx Ex Sx Dx Ox Ax Lx Rx Fx Bx Bj Al Do Ld LdN St StN New CallF Ar DoU Rd Rd2 Pu Cd Ite Fv CallV CallY Ans0 Ans1 Ans2 Ans3 Ans4 Ans5 Ext Dead Dr WithS Sv LdS LdNS RdS Rd2S Nn Idx IdxA IdxS Fld Bld Slc SlcS Cat All LoopK RangeF RangeJ TakeD
namespace F_IRRef06
instance at_173:AT Tryz.prog 173 5:=⟨by kernel_rfl⟩
instance at_87:AT Tryz.prog 87 4:=⟨by kernel_rfl⟩
instance cb_29:CB Tryz.prog 29:=⟨by kernel_rfl⟩
instance cb_70:CB Tryz.prog 70:=⟨by kernel_rfl⟩
instance cb_74:CB Tryz.prog 74:=⟨by kernel_rfl⟩
instance cb_75:CB Tryz.prog 75:=⟨by kernel_rfl⟩
instance ct_3:CT Tryz.prog 3:=⟨by kernel_rfl⟩
instance ct_33:CT Tryz.prog 33:=⟨by kernel_rfl⟩
instance ct_4:CT Tryz.prog 4:=⟨by kernel_rfl⟩
instance ct_56:CT Tryz.prog 56:=⟨by kernel_rfl⟩
instance ct_85:CT Tryz.prog 85:=⟨by kernel_rfl⟩
instance ct_9:CT Tryz.prog 9:=⟨by kernel_rfl⟩
instance zNd:FT Tryz.prog 173 0 0 1:=⟨by kernel_rfl⟩
instance zNe:FT Tryz.prog 173 1 1 4:=⟨by kernel_rfl⟩
instance zLB:FT Tryz.prog 87 0 0 1:=⟨by kernel_rfl⟩
instance zLC:FT Tryz.prog 87 1 1 1:=⟨by kernel_rfl⟩
instance zLD:FT Tryz.prog 87 2 2 1:=⟨by kernel_rfl⟩
instance zLE:FT Tryz.prog 87 3 3 1:=⟨by kernel_rfl⟩
instance zUr:FT Tryz.prog 95 0 0 1:=⟨by kernel_rfl⟩
instance zUs:FT Tryz.prog 95 1 1 1:=⟨by kernel_rfl⟩
instance in_3:INT Tryz.prog 3 .i64:=⟨by kernel_rfl⟩
instance in_33:INT Tryz.prog 33 .u64:=⟨by kernel_rfl⟩
instance in_5:INT Tryz.prog 5 .u8:=⟨by kernel_rfl⟩
instance mx:MX Tryz.prog:=⟨mixed⟩
instance pl_173:PLT Tryz.prog 173 [(0,1),(1,4)]:=⟨_,Tryz.underlying173,by kernel_rfl⟩
instance pl_87:PLT Tryz.prog 87 [(0,1),(1,1),(2,1),(3,1)]:=⟨_,Tryz.underlying87,by kernel_rfl⟩
instance pl_95:PLT Tryz.prog 95 [(0,1),(1,1)]:=⟨_,Tryz.underlying95,by kernel_rfl⟩
instance sl_56:SLT Tryz.prog 56 173 5:=⟨by kernel_rfl⟩
instance sl_85:SLT Tryz.prog 85 5 1:=⟨by kernel_rfl⟩
instance st_9:STT Tryz.prog 9:=⟨by kernel_rfl⟩
instance sz_3:SZ Tryz.prog 3 1:=⟨by kernel_rfl⟩
instance sz_33:SZ Tryz.prog 33 1:=⟨by kernel_rfl⟩
instance sz_56:SZ Tryz.prog 56 1:=⟨by kernel_rfl⟩
instance sz_87:SZ Tryz.prog 87 4:=⟨by kernel_rfl⟩
instance un_4:UN Tryz.prog 4 .bool:=⟨Tryz.underlying4⟩
instance zt_173:ZT Tryz.prog 173 (.agg #[(.string ⟨#[]⟩),(.bool false),(Sl.val ⟨none,0,0⟩),(.int .i64 0),(.int .u64 0)]):=⟨Tryz.t173,by kernel_rfl,by kernel_rfl⟩
instance zt_5:ZT Tryz.prog 5 (.int .u8 0):=⟨Tryz.t5,by kernel_rfl,by kernel_rfl⟩
instance zt_87:ZT Tryz.prog 87 (.agg #[(.bool false),(Sl.val ⟨none,0,0⟩),(.int .i64 0),(.int .u64 0)]):=⟨Tryz.t87,by kernel_rfl,by kernel_rfl⟩
instance zt_95:ZT Tryz.prog 95 (.agg #[(.int .i64 0),(Sl.val ⟨none,0,0⟩)]):=⟨Tryz.t95,by kernel_rfl,by kernel_rfl⟩
end F_IRRef06
def zP7 (regions0:Int) (Q:(Option Addr)→K):K :=
 New 95 #[(.int .i64 regions0),(Sl.val ⟨none,0,0⟩)] fun t5 =>
 Q (some t5)
def zB9.b1 (Q:(Array Value)→K)  (X1:Int→K) (s0_1:(Option Addr)) (key1_1:ByteArray) (t4_1:Addr) (i5_1:Int):K :=
 Nn s0_1 fun t8 =>
 Ld (t8.add 1) Sl.val fun t10 =>
 Ite (decide (i5_1 < (t10.n:Int)))
  (Ld (t8.add 1) Sl.val fun t18 =>
  Idx t18 i5_1 5 fun t20 =>
  Ld t20 Value.string fun t22 =>
  Ite (t22.toList == key1_1.toList)
   (Ld (t8.add 1) Sl.val fun t28 =>
   Idx t28 i5_1 5 fun t30 =>
   LdN (t30.add 1) 4 fun t32 =>
   StN t4_1 4 t32 <|
   LdN t4_1 4 fun r0 =>
   Q r0)
   (Ar (IntKind.wrap .i64 (i5_1 + 1)) fun t14 =>
   X1 t14))
  (Ld t8 (Value.int .i64) fun t37 =>
  zEr.call key1_1 t37 fun t38 =>
  StN t4_1 4 #[(.bool false),(Sl.val ⟨none,0,0⟩),(.int .i64 t38),(.int .u64 0)] <|
  LdN t4_1 4 fun r0 =>
  Q r0)
def zB9 (s0:(Option Addr)) (key1:ByteArray) (Q:(Array Value)→K):K :=
 New 87 #[(.bool false),(Sl.val ⟨none,0,0⟩),(.int .i64 0),(.int .u64 0)] fun t4 =>
 LoopK (α:=Int) (fun X x=>zB9.b1 Q X s0 key1 t4 x) 0
def zEZ.s2 (Q:Bool→K) (X1:Int→K) (a0_2:Sl) (b1_2:Sl) (i5_2:Int) (t41_2:Bool):K :=
 Ite t41_2
  (Q false)
  (Ar (IntKind.wrap .i64 (i5_2 + 1)) fun t16 =>
  X1 t16)
def zEZ.b1 (Q:Bool→K)  (X1:Int→K) (a0_1:Sl) (b1_1:Sl) (i5_1:Int):K :=
 Ite (decide (i5_1 < (a0_1.n:Int)))
  (Dr <|
  Idx a0_1 i5_1 5 fun t19 =>
  Idx b1_1 i5_1 5 fun t24 =>
  Ld t19 Value.string fun t21 =>
  Ld t24 Value.string fun t26 =>
  Ite (!(t21.toList == t26.toList))
   (zEZ.s2 Q X1 a0_1 b1_1 i5_1 true)
   (Idx a0_1 i5_1 5 fun t31 =>
   Idx b1_1 i5_1 5 fun t36 =>
   LdN (t31.add 1) 4 fun t33 =>
   LdN (t36.add 1) 4 fun t38 =>
   zCn.call t33 t38 fun t39 =>
   zEZ.s2 Q X1 a0_1 b1_1 i5_1 (!t39)))
  (Q true)
def zEZ (a0:Sl) (b1:Sl) (Q:Bool→K):K :=
 Ite (decide ((a0.n:Int) ≠ (b1.n:Int)))
  (Q false)
  (LoopK (α:=Int) (fun X x=>zEZ.b1 Q X a0 b1 x) 0)
def zEr.b1 (Q:Int→K)  (X1:Int→Int→K) (key0_1:ByteArray) (regions1_1:Int) (sum5_1:Int) (i6_1:Int):K :=
 Ite (decide (i6_1 < (key0_1.size:Int)))
  (IdxS key0_1 i6_1 fun t18 =>
  Ar (IntKind.wrap .u64 t18) fun t19 =>
  Ar (IntKind.wrap .u64 (sum5_1 + t19)) fun t20 =>
  Ar (IntKind.wrap .i64 (i6_1 + 1)) fun t14 =>
  X1 t20 t14)
  (Ar (IntKind.wrap .u64 regions1_1) fun t23 =>
  Cd (t23 ≠ 0) <|
  Ar (Int.tmod sum5_1 t23) fun t24 =>
  Ar (IntKind.wrap .i64 t24) fun t25 =>
  Q t25)
def zEr (key0:ByteArray) (regions1:Int) (Q:Int→K):K :=
 Ite (decide (regions1 < 1))
  (Q 0)
  (LoopK (α:=Int×Int) (fun X x=>zEr.b1 Q (fun sum5_1 i6_1=>X (sum5_1,i6_1)) key0 regions1 x.1 x.2) (0,0))
def zGG (s0:(Option Addr)) (Q:(Option Addr)→K):K :=
 Dr <| WithS fun S =>
 Nn s0 fun t4 =>
 LdS S t4 (Value.int .i64) fun t6 =>
 LdS S (t4.add 1) Sl.val fun t11 =>
 New 173 #[] fun t7 =>
 Sv S <|
 Do Tryz.prog (Builtin.append_ #[56,56] 56 #[(Sl.val (Sl.mk (some t7) 0 0)),(Sl.val t11)]) Sl.val fun t12 =>
 Sv S <|
 New 95 #[(.int .i64 t6),(Sl.val t12)] fun t14 =>
 Q (some t14)
def zDV.s1 (Q:Int→K)  (s0_1:(Option Addr)) (key1_1:ByteArray) (home2_1:Int) (t17_1:Bool):K :=
 Ite t17_1
  (Q 1)
  (zB9.call s0_1 key1_1 fun t20 =>
  New 87 #[(.bool false),(Sl.val ⟨none,0,0⟩),(.int .i64 0),(.int .u64 0)] fun r7 =>
  StN r7 4 t20 <|
  Ld (r7.add 3) (Value.int .u64) fun t22 =>
  Ite (decide (t22 = 18446744073709551615))
   (Q 111)
   (St (r7.add 2) (.int .i64 home2_1) <|
   Ld (r7.add 3) (Value.int .u64) fun t27 =>
   Ar (IntKind.wrap .u64 (t27 + 1)) fun t28 =>
   St (r7.add 3) (.int .u64 t28) <|
   LdN r7 4 fun t32 =>
   zAm.call s0_1 key1_1 t32 <|
   Q 0))
def zDV (s0:(Option Addr)) (key1:ByteArray) (home2:Int) (Q:Int→K):K :=
 Ite (decide (home2 < 0))
  (zDV.s1 Q s0 key1 home2 true)
  (Nn s0 fun t13 =>
  Ld t13 (Value.int .i64) fun t15 =>
  zDV.s1 Q (some t13) key1 home2 (decide (t15 ≤ home2)))
def zAm.s3 (Q:K) (X2:Sl→Bool→Int→K) (s0_3:Addr) (key1_3:ByteArray) (r5_3:Addr) (out6_3:Sl) (keep7_3:Bool) (i8_3:Int):K :=
 Ar (IntKind.wrap .i64 (i8_3 + 1)) fun t25 =>
 X2 out6_3 keep7_3 t25
def zAm.s4 (Q:K) (X2:Sl→Bool→Int→K) (s0_4:Addr) (key1_4:ByteArray) (r5_4:Addr) (out6_4:Sl) (keep7_4:Bool) (i8_4:Int):K :=
 Ld (s0_4.add 1) Sl.val fun t48 =>
 Idx t48 i8_4 5 fun t50 =>
 Ld t50 Value.string fun t52 =>
 Ite (!(t52.toList == key1_4.toList))
  (Ld (s0_4.add 1) Sl.val fun t59 =>
  Idx t59 i8_4 5 fun t61 =>
  LdN t61 5 fun t62 =>
  Bld #[(.string ⟨#[]⟩),(.bool false),(Sl.val ⟨none,0,0⟩),(.int .i64 0),(.int .u64 0)] (fun i=>some (i * 5,5)) [(0,(.agg t62))] fun ct63 =>
  New 173 ct63 fun t63 =>
  Do Tryz.prog (Builtin.append_ #[56,56] 56 #[(Sl.val out6_4),(Sl.val (Sl.mk (some t63) 1 1))]) Sl.val fun t64 =>
  zAm.s3 Q X2 s0_4 key1_4 r5_4 t64 keep7_4 i8_4)
  (zAm.s3 Q X2 s0_4 key1_4 r5_4 out6_4 keep7_4 i8_4)
def zAm.s5 (Q:K) (X2:Sl→Bool→Int→K) (s0_5:Addr) (key1_5:ByteArray) (r5_5:Addr) (out6_5:Sl) (keep7_5:Bool) (i8_5:Int) (t38_5:Bool):K :=
 Ite t38_5
  (LdN r5_5 4 fun t41 =>
  Bld #[(.string ⟨#[]⟩),(.bool false),(Sl.val ⟨none,0,0⟩),(.int .i64 0),(.int .u64 0)] ([(0,1),(1,4)][·]?) [(0,(.string key1_5)),(1,(.agg t41))] fun t42 =>
  Bld #[(.string ⟨#[]⟩),(.bool false),(Sl.val ⟨none,0,0⟩),(.int .i64 0),(.int .u64 0)] (fun i=>some (i * 5,5)) [(0,(.agg t42))] fun ct43 =>
  New 173 ct43 fun t43 =>
  Do Tryz.prog (Builtin.append_ #[56,56] 56 #[(Sl.val out6_5),(Sl.val (Sl.mk (some t43) 1 1))]) Sl.val fun t44 =>
  zAm.s4 Q X2 s0_5 key1_5 r5_5 t44 false i8_5)
  (zAm.s4 Q X2 s0_5 key1_5 r5_5 out6_5 keep7_5 i8_5)
def zAm.s6 (Q:K) (X2:Sl→Bool→Int→K) (s0_6:Addr) (out6_6:Sl):K :=
 St (s0_6.add 1) (Sl.val out6_6) <|
 Q
def zAm.b2 (Q:K)  (X2:Sl→Bool→Int→K) (s0_2:(Option Addr)) (key1_2:ByteArray) (r5_2:Addr) (out6_2:Sl) (keep7_2:Bool) (i8_2:Int):K :=
 Nn s0_2 fun t19 =>
 Ld (t19.add 1) Sl.val fun t21 =>
 Ite (decide (i8_2 < (t21.n:Int)))
  (Ite keep7_2
   (Ld (t19.add 1) Sl.val fun t31 =>
   Idx t31 i8_2 5 fun t33 =>
   Ld t33 Value.string fun t35 =>
   zAm.s5 Q X2 t19 key1_2 r5_2 out6_2 true i8_2 (!(Op.bytesLess t35.toList key1_2.toList || t35.toList == key1_2.toList)))
   (zAm.s5 Q X2 t19 key1_2 r5_2 out6_2 false i8_2 false))
  (Ite keep7_2
   (LdN r5_2 4 fun t68 =>
   Bld #[(.string ⟨#[]⟩),(.bool false),(Sl.val ⟨none,0,0⟩),(.int .i64 0),(.int .u64 0)] ([(0,1),(1,4)][·]?) [(0,(.string key1_2)),(1,(.agg t68))] fun t69 =>
   Bld #[(.string ⟨#[]⟩),(.bool false),(Sl.val ⟨none,0,0⟩),(.int .i64 0),(.int .u64 0)] (fun i=>some (i * 5,5)) [(0,(.agg t69))] fun ct70 =>
   New 173 ct70 fun t70 =>
   Do Tryz.prog (Builtin.append_ #[56,56] 56 #[(Sl.val out6_2),(Sl.val (Sl.mk (some t70) 1 1))]) Sl.val fun t71 =>
   zAm.s6 Q X2 t19 t71)
   (zAm.s6 Q X2 t19 out6_2))
def zAm.s1 (Q:K)  (s0_1:(Option Addr)) (key1_1:ByteArray) (r5_1:Addr) (out6_1:Sl) (keep7_1:Bool):K :=
 LoopK (α:=Sl×Bool×Int) (fun X x=>zAm.b2 Q (fun out6_2 keep7_2 i8_2=>X (out6_2,keep7_2,i8_2)) s0_1 key1_1 r5_1 x.1 x.2.1 x.2.2) (out6_1,keep7_1,0)
def zAm (s0:(Option Addr)) (key1:ByteArray) (r2:(Array Value)) (Q:K):K :=
 New 87 r2 fun r5 =>
 Dr <| WithS fun S =>
 LdS S r5 Value.bool fun t11 =>
 Ite t11
  (New 173 #[] fun t9 =>
  Sv S <|
  zAm.s1 Q s0 key1 r5 (Sl.mk (some t9) 0 0) true)
  (LdS S (r5.add 3) (Value.int .u64) fun t14 =>
  New 173 #[] fun t9 =>
  Sv S <|
  zAm.s1 Q s0 key1 r5 (Sl.mk (some t9) 0 0) (decide ((0:Int) < t14)))
def zCn.s1 (Q:Bool→K)  (t4_1:Bool):K :=
 Q t4_1
def zCn (a0:(Array Value)) (b1:(Array Value)) (Q:Bool→K):K :=
 New 87 a0 fun a2 =>
 New 87 b1 fun b3 =>
 Ld a2 Value.bool fun t6 =>
 Ld b3 Value.bool fun t8 =>
 Ite (t6 == t8)
  (Ld (a2.add 1) Sl.val fun t12 =>
  Rd Tryz.prog (convert 85 9 (Sl.val t12)) Value.string fun t13 =>
  Ld (b3.add 1) Sl.val fun t15 =>
  Rd Tryz.prog (convert 85 9 (Sl.val t15)) Value.string fun t16 =>
  Ite (t13.toList == t16.toList)
   (Ld (a2.add 2) (Value.int .i64) fun t21 =>
   Ld (b3.add 2) (Value.int .i64) fun t23 =>
   Ite (decide (t21 = t23))
    (Ld (a2.add 3) (Value.int .u64) fun t28 =>
    Ld (b3.add 3) (Value.int .u64) fun t30 =>
    zCn.s1 Q (decide (t28 = t30)))
    (zCn.s1 Q false))
   (zCn.s1 Q false))
  (zCn.s1 Q false)
def zFJ (s0:(Option Addr)) (key1:ByteArray) (value2:Sl) (Q:K):K :=
 zB9.call s0 key1 fun t9 =>
 New 87 #[(.bool false),(Sl.val ⟨none,0,0⟩),(.int .i64 0),(.int .u64 0)] fun r6 =>
 StN r6 4 t9 <|
 Dr <| WithS fun S =>
 LdS S (r6.add 2) (Value.int .i64) fun t16 =>
 LdS S (r6.add 3) (Value.int .u64) fun t18 =>
 New 5 #[] fun t12 =>
 Sv S <|
 Do Tryz.prog (Builtin.append_ #[85,85] 85 #[(Sl.val (Sl.mk (some t12) 0 0)),(Sl.val value2)]) Sl.val fun t14 =>
 Sv S <|
 zAm.call s0 key1 #[(.bool true),(Sl.val t14),(.int .i64 t16),(.int .u64 t18)] <|
 Q
def zFk (s0:(Option Addr)) (key1:ByteArray) (Q:K):K :=
 zB9.call s0 key1 fun t7 =>
 New 87 #[(.bool false),(Sl.val ⟨none,0,0⟩),(.int .i64 0),(.int .u64 0)] fun r4 =>
 StN r4 4 t7 <|
 Ld (r4.add 2) (Value.int .i64) fun t11 =>
 Ld (r4.add 3) (Value.int .u64) fun t13 =>
 zAm.call s0 key1 #[(.bool false),(Sl.val ⟨none,0,0⟩),(.int .i64 t11),(.int .u64 t13)] <|
 Q
end Go.Proofs.YtdemfamgieonbaaGreat
namespace Go.Proofs.YtdemfamgieonbaaGreat
open Go Go.Sep Go.Sep.Bt
set_option maxRecDepth 100000
abbrev rowF6 (x:RecX):List Value:=[.string x.1,.bool x.2.1.has,x.2.2.val,.int .i64 x.2.1.home,.int .u64 x.2.1.cnt]
theorem zQd (x:RecX):(rowF6 x).length = 5:=rfl
theorem zR3 (L:List RecX):∀ v ∈ L.flatMap rowF6,flatV v = true:=fun v hv=>by
 obtain ⟨x,_,hx⟩:=List.mem_flatMap.1 hv
 simp only [rowF6,List.mem_cons,List.not_mem_nil,or_false] at hx
 rcases hx with rfl | rfl | rfl | rfl | rfl <;> rfl
abbrev Pool:=List (Sl×List UInt8)
abbrev poolR (P:Pool):HProp:=Sep.stars (P.map fun p=>Bytes zAe p.1 p.2)
def inP (P:Pool) (s:Sl) (xs:List UInt8):Prop:=(xs = []∧s.n = 0)∨(s,xs) ∈ P
theorem inP.mono {P P':Pool} {s:Sl} {xs:List UInt8} (h:inP P s xs) (hP:∀ x ∈ P,x ∈ P'):inP P' s xs:=h.imp id (hP _)
theorem zR4 {w:World} {s:Sl} (h:s.n = 0):RdB w s []:=⟨by simp [h],fun _=>h,fun a _ i hi=>by simp at hi⟩
theorem zKe {B w:World} {Γ:List HProp} {α:Type} {F:α→HProp} {l:List α} {x:α} (hx:x ∈ l) (h:Holds B (Sep.stars (l.map F)::Γ) w):∃ Δ,Holds B (F x::Δ) w:=by
 obtain ⟨A,C,rfl⟩:=List.append_of_mem hx
 exact ⟨_,((Holds.flat.1 h).perm zGE).perm List.perm_middle⟩
theorem inP.rd {B w:World} {Γ:List HProp} {P:Pool} {s:Sl} {xs:List UInt8} (h:inP P s xs) (hw:Holds B (poolR P::Γ) w):RdB w s xs:=by
 rcases h with ⟨rfl,h⟩ | h
 ·exact zR4 h
 ·obtain ⟨Δ,h2⟩:=zKe h hw
  exact h2.rdC List.mem_cons_self
structure R6 (n:Nat) (M:Recs) (P:Pool) (X:List RecX):Prop where
 mod:M = X.map recM
 ok:∀ x ∈ X,x.2.1.ok∧inP P x.2.2 x.2.1.val
 n1:1 ≤ n
 n3:n ≤ 3
 srt:Srt cmpS M
abbrev ref6L (st n:Nat) (rs:Sl) (X:List RecX) (Γ:List HProp):List HProp:=blk st (.cells [.int .i64 n,rs.val].toArray zHY (0,0))::SlC zBQ 5 rs (X.flatMap rowF6)::Γ
def Ref6 (st n:Nat) (M:Recs) (P:Pool):HProp:=ex fun rs=>ex fun X:List RecX=>Sep.stars (pur (R6 n M P X)::ref6L st n rs X [])
section
variable {B:World} {Γ Δ:List HProp} {k:K} {st n:Nat} {M:Recs} {P:Pool}
instance (priority:=high) zUQ:Sep.Own st (Ref6 st n M P::Γ) (Ref6 st n M P) Γ:=⟨.refl _⟩
end
end Go.Proofs.YtdemfamgieonbaaGreat
namespace Go.Proofs.YtdemfamgieonbaaGreat
open Go Go.Sep Go.Sep.Bt
set_option maxRecDepth 100000
section
variable {B:World} {Γ Δ:List HProp}
end
end Go.Proofs.YtdemfamgieonbaaGreat
namespace Go.Proofs.YtdemfamgieonbaaGreat
open Go Go.Sep Go.Sep.Bt
set_option maxRecDepth 100000
section
variable {B:World} {Γ Δ:List HProp} {k:K} {st sd n:Nat} {M:Recs} {P:Pool}
end
end Go.Proofs.YtdemfamgieonbaaGreat
namespace Go.Proofs.YtdemfamgieonbaaGreat
open Go Go.Sep Go.RowKit
end Go.Proofs.YtdemfamgieonbaaGreat
namespace Go.Proofs.YtdemfamgieonbaaGreat
open Go Go.Sep
set_option maxRecDepth 100000
def opRight (t:TxX) (o:OpM):Bool :=
 if 32 < o.val.length∨o.kind < 1∨7 < o.kind then false
 else if o.kind = 7 then decide (o.key = []) && decide (o.n = 0)
 else if o.key ∉ t.writes∧(o.key ∉ t.reads∨o.kind = 2∨o.kind = 3∨o.kind = 6) then false
 else if o.kind ≠ 6∧o.n ≠ 0 then false
 else decide (o.kind = 2) || (decide (o.kind = 4) || decide (o.val.length = 0))
abbrev Rises (L:List TX):Prop:=L.Pairwise (· < ·)
abbrev headBad (n:Int) (t:TxX):Prop:=n < 1∨3 < n∨¬ Rises t.reads∨¬ Rises t.writes∨8 < t.reads.length∨8 < t.writes.length∨8 < t.reads.length + t.writes.length
abbrev keysBad (t:TxX):Prop:=(∃ k ∈ t.reads++t.writes,k.length < 1∨16 < k.length)∨∃ k ∈ t.reads,k ∈ t.writes
def rightT (n:Int) (t:TxX):Bool :=
 if headBad n t then false
 else if keysBad t then false
 else if t.kind = 2 then decide (t.reads.length = 0) && (decide (t.ops.length = 0) && (decide (t.writes.length = 1) && (decide (0 ≤ t.to) && decide (t.to < n))))
 else if t.kind ≠ 1∨t.to ≠ 0∨16 < t.ops.length then false
 else t.ops.all fun x=>opRight t x.1
theorem zKf {a b:TxX} (h:SameP a b) (n:Int):rightT n a = rightT n b:=by
 obtain ⟨h1,h2,h3,h4,h5⟩:=h
 have hl:a.ops.length = b.ops.length:=by have:=congrArg List.length h5; simpa using this
 have ho:(a.ops.all fun x=>opRight a x.1) = (b.ops.all fun x=>opRight b x.1):=by
  have e:∀ o,opRight a o = opRight b o:=fun o=>by unfold opRight; rw [h3,h4]
  have e2:∀ (t:TxX),(t.ops.all fun x=>opRight b x.1) = ((t.ops.map Prod.fst).all fun o=>opRight b o):=fun t=>by rw [List.all_map]; rfl
  simp only [e]
  rw [e2 a,e2 b,h5]
 unfold rightT headBad keysBad
 rw [h1,h2,h3,h4,hl,ho]
theorem zME {α β:Type} (f:α→β) (L:List α):L.flatMap (fun x=>[f x]) = L.map f:=by induction L <;> simp_all
section
variable {B:World} {Γ Δ:List HProp} {k:K}
theorem s_ldA0 {α:Type} {a:Addr} {cs:List Value} {c:α→Value} {x:α} {k:α→K} (hn:∀ w,Holds B Γ w→RdN w a cs.toArray) (hv:cs[0]? = some (c x)) (h:HG B Γ (k x)):HG B Γ (Ld a c k):=fun w hw=>⟨x,by
 have:=hn w hw 0 (by have:=(List.getElem?_eq_some_iff.1 hv).1; simpa using this)
 rw [add0] at this
 rw [this]; simpa using hv,h w hw⟩
theorem zO4 {α:Type} (f:α→List Value) {esz:Nat} {L:List α} {s:Sl} {j:Nat} {jj:Int} {x:α} {k:Addr→K} (hf:∀ x,(f x).length = esz) (he:0 < esz) (hr:∀ w,Holds B Γ w→RdC w s esz (L.flatMap f)) (hx:L[j]? = some x) (h:∀ t,(∀ w,RdC w s esz (L.flatMap f)→RdN w t (f x).toArray)→HG B Γ (k t)) (hj:jj = (j:Int):=by first | rfl | omega) :
  HG B Γ (Idx s jj esz k):=fun w hw=>by
 subst hj
 have hrw:=hr w hw
 have hj:j < L.length:=(List.getElem?_eq_some_iff.1 hx).1
 have hn:L.length = s.n:=by
  have:=hrw.len; rw [zAT f esz hf] at this
  exact Nat.eq_of_mul_eq_mul_right he this
 cases ha:s.a with
 | none=>have:=hrw.nil ha; omega
 | some a =>
  refine ⟨a,_,ha,by omega,by omega,rfl,h _ (fun w' hw'=>?_) w hw⟩
  simp only [Int.toNat_natCast]
  exact zKz f esz hf hw' ha hx
theorem zJc {s:Sl} {L:List TX} {Q:Bool→K} (hL:L.length < 1000000000) (hr:∀ w,Holds B Γ w→RdC w s 1 (L.map strV)) (h:HG B Γ (Q (decide (Rises L)))):HG B Γ (zCR.call s Q):=fun w hw=>by
 refine zKd _ _ _ ?_
 have hn:s.n = L.length:=by have:=(hr w hw).len; simpa using this.symm
 refine Sep.hg hw ?_
 clear hw w
 unfold zCR
 refine zDA (α:=Int) (fun x=>∃ i:Nat,x = (i:Int)∧1 ≤ i∧i ≤ L.length + 1∧Rises (L.take i)) (fun x=>L.length + 1 - x.toNat) ⟨1,rfl,Nat.le_refl _,by omega,?_⟩ fun k' x hx hk'=>?_
 ·match L with
  | []=>exact List.Pairwise.nil
  | x::L=>exact List.pairwise_singleton _ _
 obtain ⟨i,rfl,hi1,hi,hp⟩:=hx
 unfold zCR.b1
 refine s_ite (fun hb=>?_) fun hb=>?_
 ·have hil:i < L.length:=by simp only [decide_eq_true_eq] at hb; omega
  obtain ⟨j,rfl⟩:∃ j,i = j + 1:=⟨i - 1,by omega⟩
  have g1:L[j]? = some L[j]:=List.getElem?_eq_getElem (by omega)
  have g2:L[j + 1]? = some L[j + 1]:=List.getElem?_eq_getElem hil
  have t1:L.take (j + 1) = L.take j++[L[j]]:=List.take_succ_eq_append_getElem (by omega)
  have t2:L.take (j + 1 + 1) = L.take (j + 1)++[L[j + 1]]:=List.take_succ_eq_append_getElem hil
  have hpi:Rises L→L[j] < L[j + 1]:=fun h=>(List.pairwise_iff_getElem.1 h) j (j + 1) (by omega) hil (by omega)
  generalize L[j] = x at g1 t1 hpi
  generalize L[j + 1] = y at g2 t2 hpi
  refine s_dr ?_
  refine s_ai ?_
  refine s_idxS hr g1 ?_ (by omega)
  refine s_idxS hr g2 ?_ (by omega)
  rw [zBp,zBp,zD3]
  refine s_ite (fun hc=>?_) fun hc=>?_
  ·have hxy:¬ x < y:=by simpa using hc
   rw [show decide (Rises L) = false from decide_eq_false fun h=>hxy (hpi h)] at h
   exact h
  ·have hxy:x < y:=by simpa using hc
   refine s_ai ?_
   refine hk' _ ⟨j + 2,by simp; omega,by omega,by omega,?_⟩ (by omega)
   rw [show j + 2 = j + 1 + 1 from rfl,t2]
   refine List.pairwise_append.2 ⟨hp,List.pairwise_singleton _ _,fun a ha b hb=>?_⟩
   rw [List.mem_singleton.1 hb]
   rw [t1] at ha hp
   rcases List.mem_append.1 ha with ha | ha
   ·exact List.lt_trans ((List.pairwise_append.1 hp).2.2 a ha x (by simp)) hxy
   ·rw [List.mem_singleton.1 ha]; exact hxy
 ·have hil:L.length ≤ i:=by simp only [decide_eq_false_iff_not] at hb; omega
  rw [List.take_of_length_le hil] at hp
  rw [show decide (Rises L) = true from decide_eq_true hp] at h
  exact h
theorem zS8 {t:TxX} {x:OpX} {Q:Bool→K} (hr:∀ w,Holds B Γ w→txRd w t) (hl:t.reads.length < 100000000∧t.writes.length < 100000000) (hx:∀ w,Holds B Γ w→RdB w x.2 x.1.val) (h:HG B Γ (Q (opRight t x.1))):HG B Γ (zAr.call (txL t).toArray (opF x).toArray Q):=fun w hw=>by
 refine zOG _ _ _ _ ?_
 have hxl:x.2.n = x.1.val.length:=by have:=(hx w hw).len; simpa using this.symm
 refine Sep.hg hw ?_
 clear hw w
 unfold zAr
 refine s_new fun t2=>?_
 refine s_new fun o3=>?_
 have fin:HG B (blk o3 (.cells (opF x).toArray zA8 (0,0))::blk t2 (.cells (txL t).toArray zAp (0,0))::Γ) (Q (opRight t x.1)):=s_end h
 generalize hR:opRight t x.1 = R at fin
 unfold opRight at hR
 have S4:∀ b,(b = true ↔ x.1.kind ≠ 6∧x.1.n ≠ 0)→(if x.1.kind ≠ 6∧x.1.n ≠ 0 then false else decide (x.1.kind = 2) || (decide (x.1.kind = 4) || decide (x.1.val.length = 0))) = R→HG B (blk o3 (.cells (opF x).toArray zA8 (0,0))::blk t2 (.cells (txL t).toArray zAp (0,0))::Γ) (zAr.s4 Q ⟨o3,0,none⟩ b):=fun b hb hR=>by
  unfold zAr.s4 zAr.s5
  refine s_ite (fun hb1=>?_) fun hb1=>?_
  ·rw [if_pos (hb.1 hb1)] at hR
   rw [hR]; exact fin
  ·rw [if_neg fun h=>by rw [hb.2 h] at hb1; cases hb1] at hR
   repeat refine s_nx ?_
   refine s_ite (fun hc=>?_) fun hc=>?_
   ·rw [hc] at hR
    rw [show true = R by rw [← hR]; rfl]; exact fin
   ·repeat refine s_nx ?_
    rw [hc] at hR
    refine s_ite (fun hd=>?_) fun hd=>?_
    ·rw [hd] at hR
     rw [show true = R by rw [← hR]; rfl]; exact fin
    ·repeat refine s_nx ?_
     rw [hd] at hR
     rw [show decide ((x.2.n:Int) = 0) = R by rw [← hR,hxl]; simp only [Bool.false_or]; exact decide_eq_decide.2 (by omega)]
     exact fin
 have S3:∀ b,(b = true ↔ x.1.key ∉ t.writes∧(x.1.key ∉ t.reads∨x.1.kind = 2∨x.1.kind = 3∨x.1.kind = 6))→(if x.1.key ∉ t.writes∧(x.1.key ∉ t.reads∨x.1.kind = 2∨x.1.kind = 3∨x.1.kind = 6) then false else if x.1.kind ≠ 6∧x.1.n ≠ 0 then false else decide (x.1.kind = 2) || (decide (x.1.kind = 4) || decide (x.1.val.length = 0))) = R→HG B (blk o3 (.cells (opF x).toArray zA8 (0,0))::blk t2 (.cells (txL t).toArray zAp (0,0))::Γ) (zAr.s3 Q ⟨o3,0,none⟩ b):=fun b hb hR=>by
  unfold zAr.s3
  refine s_ite (fun hb1=>?_) fun hb1=>?_
  ·rw [if_pos (hb.1 hb1)] at hR
   rw [hR]; exact fin
  ·rw [if_neg fun h=>by rw [hb.2 h] at hb1; cases hb1] at hR
   repeat refine s_nx ?_
   refine s_ite (fun hc=>?_) fun hc=>?_
   ·have hc':x.1.kind ≠ 6:=by simpa using hc
    repeat refine s_nx ?_
    exact S4 _ (by simp [hc']) hR
   ·have hc':x.1.kind = 6:=by simpa using hc
    exact S4 _ (by simp [hc']) hR
 have S1:∀ b,(b = true ↔ 32 < x.1.val.length∨x.1.kind < 1∨7 < x.1.kind)→HG B (blk o3 (.cells (opF x).toArray zA8 (0,0))::blk t2 (.cells (txL t).toArray zAp (0,0))::Γ) (zAr.s1 Q ⟨t2,0,none⟩ ⟨o3,0,none⟩ b):=fun b hb=>by
  unfold zAr.s1 zAr.s2
  refine s_ite (fun hb1=>?_) fun hb1=>?_
  ·rw [if_pos (hb.1 hb1)] at hR
   rw [hR]; exact fin
  ·rw [if_neg fun h=>by rw [hb.2 h] at hb1; cases hb1] at hR
   repeat refine s_nx ?_
   refine s_ite (fun hc=>?_) fun hc=>?_
   ·have hc':x.1.kind = 7:=by simpa using hc
    rw [if_pos hc'] at hR
    repeat refine s_nx ?_
    rw [zBp]
    refine s_ite (fun hd=>?_) fun hd=>?_
    ·have hd':x.1.key = []:=by simpa using hd
     repeat refine s_nx ?_
     rw [show decide (x.1.n = 0) = R by rw [← hR,hd']; rfl]
     exact fin
    ·have hd':x.1.key ≠ []:=by simpa using hd
     rw [show false = R by rw [← hR,decide_eq_false hd']; rfl]
     exact fin
   ·have hc':x.1.kind ≠ 7:=by simpa using hc
    rw [if_neg hc'] at hR
    repeat refine s_nx ?_
    refine zLU (L:=t.writes) (key:=x.1.key) (by omega) (fun w hw=>(hr w hw.drops).2.1) ?_
    by_cases hw1:x.1.key ∈ t.writes
    ·rw [decide_eq_true hw1]
     refine s_f ?_
     exact S3 _ (by simp [hw1]) hR
    rw [decide_eq_false hw1]
    refine s_t ?_
    repeat refine s_nx ?_
    refine zLU (L:=t.reads) (key:=x.1.key) (by omega) (fun w hw=>(hr w hw.drops).1) ?_
    by_cases hr1:x.1.key ∈ t.reads
    ·rw [decide_eq_true hr1]
     refine s_f ?_
     repeat refine s_nx ?_
     refine s_ite (fun hd=>?_) fun hd=>?_
     ·exact S3 _ (by
              have:x.1.kind = 2:=by simpa using hd
              simp [hw1,this]) hR
     repeat refine s_nx ?_
     refine s_ite (fun he=>?_) fun he=>?_
     ·exact S3 _ (by
              have:x.1.kind = 3:=by simpa using he
              simp [hw1,this]) hR
     repeat refine s_nx ?_
     refine S3 _ ?_ hR
     have h2:¬ x.1.kind = 2:=by simpa using hd
     have h3:¬ x.1.kind = 3:=by simpa using he
     simp [hw1,hr1,h2,h3]
    ·rw [decide_eq_false hr1]
     refine s_t ?_
     exact S3 _ (by simp [hw1,hr1]) hR
 repeat refine s_nx ?_
 refine s_ite (fun hb=>?_) fun hb=>?_
 ·exact S1 _ (by
          have:32 < x.1.val.length:=by simp only [decide_eq_true_eq] at hb; omega
          simp [this])
 have h32:¬ 32 < x.1.val.length:=by simp only [decide_eq_false_iff_not] at hb; omega
 repeat refine s_nx ?_
 refine s_ite (fun hc=>?_) fun hc=>?_
 ·exact S1 _ (by
          have:x.1.kind < 1:=by simpa using hc
          simp [this])
 have h1:¬ x.1.kind < 1:=by simpa using hc
 repeat refine s_nx ?_
 refine S1 _ ?_
 simp [h32,h1]
theorem zPk {t:TxX} {n:Int} {Q:Bool→K} (hr:∀ w,Holds B Γ w→txRd w t) (hl:t.reads.length < 10000000∧t.writes.length < 10000000∧t.ops.length < 10000000) (h:HG B Γ (Q (rightT n t))):HG B Γ (zAJ.call (txL t).toArray n Q):=fun w hw=>by
 refine zLT _ _ _ _ ?_
 obtain ⟨n1,n2,n3⟩:=zJH (hr w hw)
 refine Sep.hg hw ?_
 clear hw w
 unfold zAJ
 refine s_new fun t2=>?_
 have fin:HG B (blk t2 (.cells (txL t).toArray zAp (0,0))::Γ) (Q (rightT n t)):=s_end h
 generalize hR:rightT n t = R at fin
 unfold rightT at hR
 have S1:∀ b,(b = true ↔ headBad n t)→HG B (blk t2 (.cells (txL t).toArray zAp (0,0))::Γ) (zAJ.s1 Q n ⟨t2,0,none⟩ b):=fun b hb=>by
  unfold zAJ.s1
  refine s_ite (fun hb1=>?_) fun hb1=>?_
  ·rw [if_pos (hb.1 hb1)] at hR
   rw [hR]; exact fin
  rw [if_neg fun h=>by rw [hb.2 h] at hb1; cases hb1] at hR
  refine s_dr ?_
  refine s_wsD [blk t2 (.cells (txL t).toArray zAp (0,0))] ?_
  repeat refine s_nx ?_
  refine s_new fun t9=>?_
  refine s_conv (A':=SlC zB1 1 ⟨some ⟨t9,0,none⟩,0,0⟩ []) (zEU (vs:=[]) rfl (by simp)) ?_
  repeat refine s_nx ?_
  refine zBT (s:=⟨some ⟨t9,0,none⟩,0,0⟩) (us:=t.reads.map strV) (fun w hw=>(hr w hw.drops).1) (fun v hv=>by obtain ⟨y,_,rfl⟩:=List.mem_map.1 hv; rfl) (by simp only; omega) fun a1 ha1=>?_
  repeat refine s_nx ?_
  refine zBT (s:=a1) (us:=t.writes.map strV) (fun w hw=>(hr w hw.drops).2.1) (fun v hv=>by obtain ⟨y,_,rfl⟩:=List.mem_map.1 hv; rfl) (by simp only at ha1; omega) fun all hall=>?_
  rw [show []++t.reads.map strV++t.writes.map strV = (t.reads++t.writes).map strV by simp]
  have hln:(t.reads++t.writes).length = t.reads.length + t.writes.length:=List.length_append
  have halln:all.n = t.reads.length + t.writes.length:=by simp only at ha1; omega
  have fin2:HG B (SlS all (t.reads++t.writes)::blk t2 (.cells (txL t).toArray zAp (0,0))::Γ) (Q R):=s_end fin
  refine zDA (α:=Int) (fun x=>∃ i:Nat,x = (i:Int)∧i ≤ (t.reads++t.writes).length∧(∀ k ∈ (t.reads++t.writes).take i,1 ≤ k.length∧k.length ≤ 16)∧∀ k ∈ t.reads.take i,k ∉ t.writes) (fun x=>(t.reads++t.writes).length - x.toNat) ⟨0,rfl,Nat.zero_le _,by simp,by simp⟩ fun k1 x hx hk1=>?_
  obtain ⟨i,rfl,hi,hs1,hs2⟩:=hx
  unfold zAJ.b2
  refine s_ite (fun hc=>?_) fun hc=>?_
  ·have hil:i < (t.reads++t.writes).length:=by simp only [decide_eq_true_eq] at hc; omega
   have hge:(t.reads++t.writes)[i]? = some (t.reads++t.writes)[i]:=List.getElem?_eq_getElem hil
   have hmem:(t.reads++t.writes)[i] ∈ t.reads++t.writes:=List.getElem_mem hil
   have htk:(t.reads++t.writes).take (i + 1) = (t.reads++t.writes).take i++[(t.reads++t.writes)[i]]:=List.take_succ_eq_append_getElem hil
   have hrt:t.reads.take (i + 1) = t.reads.take i++if i < t.reads.length then [(t.reads++t.writes)[i]] else []:=by
    by_cases hir:i < t.reads.length
    ·rw [if_pos hir,List.take_succ_eq_append_getElem hir,List.getElem_append_left hir]
    ·rw [if_neg hir,List.take_of_length_le (by omega),List.take_of_length_le (by omega),List.append_nil]
   generalize (t.reads++t.writes)[i] = x at hge hmem htk hrt
   have hsz:(bs x).size = x.length:=rfl
   have S3:∀ b,(b = true ↔ (x.length < 1∨16 < x.length)∨(i < t.reads.length∧x ∈ t.writes))→HG B (SlS all (t.reads++t.writes)::blk t2 (.cells (txL t).toArray zAp (0,0))::Γ) (zAJ.s3 Q k1 n ⟨t2,0,none⟩ all (i:Int) b):=fun b hb=>by
    unfold zAJ.s3
    refine s_ite (fun hb1=>?_) fun hb1=>?_
    ·have:keysBad t:=by
      rcases hb.1 hb1 with h | ⟨h,h'⟩
      ·exact .inl ⟨x,hmem,h⟩
      ·refine .inr ⟨x,?_,h'⟩
       rw [List.getElem?_append_left h] at hge
       exact List.mem_of_getElem? hge
     rw [if_pos this] at hR
     rw [hR]; exact fin2
    ·have hnb:¬ ((x.length < 1∨16 < x.length)∨(i < t.reads.length∧x ∈ t.writes)):=fun h=>by rw [hb.2 h] at hb1; cases hb1
     refine s_ai ?_
     refine hk1 _ ⟨i + 1,by simp,hil,fun y hy=>?_,fun y hy=>?_⟩ (by omega)
     ·rw [htk] at hy
      rcases List.mem_append.1 hy with hy | hy
      ·exact hs1 y hy
      ·rw [List.mem_singleton.1 hy]; omega
     ·rw [hrt] at hy
      rcases List.mem_append.1 hy with hy | hy
      ·exact hs2 y hy
      ·split at hy
       ·rename_i hir
        rw [List.mem_singleton.1 hy]
        exact fun hxw=>hnb (.inr ⟨hir,hxw⟩)
       ·cases hy
   refine s_dr ?_
   refine s_idxS (L:=t.reads++t.writes) (fun w hw=>(own_rd (s:=all) hw).1) hge ?_
   refine s_ite (fun hd=>?_) fun hd=>?_
   ·exact S3 _ (by
            have:x.length < 1:=by simp only [decide_eq_true_eq] at hd; omega
            simp [this])
   refine s_idxS (L:=t.reads++t.writes) (fun w hw=>(own_rd (s:=all) hw).1) hge ?_
   have hd':¬ x.length < 1:=by simp only [decide_eq_false_iff_not] at hd; omega
   refine s_ite (fun he=>?_) fun he=>?_
   ·exact S3 _ (by
            have:16 < x.length:=by simp only [decide_eq_true_eq] at he; omega
            simp [this])
   have he':¬ 16 < x.length:=by simp only [decide_eq_false_iff_not] at he; omega
   repeat refine s_nx ?_
   refine s_ite (fun hf=>?_) fun hf=>?_
   ·have hir:i < t.reads.length:=by simp only [decide_eq_true_eq] at hf; omega
    refine zO4 (fun x:TX=>[strV x]) (L:=t.reads++t.writes) (esz:=1) (fun _=>rfl) (by omega) (fun w hw=>by rw [zME]; exact (own_rd (s:=all) hw).1) hge (fun t86 ht86=>?_) rfl
    repeat refine s_nx ?_
    refine s_ldA0 (cs:=[strV x]) (x:=bs x) (fun w hw=>ht86 w (by rw [zME]; exact (own_rd (s:=all) hw).1)) rfl ?_
    refine zLU (L:=t.writes) (key:=x) (by omega) (fun w hw=>(hr w hw.drops).2.1) ?_
    exact S3 _ (by
            rw [decide_eq_true_eq]; constructor
            ·exact fun h=>.inr ⟨hir,h⟩
            ·rintro ((h | h) | h)
             ·exact absurd h hd'
             ·exact absurd h he'
             ·exact h.2)
   ·have hir:¬ i < t.reads.length:=by simp only [decide_eq_false_iff_not] at hf; omega
    exact S3 _ (by
            constructor
            ·exact fun h=>by cases h
            ·rintro ((h | h) | h)
             ·exact absurd h hd'
             ·exact absurd h he'
             ·exact absurd h.1 hir)
  have hil:i = (t.reads++t.writes).length:=by simp only [decide_eq_false_iff_not] at hc; omega
  rw [hil,List.take_length] at hs1
  rw [List.take_of_length_le (by omega)] at hs2
  rw [if_neg (by
   rintro (⟨k,hk,h⟩ | ⟨k,hk,h⟩)
   ·have:=hs1 k hk; omega
   ·exact hs2 k hk h)] at hR
  have S4:∀ b,b = R→HG B (SlS all (t.reads++t.writes)::blk t2 (.cells (txL t).toArray zAp (0,0))::Γ) (zAJ.s4 Q k1 b):=fun b hb=>by
   unfold zAJ.s4
   rw [hb]; exact fin2
  repeat refine s_nx ?_
  refine s_ite (fun hd=>?_) fun hd=>?_
  ·have hk2:t.kind = 2:=by simpa using hd
   rw [if_pos hk2] at hR
   repeat refine s_nx ?_
   refine s_ite (fun he=>?_) fun he=>?_
   rotate_left
   ·refine S4 _ ?_
    rw [← hR,show decide (t.reads.length = 0) = false from decide_eq_false (by simp only [decide_eq_false_iff_not] at he; omega)]; rfl
   rw [show decide (t.reads.length = 0) = true from decide_eq_true (by simp only [decide_eq_true_eq] at he; omega),Bool.true_and] at hR
   repeat refine s_nx ?_
   refine s_ite (fun he2=>?_) fun he2=>?_
   rotate_left
   ·refine S4 _ ?_
    rw [← hR,show decide (t.ops.length = 0) = false from decide_eq_false (by simp only [decide_eq_false_iff_not] at he2; omega)]; rfl
   rw [show decide (t.ops.length = 0) = true from decide_eq_true (by simp only [decide_eq_true_eq] at he2; omega),Bool.true_and] at hR
   repeat refine s_nx ?_
   refine s_ite (fun he3=>?_) fun he3=>?_
   rotate_left
   ·refine S4 _ ?_
    rw [← hR,show decide (t.writes.length = 1) = false from decide_eq_false (by simp only [decide_eq_false_iff_not] at he3; omega)]; rfl
   rw [show decide (t.writes.length = 1) = true from decide_eq_true (by simp only [decide_eq_true_eq] at he3; omega),Bool.true_and] at hR
   repeat refine s_nx ?_
   refine s_ite (fun he4=>?_) fun he4=>?_
   rotate_left
   ·refine S4 _ ?_
    rw [← hR,he4]; rfl
   rw [he4,Bool.true_and] at hR
   repeat refine s_nx ?_
   exact S4 _ hR
  have hk2:¬ t.kind = 2:=by simpa using hd
  rw [if_neg hk2] at hR
  have S5:∀ b,(b = true ↔ t.kind ≠ 1∨t.to ≠ 0∨16 < t.ops.length)→HG B (SlS all (t.reads++t.writes)::blk t2 (.cells (txL t).toArray zAp (0,0))::Γ) (zAJ.s5 Q k1 ⟨t2,0,none⟩ b):=fun b hb=>by
   unfold zAJ.s5
   refine s_ite (fun hb1=>?_) fun hb1=>?_
   ·rw [if_pos (hb.1 hb1)] at hR
    rw [hR]; exact fin2
   rw [if_neg fun h=>by rw [hb.2 h] at hb1; cases hb1] at hR
   refine zDA (α:=Int) (fun x=>∃ i:Nat,x = (i:Int)∧i ≤ t.ops.length∧((t.ops.take i).all fun x=>opRight t x.1) = true) (fun x=>t.ops.length - x.toNat) ⟨0,rfl,Nat.zero_le _,by simp⟩ fun k6 x hx hk6=>?_
   obtain ⟨m,rfl,hm,hs3⟩:=hx
   unfold zAJ.b6
   repeat refine s_nx ?_
   refine s_ite (fun hc6=>?_) fun hc6=>?_
   ·have hml:m < t.ops.length:=by simp only [decide_eq_true_eq] at hc6; omega
    have hge:t.ops[m]? = some t.ops[m]:=List.getElem?_eq_getElem hml
    have hmem:t.ops[m] ∈ t.ops:=List.getElem_mem hml
    have htk:t.ops.take (m + 1) = t.ops.take m++[t.ops[m]]:=List.take_succ_eq_append_getElem hml
    generalize t.ops[m] = x at hge hmem htk
    repeat refine s_nx ?_
    refine s_idxN opF zDF (fun w hw=>(hr w hw.drops).2.2.1) hge ?_
    refine zS8 (t:=t) (x:=x) (fun w hw=>hr w hw.drops) ⟨by omega,by omega⟩ (fun w hw=>(hr w hw.drops).2.2.2 x hmem) ?_
    by_cases ho:opRight t x.1 = true
    ·rw [ho]
     refine s_f ?_
     refine s_ai ?_
     refine hk6 _ ⟨m + 1,by simp,hml,?_⟩ (by omega)
     rw [htk,List.all_append,hs3]; simpa using ho
    ·have ho':opRight t x.1 = false:=by simpa using ho
     rw [ho']
     refine s_t ?_
     rw [show false = R by rw [← hR]; symm; rw [List.all_eq_false]; exact ⟨x,hmem,by simpa using ho'⟩]
     exact fin2
   ·have hml:m = t.ops.length:=by simp only [decide_eq_false_iff_not] at hc6; omega
    rw [hml,List.take_length] at hs3
    rw [show true = R by rw [← hR,hs3]]
    exact fin2
  repeat refine s_nx ?_
  refine s_ite (fun he=>?_) fun he=>?_
  ·exact S5 _ (by
           have:t.kind ≠ 1:=by simpa using he
           simp [this])
  have hk1':t.kind = 1:=by simpa using he
  repeat refine s_nx ?_
  refine s_ite (fun hf=>?_) fun hf=>?_
  ·exact S5 _ (by
           have:t.to ≠ 0:=by simpa using hf
           simp [this])
  have hto:t.to = 0:=by simpa using hf
  repeat refine s_nx ?_
  refine S5 _ ?_
  simp [hk1',hto]
  omega
 refine s_ite (fun hb=>S1 _ (by
                  have:n < 1:=by simpa using hb
                  simp [headBad,this])) fun hb=>?_
 have hn1:¬ n < 1:=by simpa using hb
 refine s_ite (fun hb=>S1 _ (by
                  have:3 < n:=by simpa using hb
                  simp [headBad,this])) fun hb=>?_
 have hn3:¬ 3 < n:=by simpa using hb
 repeat refine s_nx ?_
 refine zJc (L:=t.reads) (by omega) (fun w hw=>(hr w hw.drops).1) ?_
 by_cases hr1:Rises t.reads
 rotate_left
 ·rw [decide_eq_false hr1]
  exact s_t (S1 _ (by simp [headBad,hr1]))
 rw [decide_eq_true hr1]
 refine s_f ?_
 repeat refine s_nx ?_
 refine zJc (L:=t.writes) (by omega) (fun w hw=>(hr w hw.drops).2.1) ?_
 by_cases hr2:Rises t.writes
 rotate_left
 ·rw [decide_eq_false hr2]
  exact s_t (S1 _ (by simp [headBad,hr2]))
 rw [decide_eq_true hr2]
 refine s_f ?_
 repeat refine s_nx ?_
 refine s_ite (fun hb=>S1 _ (by
                  have:8 < t.reads.length:=by simp only [decide_eq_true_eq] at hb; omega
                  simp [headBad,this])) fun hb=>?_
 have h8:¬ 8 < t.reads.length:=by simp only [decide_eq_false_iff_not] at hb; omega
 repeat refine s_nx ?_
 refine s_ite (fun hb=>S1 _ (by
                  have:8 < t.writes.length:=by simp only [decide_eq_true_eq] at hb; omega
                  simp [headBad,this])) fun hb=>?_
 have h9:¬ 8 < t.writes.length:=by simp only [decide_eq_false_iff_not] at hb; omega
 repeat refine s_nx ?_
 refine s_ar (e':=(t.reads.length + t.writes.length:Int)) (by rw [wrap64 (by omega) (by omega)]; omega) ?_
 refine S1 _ ?_
 simp only [headBad,hn1,hn3,hr1,hr2,h8,h9,not_true,false_or,decide_eq_true_eq]
 omega
end
end Go.Proofs.YtdemfamgieonbaaGreat
namespace Go.Proofs.YtdemfamgieonbaaGreat
open Go Go.Sep Go.RowKit
theorem flatMap1 {α β:Type} (f:α→β) (L:List α):L.flatMap (fun x=>[f x]) = L.map f:=by induction L <;> simp_all
theorem rdy_op {w:World} {cs:List Value} (hc:cs.length = 4) (y:Rdy w (.fld 0 1 (.int .i64) (.fld 1 1 .str (.fld 2 1 (.sl (.int .u8) 1) (.fld 3 1 (.int .i64) .nil)))) cs) :
  ∃ x:OpX,cs = opF x∧RdB w x.2 x.1.val∧-9223372036854775808 ≤ x.1.n∧x.1.n ≤ 9223372036854775807:=by
 match cs,hc with
 | [a,b,c,d],_ =>
  obtain ⟨⟨x0,e0,_⟩,⟨x1,e1,_⟩,⟨s,e2,_,_,h1,h2⟩,⟨x3,e3,w3⟩,_⟩:=y
  cases e0; cases e1; cases e2; cases e3
  simp [Lit.wf,IntKind.min,IntKind.max,IntKind.signed,IntKind.bits] at w3
  obtain ⟨xs,_,h3⟩:=zRA h1 h2
  obtain ⟨l,rfl⟩:=bs_of x1
  exact ⟨(⟨x0,l,xs,x3⟩,s),rfl,h3,by simp only; omega⟩
theorem zMF {w:World} {s:Sl} (h1:s.a = none→s.n = 0∧s.c = 0) (h2:∀ a i,s.a = some a→i < s.n→∃ cs',cs'.length = 1∧(∀ j,j < 1→w.cell? (a.add (i * 1 + j)) = cs'[j]?)∧Rdy w .str cs'):∃ L:List (List UInt8),RdC w s 1 (L.map strV):=by
 obtain ⟨L,_,hL,_⟩:=zKy (fun x:List UInt8=>[strV x]) (fun _=>True) (fun _=>rfl) h1 h2 fun cs hc hr=>by
  obtain ⟨b,rfl,_⟩:=hr
  obtain ⟨x,rfl⟩:=bs_of b
  exact ⟨x,rfl,trivial⟩
 exact ⟨L,by rw [flatMap1] at hL; exact hL⟩
theorem zS9 {w:World} {cs:Array Value} (hc:cs.size = 5) (y:Rdy w zFu (Value.agg cs).cells.toList):∃ t:TxX,cs = (txL t).toArray∧txRd w t∧∀ x ∈ t.ops,-9223372036854775808 ≤ x.1.n∧x.1.n ≤ 9223372036854775807:=by
 obtain ⟨l⟩:=cs
 match l,hc with
 | [a,b,c,d,e],_ =>
  obtain ⟨⟨x0,e0,_⟩,⟨rs,e1,_,_,r1,r2⟩,⟨ws,e2,_,_,w1,w2⟩,⟨os,e3,_,_,o1,o2⟩,⟨x4,e4,_⟩,_⟩:=y
  cases e0; cases e1; cases e2; cases e3; cases e4
  obtain ⟨R,hR⟩:=zMF r1 r2
  obtain ⟨S,hS⟩:=zMF w1 w2
  obtain ⟨O,_,hO,hd⟩:=zKy opF (fun x=>RdB w x.2 x.1.val∧-9223372036854775808 ≤ x.1.n∧x.1.n ≤ 9223372036854775807) zDF o1 o2 fun cs hc hr=>rdy_op hc hr
  exact ⟨⟨x0,R,S,O,x4,rs,ws,os⟩,rfl,⟨hR,hS,hO,fun x hx=>(hd x hx).1⟩,fun x hx=>(hd x hx).2⟩
theorem zJ0 {B w:World} {Γ:List HProp} {t:TxX} (h:txRd B t) (hw:Holds B Γ w):txRd w t:=⟨h.1.old hw,h.2.1.old hw,h.2.2.1.old hw,fun x hx=>(h.2.2.2 x hx).old hw⟩
end Go.Proofs.YtdemfamgieonbaaGreat
namespace Go.Proofs.YtdemfamgieonbaaGreat
open Go Go.Sep Go.Sep.Bt
set_option maxRecDepth 100000
abbrev StayW (n:Nat) (M:Recs) (ks:List (List UInt8)) (W:WM):Prop:=∀ p ∈ W,p.1 ∈ ks∧p.2.home = (sGet n M (bs p.1)).home∧p.2.cnt = (sGet n M (bs p.1)).cnt
theorem StayW.now {n:Nat} {M:Recs} {ks:List (List UInt8)} {W:WM} (h:StayW n M ks W) (k:List UInt8):(nowM n M W k).home = (sGet n M (bs k)).home∧(nowM n M W k).cnt = (sGet n M (bs k)).cnt:=by
 unfold nowM
 cases hm:mget k W with
 | none=>exact ⟨rfl,rfl⟩
 | some r=>exact (h _ (zFo hm)).2
theorem zO5 {ν:Type} {W:List (List UInt8×ν)} {k:List UInt8} {v:ν} {p:List UInt8×ν} (h:p ∈ mset k v W):p = (k,v)∨p ∈ W:=by
 rcases mfind k W with ⟨_,h2,_,_⟩ | ⟨j,x,hj,h0,_,_,h2,_⟩
 ·rw [h2] at h
  rcases List.mem_append.1 h with h | h
  ·exact .inr h
  ·exact .inl (List.mem_singleton.1 h)
 ·rw [h2] at h
  rcases List.mem_or_eq_of_mem_set h with h | h
  ·exact .inr h
  ·exact .inl h
theorem StayW.set {n:Nat} {M:Recs} {ks:List (List UInt8)} {W:WM} (h:StayW n M ks W) {k:List UInt8} (hk:k ∈ ks) (has:Bool) (val:List UInt8):StayW n M ks (setW n M W k has val):=fun p hp=>by
 rcases zO5 hp with rfl | hp
 ·exact ⟨hk,(h.now k).1,(h.now k).2⟩
 ·exact h p hp
theorem zR5 {n:Nat} {M:Recs} {W:WM} {k:List UInt8} {d:Int}:(addW n M W k d).2 = 0∨(addW n M W k d).2 = 110∨(addW n M W k d).2 = 111:=by
 unfold addW
 repeat' split
 all_goals simp
theorem zQe {n:Nat} {M:Recs} {W:WM} {O:OM} {o:OpM}:(stepW n M W O o).2.2 = 0∨(stepW n M W O o).2.2 = 110∨(stepW n M W O o).2.2 = 111:=by
 unfold stepW
 repeat' split
 all_goals first | exact zR5 | simp
theorem zIg {t:TxX} {o:OpM} (h:opRight t o = true) (hk:o.kind = 2∨o.kind = 3∨o.kind = 6):o.key ∈ t.writes:=by
 by_cases hw:o.key ∈ t.writes
 ·exact hw
 ·exfalso
  unfold opRight at h
  split at h
  ·cases h
  split at h
  ·omega
  split at h
  ·cases h
  ·rename_i h3
   exact h3 ⟨hw,.inr hk⟩
theorem zR6 {n:Nat} {M:Recs} {ks:List (List UInt8)} {W:WM} {k:List UInt8} {d:Int} (h:StayW n M ks W) (hk:k ∈ ks):StayW n M ks (addW n M W k d).1:=by
 unfold addW
 by_cases h1:(nowM n M W k).has = true∧(nowM n M W k).val.length ≠ 8
 ·rw [if_pos h1]; exact h
 rw [if_neg h1]
 generalize (if (nowM n M W k).has then numOf (nowM n M W k).val else 0) = a
 cases overS a d
 ·rw [if_neg (by simp)]; exact h.set hk _ _
 ·rw [if_pos rfl]; exact h
theorem zMG {n:Nat} {M:Recs} {t:TxX} {W:WM} {O:OM} {o:OpM} (h:StayW n M t.writes W) (ho:opRight t o = true):StayW n M t.writes (stepW n M W O o).1:=by
 unfold stepW
 split
 ·exact h
 split
 ·exact h
 split
 ·exact h.set (zIg ho (.inl (by assumption))) _ _
 split
 ·exact h.set (zIg ho (.inr (.inl (by assumption)))) _ _
 split
 ·exact h
 split
 ·exact h
 split
 ·exact zR6 h (zIg ho (.inr (.inr (by assumption))))
 ·exact h
abbrev isOut (x:OpX):Bool:=decide (x.1.kind = 1∨x.1.kind = 7)
theorem zQf {n:Nat} {M:Recs} {W:WM} {O:OM} {x:OpX}:(stepW n M W O x.1).2.1.length = O.length + if isOut x then 1 else 0:=by
 unfold stepW isOut
 by_cases h1:x.1.kind = 1
 ·simp [h1]
 by_cases h7:x.1.kind = 7
 ·simp [h7]
 rw [if_neg h1,if_neg h7]
 repeat' split
 all_goals first | (simp only [h1,h7,or_self,decide_false,Bool.false_eq_true,if_false]; done) | (simp [h1,h7] at *)
theorem zO6 {n:Nat} {M:Recs} {t:TxX}:∀ {xs:List OpX} {W:WM} {O:OM},(∀ x ∈ xs,opRight t x.1 = true)→StayW n M t.writes W →
  ((opsW n M xs W O).2.2 = 0∨(opsW n M xs W O).2.2 = 110∨(opsW n M xs W O).2.2 = 111)∧StayW n M t.writes (opsW n M xs W O).1∧((opsW n M xs W O).2.2 = 0→(opsW n M xs W O).2.1.length = O.length + (xs.filter isOut).length)
 | [],W,O,_,h=>⟨.inl rfl,h,fun _=>by simp [zNg]⟩
 | x::xs,W,O,hr,h=>by
  have hx:=hr x List.mem_cons_self
  rw [zFr]
  split
  ·rename_i h0
   exact ⟨zQe,zMG h hx,fun h1=>absurd h1 h0⟩
  ·have ih:=zO6 (n:=n) (M:=M) (t:=t) (xs:=xs) (W:=(stepW n M W O x.1).1) (O:=(stepW n M W O x.1).2.1) (fun y hy=>hr y (List.mem_cons_of_mem _ hy)) (zMG h hx)
   refine ⟨ih.1,ih.2.1,fun h1=>?_⟩
   rw [ih.2.2 h1,zQf,List.filter_cons]
   split <;> simp <;> omega
abbrev RowOk (n:Nat) (M:Recs) (t:TxX) (p:List UInt8×Rec):Prop:=p.1 ∈ t.writes∧(if t.kind = 2 then p.2.home = t.to∧p.2.cnt = (sGet n M (bs p.1)).cnt + 1 else p.2.home = (sGet n M (bs p.1)).home∧p.2.cnt = (sGet n M (bs p.1)).cnt)
theorem zHq {n:Int} {t:TxX} (h:rightT n t = true) (hk:t.kind = 2):t.ops = []∧∃ k,t.writes = [k]:=by
 unfold rightT at h
 split at h
 ·cases h
 split at h
 ·cases h
 simp only [Bool.and_eq_true,decide_eq_true_eq] at h
 refine ⟨List.length_eq_zero_iff.1 h.2.1,?_⟩
 obtain ⟨k,hk⟩:=List.length_eq_one_iff.1 h.2.2.1
 exact ⟨k,hk⟩
theorem zMH {n:Int} {t:TxX} (h:rightT n t = true) (hk:t.kind ≠ 2):∀ x ∈ t.ops,opRight t x.1 = true:=by
 unfold rightT at h
 split at h
 ·cases h
 split at h
 ·cases h
 split at h
 ·cases h
 ·exact List.all_eq_true.1 h
theorem zTA {n:Nat} {M:Recs} {t:TxX} {g:Int} (h:rightT g t = true) :
  ((runW n M t).2.2 = 0∨(runW n M t).2.2 = 110∨(runW n M t).2.2 = 111)∧((runW n M t).2.2 = 0→(∀ p ∈ (runW n M t).1,RowOk n M t p)∧(runW n M t).2.1.length = (t.ops.filter isOut).length):=by
 unfold runW
 split
 ·rename_i hk
  obtain ⟨ho,k,hw⟩:=zHq h hk
  rw [hw,zF2,ho]
  split
  ·exact ⟨.inr (.inr rfl),fun h1=>by simp at h1⟩
  ·rw [zL8]
   refine ⟨.inl rfl,fun _=>⟨fun p hp=>?_,rfl⟩⟩
   have hn:nowM n M [] k = sGet n M (bs k):=rfl
   rcases zO5 hp with rfl | hp
   ·refine ⟨by rw [hw]; simp,?_⟩
    rw [if_pos hk,hn]
    exact ⟨rfl,rfl⟩
   ·cases hp
 ·rename_i hk
  obtain ⟨h1,h2,h3⟩:=zO6 (n:=n) (M:=M) (t:=t) (xs:=t.ops) (W:=[]) (O:=[]) (zMH h hk) (by simp)
  refine ⟨h1,fun h0=>⟨fun p hp=>?_,by rw [h3 h0]; simp⟩⟩
  refine ⟨(h2 p hp).1,?_⟩
  rw [if_neg hk]
  exact (h2 p hp).2
section
variable {B:World} {Γ Δ:List HProp} {st:Nat} {M:Recs} {q:Bool→K}
end
end Go.Proofs.YtdemfamgieonbaaGreat
namespace Go.Proofs.YtdemfamgieonbaaGreat
open Go Go.Sep Go.RowKit
end Go.Proofs.YtdemfamgieonbaaGreat
namespace Go.Proofs.YtdemfamgieonbaaGreat
open Go Go.Sep Go.Sep.Bt
set_option maxRecDepth 100000
theorem zNk {n:Nat} {M:Recs}:∀ {xs ys:List OpX} {W:WM} {O:OM},xs.map Prod.fst = ys.map Prod.fst→opsW n M xs W O = opsW n M ys W O
 | [],[],_,_,_=>rfl
 | [],y::ys,_,_,h=>by cases h
 | x::xs,[],_,_,h=>by cases h
 | x::xs,y::ys,W,O,h=>by
  simp only [List.map_cons,List.cons.injEq] at h
  rw [zFr,zFr,h.1]
  split
  ·rfl
  ·exact zNk h.2
theorem zQg {n:Nat} {M:Recs} {a b:TxX} (h:SameP a b):runW n M a = runW n M b:=by
 obtain ⟨h1,h2,h3,h4,h5⟩:=h
 unfold runW
 rw [h1,h2,h4,zNk h5]
section
variable {B:World} {Γ Δ:List HProp} {st n:Nat} {M:Recs}
theorem zNl {Q:Array Value→Sl→K} {t:TxX} (htx:txOk t) (ht:∀ w,Holds B Γ w→txRd w t)
  (h:∀ (e:Int) (os:Sl) (O:OX) (rows:Sl) (R:WX),e = (runW n M t).2.2→(e ≠ 0→O = []∧R = [])→(e = 0→O.map Prod.fst = (runW n M t).2.1∧modW R = sortW (runW n M t).1)→(∀ p ∈ R,p.2.1.ok)→HG B (SlC zA1 2 os (O.flatMap oF)::Sep.stars (O.map oB)::SlC zBQ 5 rows (R.flatMap rowF)::Sep.stars (R.map wB)::StoreR st n M::Γ) (Q #[.int .i64 e,os.val] rows)) :
  HG B (StoreR st n M::Γ) (zBd.call (some ⟨st,0,none⟩) (txL t).toArray Q):=by
 refine zOD (t:=t) htx ht (fun hb=>?_) fun hz os O rows R hO hR hRok=>?_
 ·refine fun w hw=>?_
  have h1:Holds B (SlC zA1 2 ⟨none,0,0⟩ (([]:OX).flatMap oF)::Sep.stars (([]:OX).map oB)::SlC zBQ 5 ⟨none,0,0⟩ (([]:WX).flatMap rowF)::Sep.stars (([]:WX).map wB)::_) w:=((hw.starsNil.nilSl zBQ 5).starsNil).nilSl zA1 2
  exact h _ _ [] _ [] rfl (fun _=>⟨rfl,rfl⟩) (fun h0=>absurd h0 hb) (by simp) w h1
 ·exact h 0 os O rows R hz.symm (fun h0=>absurd rfl h0) (fun _=>⟨hO,hR⟩) hRok
end
end Go.Proofs.YtdemfamgieonbaaGreat
namespace Go.Proofs.YtdemfamgieonbaaGreat
open Go Go.Sep
set_option maxRecDepth 100000
def numL (n:Nat):List UInt8:=if h:n < 128 then [u8 n] else u8 (n % 128 + 128)::numL (n / 128)
termination_by n
decreasing_by omega
theorem zHr {n:Nat} (h:n < 128):numL n = [u8 n]:=by rw [numL,dif_pos h]
theorem zNm {n:Nat} (h:¬ n < 128):numL n = u8 (n % 128 + 128)::numL (n / 128):=by rw [numL,dif_neg h]
theorem zGK:∀ (k n:Nat),n < 128 ^ (k + 1)→(numL n).length ≤ k + 1
 | 0,n,h=>by rw [zHr (by omega)]; simp
 | k + 1,n,h=>by
  by_cases hn:n < 128
  ·rw [zHr hn]; simp
  ·rw [zNm hn]
   have:n / 128 < 128 ^ (k + 1):=Nat.div_lt_of_lt_mul (by rw [Nat.pow_succ] at h; omega)
   have:=zGK k _ this
   simp only [List.length_cons]; omega
theorem or128 (n:Nat):bitsOf .or .u8 (IntKind.wrap .u8 (n:Int)) 128 = ((u8 (n % 128 + 128)).toNat:Int):=by
 rw [wrapB]
 unfold bitsOf
 simp only
 have key:∀ x:BitVec 8,(x ||| 128#8).toNat = x.toNat % 128 + 128:=by decide
 have h2:(BitVec.ofInt (IntKind.bits .u8) ((u8 n).toNat:Int) ||| BitVec.ofInt (IntKind.bits .u8) 128).toNat = (BitVec.ofInt (IntKind.bits .u8) ((u8 n).toNat:Int)).toNat % 128 + 128:=key (BitVec.ofInt 8 ((u8 n).toNat:Int))
 have h3:(BitVec.ofInt (IntKind.bits .u8) ((u8 n).toNat:Int)).toNat = (u8 n).toNat:=by
  show (BitVec.ofInt 8 ((u8 n).toNat:Int)).toNat = _
  rw [BitVec.ofInt_natCast,BitVec.toNat_ofNat,Nat.mod_eq_of_lt (by have:=(u8 n).toNat_lt; omega)]
 rw [h2,h3,wrapB]
 simp only [u8N]
 omega
theorem shrU64 (n:Nat) (k:Nat) (hk:k < 64):shrOf .u64 (n:Int) (k:Int) = ((n / 2 ^ k:Nat):Int):=by
 unfold shrOf
 have:min ((k:Int).toNat) (IntKind.bits .u64) = k:=by simp [IntKind.bits]; omega
 rw [this,Int.fdiv_eq_ediv_of_nonneg _ (Int.le_of_lt (Int.pow_pos (by decide))),Int.natCast_ediv,Int.natCast_pow]
 rfl
end Go.Proofs.YtdemfamgieonbaaGreat
namespace Go.Proofs.YtdemfamgieonbaaGreat
open Go Go.Sep
set_option maxRecDepth 100000
set_option maxHeartbeats 4000000
attribute [local irreducible] G Gp Cx Tx Ex Sx Dx Ox Ax Lx Rx Fx Bx Bj Al Do Ld LdN St StN New CallF Ar DoU Rd Rd2 Pu Cd Ite Fv CallV CallY Ans0 Ans1 Ans2 Ans3 Ans4 Ans5 Ext Dead Dr WithS Sv LdS LdNS RdS Rd2S Nn Idx IdxA IdxS Fld Bld Slc SlcS Cat All LoopK RangeF RangeJ TakeD
namespace F_IRProg
instance at_123:AT Tryz.prog 123 4:=⟨by kernel_rfl⟩
instance at_25:AT Tryz.prog 25 5:=⟨by kernel_rfl⟩
instance cb_110:CB Tryz.prog 110:=⟨by kernel_rfl⟩
instance cb_114:CB Tryz.prog 114:=⟨by kernel_rfl⟩
instance cb_116:CB Tryz.prog 116:=⟨by kernel_rfl⟩
instance cb_117:CB Tryz.prog 117:=⟨by kernel_rfl⟩
instance cb_118:CB Tryz.prog 118:=⟨by kernel_rfl⟩
instance cb_119:CB Tryz.prog 119:=⟨by kernel_rfl⟩
instance cb_151:CB Tryz.prog 151:=⟨by kernel_rfl⟩
instance cb_152:CB Tryz.prog 152:=⟨by kernel_rfl⟩
instance cb_153:CB Tryz.prog 153:=⟨by kernel_rfl⟩
instance cb_168:CB Tryz.prog 168:=⟨by kernel_rfl⟩
instance cb_169:CB Tryz.prog 169:=⟨by kernel_rfl⟩
instance cb_171:CB Tryz.prog 171:=⟨by kernel_rfl⟩
instance ct_2:CT Tryz.prog 2:=⟨by kernel_rfl⟩
instance ct_22:CT Tryz.prog 22:=⟨by kernel_rfl⟩
instance ct_23:CT Tryz.prog 23:=⟨by kernel_rfl⟩
instance ct_3:CT Tryz.prog 3:=⟨by kernel_rfl⟩
instance ct_85:CT Tryz.prog 85:=⟨by kernel_rfl⟩
instance ct_9:CT Tryz.prog 9:=⟨by kernel_rfl⟩
instance zHk:FT Tryz.prog 123 0 0 1:=⟨by kernel_rfl⟩
instance zHl:FT Tryz.prog 123 1 1 1:=⟨by kernel_rfl⟩
instance zHm:FT Tryz.prog 123 2 2 1:=⟨by kernel_rfl⟩
instance zHn:FT Tryz.prog 123 3 3 1:=⟨by kernel_rfl⟩
instance zFb:FT Tryz.prog 25 0 0 1:=⟨by kernel_rfl⟩
instance zO3:FT Tryz.prog 25 1 1 1:=⟨by kernel_rfl⟩
instance zG7:FT Tryz.prog 25 2 2 1:=⟨by kernel_rfl⟩
instance zJA:FT Tryz.prog 25 3 3 1:=⟨by kernel_rfl⟩
instance zJB:FT Tryz.prog 25 4 4 1:=⟨by kernel_rfl⟩
instance mx:MX Tryz.prog:=⟨mixed⟩
instance sl_22:SLT Tryz.prog 22 9 1:=⟨by kernel_rfl⟩
instance sl_23:SLT Tryz.prog 23 123 4:=⟨by kernel_rfl⟩
instance sl_314:SLT Tryz.prog 314 22 1:=⟨by kernel_rfl⟩
instance sl_85:SLT Tryz.prog 85 5 1:=⟨by kernel_rfl⟩
instance st_9:STT Tryz.prog 9:=⟨by kernel_rfl⟩
instance sz_123:SZ Tryz.prog 123 4:=⟨by kernel_rfl⟩
instance sz_22:SZ Tryz.prog 22 1:=⟨by kernel_rfl⟩
instance sz_23:SZ Tryz.prog 23 1:=⟨by kernel_rfl⟩
instance sz_25:SZ Tryz.prog 25 5:=⟨by kernel_rfl⟩
instance sz_85:SZ Tryz.prog 85 1:=⟨by kernel_rfl⟩
instance zt_123:ZT Tryz.prog 123 (.agg #[(.int .i64 0),(.string ⟨#[]⟩),(Sl.val ⟨none,0,0⟩),(.int .i64 0)]):=⟨Tryz.t123,by kernel_rfl,by kernel_rfl⟩
instance zt_22:ZT Tryz.prog 22 (Sl.val ⟨none,0,0⟩):=⟨Tryz.t22,by kernel_rfl,by kernel_rfl⟩
instance zt_25:ZT Tryz.prog 25 (.agg #[(.int .i64 0),(Sl.val ⟨none,0,0⟩),(Sl.val ⟨none,0,0⟩),(Sl.val ⟨none,0,0⟩),(.int .i64 0)]):=⟨Tryz.t25,by kernel_rfl,by kernel_rfl⟩
end F_IRProg
def zAx.s2 (Q:Int→K)  (ok5_2:Bool):K :=
 Ite (!ok5_2)
  (Q 1)
  (Q 0)
def zAx.s1 (Q:Int→K)  (regions1_1:Int) (t2_1:Addr) (ok5_1:Bool):K :=
 Ld t2_1 (Value.int .i64) fun t18 =>
 Ite (decide (t18 = 1))
  (Ite ok5_1
   (Ld (t2_1.add 4) (Value.int .i64) fun t25 =>
   Ite (decide (t25 = 0))
    (Ld (t2_1.add 3) Sl.val fun t30 =>
    Ite (decide ((t30.n:Int) ≤ 16))
     (Ld (t2_1.add 3) Sl.val fun t36 =>
     zBX.call t36 (.func (.func 115) #[] #[(.pointer (some t2_1))]) fun t38 =>
     zAx.s2 Q (!t38))
     (zAx.s2 Q false))
    (zAx.s2 Q false))
   (zAx.s2 Q false))
  (Ite (decide (t18 = 2))
   (Ite ok5_1
    (Ld (t2_1.add 1) Sl.val fun t46 =>
    Ite (decide ((t46.n:Int) = 0))
     (Ld (t2_1.add 3) Sl.val fun t52 =>
     Ite (decide ((t52.n:Int) = 0))
      (Ld (t2_1.add 2) Sl.val fun t58 =>
      Ite (decide ((t58.n:Int) = 1))
       (Ld (t2_1.add 4) (Value.int .i64) fun t64 =>
       Ite (decide ((0:Int) ≤ t64))
        (Ld (t2_1.add 4) (Value.int .i64) fun t69 =>
        zAx.s2 Q (decide (t69 < regions1_1)))
        (zAx.s2 Q false))
       (zAx.s2 Q false))
      (zAx.s2 Q false))
     (zAx.s2 Q false))
    (zAx.s2 Q false))
   (zAx.s2 Q false))
def zAx (t0:(Array Value)) (regions1:Int) (Q:Int→K):K :=
 New 25 t0 fun t2 =>
 Ite (decide ((1:Int) ≤ regions1))
  (Ite (decide (regions1 ≤ 3))
   (LdN t2 5 fun t14 =>
   zBc.call t14 fun t15 =>
   zAx.s1 Q regions1 t2 t15)
   (zAx.s1 Q regions1 t2 false))
  (zAx.s1 Q regions1 t2 false)
theorem zMe (t0:(Array Value)) (regions1:Int) (Q:Int→K) (w:World) (h:zAx t0 regions1 Q w):zAx.call t0 regions1 Q w:=by
 have hJ9:JH 9 fun D=>D [] (fun C=>∀ (ok5_2:Bool),C [(5,(.bool ok5_2))] (zAx.s2 Q ok5_2)):=by intros; exact ⟨fun _ h=>⟨_,_,h⟩⟩
 have hJ2:JH 2 fun D=>∃ (regions1_1:Int) (t2_1:Addr),D [(1,(.int .i64 regions1_1)),(2,(.pointer (some t2_1)))] (fun C=>∀ (ok5_1:Bool),C [(1,(.int .i64 regions1_1)),(2,(.pointer (some t2_1))),(5,(.bool ok5_1))] (zAx.s1 Q regions1_1 t2_1 ok5_1)):=by intros; exact ⟨fun _ ⟨_,_,h⟩=>⟨_,_,h⟩⟩
 exact g_walk 75 h Tryz.func65
def zDM.b1 (Q:(Array Value)→K)  (X1:Int→K) (t1_1:Addr) (t2_1:Addr) (t18_1:Sl) (t19_1:Int) (t20_1:Int):K :=
 Ite (decide (t20_1 < t19_1))
  (Idx t18_1 t20_1 4 fun t23 =>
  LdN t23 4 fun t24 =>
  New 123 #[(.int .i64 0),(.string ⟨#[]⟩),(Sl.val ⟨none,0,0⟩),(.int .i64 0)] fun o4 =>
  StN o4 4 t24 <|
  Dr <| WithS fun S =>
  LdS S (t1_1.add 3) Sl.val fun t26 =>
  LdS S (o4.add 2) Sl.val fun t29 =>
  zBZ.call t29 fun t30 =>
  Sv S <|
  Idx t26 t20_1 4 fun t31 =>
  St (t31.add 2) (Sl.val t30) <|
  Ar (IntKind.wrap .i64 (t20_1 + 1)) fun t33 =>
  X1 t33)
  (LdN t1_1 5 fun t34 =>
  StN t2_1 5 t34 <|
  LdN t2_1 5 fun r0 =>
  Q r0)
def zDM (t0:(Array Value)) (Q:(Array Value)→K):K :=
 New 25 t0 fun t1 =>
 New 25 #[(.int .i64 0),(Sl.val ⟨none,0,0⟩),(Sl.val ⟨none,0,0⟩),(Sl.val ⟨none,0,0⟩),(.int .i64 0)] fun t2 =>
 Dr <| WithS fun S =>
 LdS S (t1.add 1) Sl.val fun t6 =>
 LdS S (t1.add 2) Sl.val fun t9 =>
 LdS S (t1.add 3) Sl.val fun t12 =>
 zBM.call t6 fun t7 =>
 Sv S <|
 zBM.call t9 fun t10 =>
 Sv S <|
 zBi.call t12 fun t13 =>
 St (t1.add 1) (Sl.val t7) <|
 St (t1.add 2) (Sl.val t10) <|
 St (t1.add 3) (Sl.val t13) <|
 Ld (t1.add 3) Sl.val fun t18 =>
 LoopK (α:=Int) (fun X x=>zDM.b1 Q X t1 t2 t18 (t18.n:Int) x) 0
theorem zNn (t0:(Array Value)) (Q:(Array Value)→K) (w:World) (h:zDM t0 Q w):zDM.call t0 Q w:=by
 have hD5:DH 5 2 [8] (.s [0,2,3,1,4] (.a [(5,1,.s [6,7] (.a [(8,0,.e)]))])):=by intros; exact ⟨⟩
 have hL3:∀ (t1_1:Addr) (t2_1:Addr) (t18_1:Sl) (t19_1:Int),LH 3 (fun x:Int=>[(1,(.pointer (some t1_1))),(2,(.pointer (some t2_1))),(18,(Sl.val t18_1)),(19,(.int .i64 t19_1)),(20,(.int .i64 x))]) (fun X x=>zDM.b1 Q X t1_1 t2_1 t18_1 t19_1 x):=by intros; exact ⟨⟩
 have hD1:DH 1 2 [8,10,12,14] (.s [0,3,6,1,4,7] (.a [(2,1,.s [9] (.a [(5,1,.a [(8,0,.a [(10,0,.s [11] (.a [(12,0,.s [13] (.a [(14,0,.e)]))]))])])]))])):=by intros; exact ⟨⟩
 exact g_walk 35 h Tryz.func66
def zDw (t0:(Array Value)) (Q:Sl→K):K :=
 New 25 t0 fun t1 =>
 Ld (t1.add 1) Sl.val fun t5 =>
 Ld (t1.add 2) Sl.val fun t7 =>
 New 22 #[(Sl.val t5),(Sl.val t7)] fun t8 =>
 zAK.call (Sl.mk (some t8) 2 2) fun t9 =>
 zBy.call t9 <|
 zAG.call t9 fun t13 =>
 Q t13
theorem zNo (t0:(Array Value)) (Q:Sl→K) (w:World) (h:zDw t0 Q w):zDw.call t0 Q w:=by
 exact g_walk 14 h Tryz.func92
def zBc.s1 (Q:Bool→K)  (t1_1:Addr) (t28_1:Bool):K :=
 Ite t28_1
  (Q false)
  (Ld (t1_1.add 1) Sl.val fun t30 =>
  zBY.call t30 (.func (.func 170) #[] #[(.pointer (some t1_1))]) fun t32 =>
  Q (!t32))
def zBc (t0:(Array Value)) (Q:Bool→K):K :=
 New 25 t0 fun t1 =>
 Ld (t1.add 1) Sl.val fun t4 =>
 Ite (decide ((8:Int) < (t4.n:Int)))
  (zBc.s1 Q t1 true)
  (Ld (t1.add 2) Sl.val fun t9 =>
  Ld (t1.add 1) Sl.val fun t12 =>
  Ar (IntKind.wrap .i64 (8 - (t12.n:Int))) fun t14 =>
  Ite (decide (t14 < (t9.n:Int)))
   (zBc.s1 Q t1 true)
   (Ld (t1.add 1) Sl.val fun t19 =>
   zBS.call t19 fun t20 =>
   Ite (!t20)
    (zBc.s1 Q t1 true)
    (Ld (t1.add 2) Sl.val fun t25 =>
    zBS.call t25 fun t26 =>
    zBc.s1 Q t1 (!t26))))
theorem zJ1 (t0:(Array Value)) (Q:Bool→K) (w:World) (h:zBc t0 Q w):zBc.call t0 Q w:=by
 have hJ2:JH 2 fun D=>∃ (t1_1:Addr),D [(1,(.pointer (some t1_1)))] (fun C=>∀ (t28_1:Bool),C [(1,(.pointer (some t1_1))),(28,(.bool t28_1))] (zBc.s1 Q t1_1 t28_1)):=by intros; exact ⟨fun _ ⟨_,h⟩=>⟨_,_,h⟩⟩
 exact g_walk 34 h Tryz.func114
def zFI (o0:(Array Value)) (t1:Addr) (Q:Bool→K):K :=
 New 123 o0 fun o2 =>
 LdN t1 5 fun t4 =>
 LdN o2 4 fun t5 =>
 zAi.call t4 t5 fun t6 =>
 Q (!t6)
theorem zKg (o0:(Array Value)) (t1:Addr) (Q:Bool→K) (w:World) (h:zFI o0 t1 Q w):zFI.call o0 t1 Q w:=by
 exact g_walk 8 h Tryz.func115
def zAi.s4 (Q:Bool→K)  (t4_4:Bool):K :=
 Q t4_4
def zAi.s6 (Q:Bool→K)  (t4_6:Bool):K :=
 Q t4_6
def zAi.s5 (Q:Bool→K)  (o3_5:Addr) (known6_5:Bool) (t35_5:Int) (t52_5:Bool):K :=
 Ite t52_5
  (Ite known6_5
   (Ld (o3_5.add 2) Sl.val fun t58 =>
   zAi.s6 Q (decide ((t58.n:Int) = 0)))
   (zAi.s6 Q false))
  (Ite (decide (t35_5 = 7))
   (Ld (o3_5.add 1) Value.string fun t65 =>
   Q (t65.toList == (⟨#[]⟩:ByteArray).toList))
   (Q false))
def zAi.s3 (Q:Bool→K)  (o3_3:Addr) (written5_3:Bool) (known6_3:Bool) (t35_3:Int) (t39_3:Bool):K :=
 Ite t39_3
  (Ite written5_3
   (Ld (o3_3.add 2) Sl.val fun t45 =>
   zAi.s4 Q (decide ((t45.n:Int) = 0)))
   (zAi.s4 Q false))
  (Ite (decide (t35_3 = 4))
   (Q known6_3)
   (Ite (decide (t35_3 = 1))
    (zAi.s5 Q o3_3 known6_3 t35_3 (decide (t35_3 = 1)))
    (zAi.s5 Q o3_3 known6_3 t35_3 (decide (t35_3 = 5)))))
def zAi.s2 (Q:Bool→K)  (o3_2:Addr) (written5_2:Bool) (known6_2:Bool):K :=
 Ld o3_2 (Value.int .i64) fun t35 =>
 Ite (decide (t35 = 2))
  (Q written5_2)
  (Ite (decide (t35 = 3))
   (zAi.s3 Q o3_2 written5_2 known6_2 t35 (decide (t35 = 3)))
   (zAi.s3 Q o3_2 written5_2 known6_2 t35 (decide (t35 = 6))))
def zAi.s1 (Q:Bool→K)  (t2_1:Addr) (o3_1:Addr) (t20_1:Bool):K :=
 Ite t20_1
  (Q false)
  (Ld (t2_1.add 2) Sl.val fun t22 =>
  Ld (o3_1.add 1) Value.string fun t24 =>
  zA4.call t22 t24 fun t25 =>
  Ite t25
   (zAi.s2 Q o3_1 true true)
   (Ld (t2_1.add 1) Sl.val fun t29 =>
   Ld (o3_1.add 1) Value.string fun t31 =>
   zA4.call t29 t31 fun t32 =>
   zAi.s2 Q o3_1 false t32))
def zAi (t0:(Array Value)) (o1:(Array Value)) (Q:Bool→K):K :=
 New 25 t0 fun t2 =>
 New 123 o1 fun o3 =>
 Ld (o3.add 2) Sl.val fun t8 =>
 Ite (decide ((32:Int) < (t8.n:Int)))
  (zAi.s1 Q t2 o3 true)
  (Ld (o3.add 3) (Value.int .i64) fun t13 =>
  Ite (decide (t13 ≠ 0))
   (Ld o3 (Value.int .i64) fun t17 =>
   zAi.s1 Q t2 o3 (decide (t17 ≠ 6)))
   (zAi.s1 Q t2 o3 false))
theorem zNp (t0:(Array Value)) (o1:(Array Value)) (Q:Bool→K) (w:World) (h:zAi t0 o1 Q w):zAi.call t0 o1 Q w:=by
 have hJ1000010:JH 1000010 fun D=>D [] (fun C=>∀ (t4_4:Bool),C [(4,(.bool t4_4))] (zAi.s4 Q t4_4)):=by intros; exact ⟨fun _ h=>⟨_,_,h⟩⟩
 have hJ1000015:JH 1000015 fun D=>D [] (fun C=>∀ (t4_6:Bool),C [(4,(.bool t4_6))] (zAi.s6 Q t4_6)):=by intros; exact ⟨fun _ h=>⟨_,_,h⟩⟩
 have hJ15:JH 15 fun D=>∃ (o3_5:Addr) (t35_5:Int),D [(3,(.pointer (some o3_5))),(35,(.int .i64 t35_5))] (fun C=>∀ (known6_5:Bool) (t52_5:Bool),C [(3,(.pointer (some o3_5))),(6,(.bool known6_5)),(35,(.int .i64 t35_5)),(52,(.bool t52_5))] (zAi.s5 Q o3_5 known6_5 t35_5 t52_5)):=by intros; exact ⟨fun _ ⟨_,_,h⟩=>⟨_,_,h⟩⟩
 have hJ10:JH 10 fun D=>∃ (o3_3:Addr) (t35_3:Int),D [(3,(.pointer (some o3_3))),(35,(.int .i64 t35_3))] (fun C=>∀ (written5_3:Bool) (known6_3:Bool) (t39_3:Bool),C [(3,(.pointer (some o3_3))),(5,(.bool written5_3)),(6,(.bool known6_3)),(35,(.int .i64 t35_3)),(39,(.bool t39_3))] (zAi.s3 Q o3_3 written5_3 known6_3 t35_3 t39_3)):=by intros; exact ⟨fun _ ⟨_,_,h⟩=>⟨_,_,h⟩⟩
 have hJ5:JH 5 fun D=>∃ (o3_2:Addr),D [(3,(.pointer (some o3_2)))] (fun C=>∀ (written5_2:Bool) (known6_2:Bool),C [(3,(.pointer (some o3_2))),(5,(.bool written5_2)),(6,(.bool known6_2))] (zAi.s2 Q o3_2 written5_2 known6_2)):=by intros; exact ⟨fun _ ⟨_,h⟩=>⟨_,_,h⟩⟩
 have hJ2:JH 2 fun D=>∃ (t2_1:Addr) (o3_1:Addr),D [(2,(.pointer (some t2_1))),(3,(.pointer (some o3_1)))] (fun C=>∀ (t20_1:Bool),C [(2,(.pointer (some t2_1))),(3,(.pointer (some o3_1))),(20,(.bool t20_1))] (zAi.s1 Q t2_1 o3_1 t20_1)):=by intros; exact ⟨fun _ ⟨_,_,h⟩=>⟨_,_,h⟩⟩
 exact g_walk 67 h Tryz.func116
def zBS.s2 (Q:Bool→K) (X1:Int→K) (keys0_2:Sl) (t5_2:Sl) (t6_2:Int) (t7_2:Int) (t31_2:Bool):K :=
 Ite t31_2
  (Q false)
  (Ar (IntKind.wrap .i64 (t7_2 + 1)) fun t32 =>
  X1 t32)
def zBS.b1 (Q:Bool→K)  (X1:Int→K) (keys0_1:Sl) (t5_1:Sl) (t6_1:Int) (t7_1:Int):K :=
 Ite (decide (t7_1 < t6_1))
  (Idx t5_1 t7_1 1 fun t10 =>
  Ld t10 Value.string fun t11 =>
  Ite (t11.toList == (⟨#[]⟩:ByteArray).toList)
   (zBS.s2 Q X1 keys0_1 t5_1 t6_1 t7_1 true)
   (Ite (decide ((16:Int) < (t11.size:Int)))
    (zBS.s2 Q X1 keys0_1 t5_1 t6_1 t7_1 true)
    (Ite (decide ((0:Int) < t7_1))
     (Ar (IntKind.wrap .i64 (t7_1 - 1)) fun t25 =>
     Idx keys0_1 t25 1 fun t26 =>
     Ld t26 Value.string fun t27 =>
     zBS.s2 Q X1 keys0_1 t5_1 t6_1 t7_1 (!(Op.bytesLess t27.toList t11.toList)))
     (zBS.s2 Q X1 keys0_1 t5_1 t6_1 t7_1 false))))
  (Q true)
def zBS (keys0:Sl) (Q:Bool→K):K :=
 LoopK (α:=Int) (fun X x=>zBS.b1 Q X keys0 keys0 (keys0.n:Int) x) 0
theorem zMf (keys0:Sl) (Q:Bool→K) (w:World) (h:zBS keys0 Q w):zBS.call keys0 Q w:=by
 have hJ5:∀ (X1:Int→K),XH 2 X1→JH 5 fun D=>∃ (keys0_2:Sl) (t5_2:Sl) (t6_2:Int) (t7_2:Int),D [(0,(Sl.val keys0_2)),(5,(Sl.val t5_2)),(6,(.int .i64 t6_2)),(7,(.int .i64 t7_2))] (fun C=>∀ (t31_2:Bool),C [(0,(Sl.val keys0_2)),(5,(Sl.val t5_2)),(6,(.int .i64 t6_2)),(7,(.int .i64 t7_2)),(31,(.bool t31_2))] (zBS.s2 Q X1 keys0_2 t5_2 t6_2 t7_2 t31_2)):=by intros; exact ⟨fun _ ⟨_,_,_,_,h⟩=>⟨_,_,h⟩⟩
 have hL2:∀ (keys0_1:Sl) (t5_1:Sl) (t6_1:Int),LH 2 (fun x:Int=>[(0,(Sl.val keys0_1)),(5,(Sl.val t5_1)),(6,(.int .i64 t6_1)),(7,(.int .i64 x))]) (fun X x=>zBS.b1 Q X keys0_1 t5_1 t6_1 x):=by intros; exact ⟨⟩
 exact g_walk 33 h Tryz.func168
def zEC (k0:ByteArray) (t1:Addr) (Q:Bool→K):K :=
 Ld (t1.add 2) Sl.val fun t5 =>
 zA4.call t5 k0 fun t7 =>
 Q t7
theorem zIh (k0:ByteArray) (t1:Addr) (Q:Bool→K) (w:World) (h:zEC k0 t1 Q w):zEC.call k0 t1 Q w:=by
 exact g_walk 8 h Tryz.func170
end Go.Proofs.YtdemfamgieonbaaGreat
namespace Go.Proofs.YtdemfamgieonbaaGreat
open Go Go.Sep
set_option maxRecDepth 100000
abbrev opB (x:OpX):HProp:=Bytes zAe x.2 x.1.val
abbrev txC (t:TxX) (Γ:List HProp):List HProp:=SlS t.rs t.reads::SlS t.ws t.writes::SlC zA8 4 t.os (t.ops.flatMap opF)::Sep.stars (t.ops.map opB)::Γ
abbrev TxIs (a b:TxX):Prop:=SameP a b
section
variable {B:World} {Γ Δ:List HProp} {k:K}
theorem zQh {α:Type} {F:α→HProp} {l:List α} {x:α} {w:World} (hx:x ∈ l) (h:Holds B (Sep.stars (l.map F)::Γ) w):∃ Δ,Holds B (F x::Δ) w:=by
 obtain ⟨i,hi⟩:=List.getElem?_of_mem hx
 exact ⟨_,zPM i hi h⟩
theorem txC_rd {t:TxX} {w:World} (h:Holds B (txC t Γ) w):txRd w t :=
 ⟨(own_rd (s:=t.rs) h).1,(own_rd (s:=t.ws) h).1,(own_rd (s:=t.os) h).1,fun x hx=>by
  obtain ⟨Δ,hd⟩:=zQh (F:=opB) hx h.tail.tail.tail
  exact hd.rdC (E:=zAe) List.mem_cons_self⟩
theorem zFT {E T esz:Nat} {us:List Value} {s:Sl} {Q:Sl→K} (hr:∀ w,Holds B Γ w→RdC w s esz us) (hfl:∀ u ∈ us,flatV u = true) (hroom:us.length ≤ 100000000) (he:0 < esz) (h:∀ s',s'.n = s.n→HG B (SlC E esz s' us::Γ) (Q s')) (hT:appT Tryz.prog T T E esz = true:=by kernel_rfl) :
  HG B Γ (Ite s.a.isNone (Q (Sl.mk none 0 0)) (New E #[] fun t5=>Do Tryz.prog (Builtin.append_ #[T,T] T #[Sl.val (Sl.mk (some t5) 0 0),s.val]) Sl.val fun t7=>Q t7)):=fun w hw=>by
 have hrw:=hr w hw
 have hl:=hrw.len
 have hsn:s.n ≤ us.length:=by rw [hl]; exact Nat.le_mul_of_pos_right _ he
 refine Sep.hg hw ?_
 clear hw
 refine s_ite (fun hb=>?_) fun hb=>?_
 ·have ha:s.a = none:=by cases hs:s.a with
   | none=>rfl
   | some a=>rw [hs] at hb; cases hb
  have hn:s.n = 0:=hrw.nil ha
  have hus:us = []:=List.length_eq_zero_iff.1 (by rw [hl,hn,Nat.zero_mul])
  refine fun w2 hw2=>h ⟨none,0,0⟩ hn.symm w2 ?_
  rw [hus]
  exact hw2.nilSl E esz
 ·refine s_new fun t5=>?_
  refine s_conv (A':=SlC E esz ⟨some ⟨t5,0,none⟩,0,0⟩ []) (zEU (vs:=[]) rfl (by simp)) ?_
  refine zBT (s:=⟨some ⟨t5,0,none⟩,0,0⟩) (us:=us) (fun w hw=>hr w hw.drops) hfl (by simp only; omega) (hT:=hT) fun s' hs'=>?_
  exact h s' (by simp only at hs'; omega)
theorem zQi {s:Sl} {xs:List UInt8} {Q:Sl→K} (hr:∀ w,Holds B Γ w→RdB w s xs) (hl:xs.length ≤ 90000000) (h:∀ s',HG B (Bytes zAe s' xs::Γ) (Q s')):HG B Γ (zBZ.call s Q):=fun w hw=>by
 refine zG0 _ _ _ ?_
 refine Sep.hg hw ?_
 clear hw w
 unfold zBZ
 exact zFT (us:=xs.map byteV) hr (zFy _) (by rw [List.length_map]; omega) (by omega) fun s' _=>h s'
theorem zMI {s:Sl} {L:List TX} {Q:Sl→K} (hr:∀ w,Holds B Γ w→RdC w s 1 (L.map strV)) (hl:L.length ≤ 90000000) (h:∀ s',HG B (SlS s' L::Γ) (Q s')):HG B Γ (zBM.call s Q):=fun w hw=>by
 refine zFB _ _ _ ?_
 refine Sep.hg hw ?_
 clear hw w
 unfold zBM
 exact zFT (us:=L.map strV) hr (fun v hv=>by obtain ⟨y,_,rfl⟩:=List.mem_map.1 hv; rfl) (by rw [List.length_map]; omega) (by omega) fun s' _=>h s'
theorem zR7 (L:List OpX):∀ v ∈ L.flatMap opF,flatV v = true:=fun v hv=>by
 obtain ⟨x,_,hx⟩:=List.mem_flatMap.1 hv
 simp only [opF,List.mem_cons,List.not_mem_nil,or_false] at hx
 rcases hx with rfl | rfl | rfl | rfl <;> rfl
theorem zQj {s:Sl} {L:List OpX} {Q:Sl→K} (hr:∀ w,Holds B Γ w→RdC w s 4 (L.flatMap opF)) (hl:L.length ≤ 20000000) (h:∀ s',HG B (SlC zA8 4 s' (L.flatMap opF)::Γ) (Q s')):HG B Γ (zBi.call s Q):=fun w hw=>by
 refine zFC _ _ _ ?_
 refine Sep.hg hw ?_
 clear hw w
 unfold zBi
 exact zFT (us:=L.flatMap opF) hr (zR7 L) (by rw [zAT _ 4 zDF]; omega) (by omega) fun s' _=>h s'
theorem zH4 {α:Type} {f:α→List Value} {esz:Nat} (hf:∀ x,(f x).length = esz):∀ {L:List α} {i off:Nat} {x y:α} {v:Value},L[i]? = some x→off < esz→(f x).set off v = f y→(L.flatMap f).set (i * esz + off) v = (L.set i y).flatMap f
 | [],i,off,x,y,v,hx,_,_=>by simp at hx
 | z::L,0,off,x,y,v,hx,ho,hy=>by
  have hzx:z = x:=by simpa using hx
  subst hzx
  rw [Nat.zero_mul,Nat.zero_add,List.flatMap_cons,List.set_cons_zero,List.flatMap_cons,List.set_append_left _ _ (by rw [hf]; exact ho),hy]
 | z::L,i + 1,off,x,y,v,hx,ho,hy=>by
  have ih:=zH4 hf (L:=L) (i:=i) (by simpa using hx) ho hy
  rw [List.flatMap_cons,List.set_cons_succ,List.flatMap_cons,← ih,List.set_append_right _ _ (by rw [hf,Nat.succ_mul]; omega),hf]
  congr 2
  rw [Nat.succ_mul]; omega
theorem zO7 {t:TxX} {Q:Array Value→K} (hr:∀ w,Holds B Γ w→txRd w t) (hl:t.reads.length ≤ 1000∧t.writes.length ≤ 1000∧t.ops.length ≤ 1000∧∀ x ∈ t.ops,x.1.val.length ≤ 1000000) (h:∀ t',TxIs t' t→HG B (txC t' Γ) (Q (txL t').toArray)):HG B Γ (zDM.call (txL t).toArray Q):=fun w hw=>by
 refine zNn _ _ _ ?_
 refine Sep.hg hw ?_
 clear hw w
 obtain ⟨hl1,hl2,hl3,hl4⟩:=hl
 unfold zDM
 refine s_new fun t1=>?_
 refine s_new fun t2=>?_
 repeat refine s_nx ?_
 refine zMI (fun w hw=>(hr w hw.drops).1) (by omega) fun rs=>?_
 refine s_sv ?_
 refine zMI (fun w hw=>(hr w hw.drops).2.1) (by omega) fun ws=>?_
 refine s_sv ?_
 refine zQj (fun w hw=>(hr w hw.drops).2.2.1) (by omega) fun os=>?_
 repeat refine s_nx ?_
 refine fun w hw=>Sep.hg (show Holds B (Sep.stars (([]:List OpX).map opB)::_) w from hw.starsNil) ?_
 clear hw w
 refine s_cap os fun a1 a2 a3 a4=>?_
 rw [zAT _ 4 zDF] at a1
 refine s_end (Δ:=SlC zA8 4 os (t.ops.flatMap opF)::Sep.stars (([]:List OpX).map opB)::blk t1 (.cells [.int .i64 t.kind,rs.val,ws.val,os.val,.int .i64 t.to].toArray zAp (0,0))::blk t2 (.cells [.int .i64 0,Sl.val ⟨none,0,0⟩,Sl.val ⟨none,0,0⟩,Sl.val ⟨none,0,0⟩,.int .i64 0].toArray zAp (0,0))::SlS ws t.writes::SlS rs t.reads::Γ) ?_
 refine s_loop (α:=Int) (ι:=Nat×List OpX) (fun x i=>x = (i.1:Int)∧i.1 ≤ t.ops.length∧i.2.map Prod.fst = t.ops.map Prod.fst∧i.2.drop i.1 = t.ops.drop i.1)
  (fun x i=>SlC zA8 4 os (i.2.flatMap opF)::Sep.stars ((i.2.take i.1).map opB)::blk t1 (.cells [.int .i64 t.kind,rs.val,ws.val,os.val,.int .i64 t.to].toArray zAp (0,0))::blk t2 (.cells [.int .i64 0,Sl.val ⟨none,0,0⟩,Sl.val ⟨none,0,0⟩,Sl.val ⟨none,0,0⟩,.int .i64 0].toArray zAp (0,0))::SlS ws t.writes::SlS rs t.reads::Γ)
  (fun x i=>t.ops.length - i.1) (0,t.ops) ⟨rfl,Nat.zero_le _,rfl,rfl⟩ ?_
 rintro k' _ ⟨i,L⟩ ⟨rfl,hi,hm,hd⟩ hk'
 simp only at hi hm hd hk' ⊢
 have hLl:L.length = t.ops.length:=by have:=congrArg List.length hm; simpa using this
 unfold zDM.b1
 refine s_ite (fun hb=>?_) fun hb=>?_
 ·have hil:i < t.ops.length:=by simp only [decide_eq_true_eq] at hb; omega
  have hge:L[i]? = some t.ops[i]:=by
   have:=congrArg (·[0]?) hd
   simp only [List.getElem?_drop,Nat.add_zero] at this
   rw [this,List.getElem?_eq_getElem hil]
  have hmem:t.ops[i] ∈ t.ops:=List.getElem_mem hil
  generalize t.ops[i] = x at hge hmem
  have hvl:=hl4 x hmem
  refine s_idxN opF zDF (fun w hw=>(own_rd (s:=os) hw).1) hge ?_
  refine s_new fun o4=>?_
  repeat refine s_nx ?_
  refine zQi (xs:=x.1.val) (fun w hw=>(hr w hw.drops).2.2.2 x hmem) (by omega) fun vs=>?_
  repeat refine s_nx ?_
  refine s_idx (s:=os) (i:=i) ?_
  refine s_stE (s:=os) ?_ (by rw [zAT _ 4 zDF]; omega)
  rw [zH4 (y:=((x.1,vs):OpX)) zDF hge (by omega) rfl]
  refine s_ai ?_
  have hA:(L.set i (x.1,vs)).map Prod.fst = t.ops.map Prod.fst:=by
   rw [← hm,List.map_set]
   refine List.ext_getElem? fun j=>?_
   rw [List.getElem?_set]
   split
   ·rename_i hij
    subst hij
    split
    ·simp [hge]
    ·rename_i hj; simp only [List.length_map] at hj; omega
   ·rfl
  have hB:(L.set i (x.1,vs)).drop (i + 1) = t.ops.drop (i + 1):=by
   rw [List.drop_set_of_lt (by omega),← List.drop_drop,hd,List.drop_drop]
  have h:=hk' ((i:Int) + 1) (i + 1,L.set i (x.1,vs)) ⟨by simp,hil,hA,hB⟩ (by simp only; omega)
  have ht:(L.set i (x.1,vs)).take (i + 1) = L.take i++[((x.1,vs):OpX)]:=by
   have hx:(L.set i (x.1,vs))[i]? = some (x.1,vs):=by rw [List.getElem?_set_self (by omega)]
   rw [List.take_add_one,hx,List.take_set_of_le (Nat.le_refl _)]
   rfl
  simp only at h
  rw [ht] at h
  have:=zCx (F:=opB) (A:=L.take i) (C:=[]) (x:=((x.1,vs):OpX)) (Γ:=SlC zA8 4 os ((L.set i (x.1,vs)).flatMap opF)::blk t1 (.cells [.int .i64 t.kind,rs.val,ws.val,os.val,.int .i64 t.to].toArray zAp (0,0))::blk t2 (.cells [.int .i64 0,Sl.val ⟨none,0,0⟩,Sl.val ⟨none,0,0⟩,Sl.val ⟨none,0,0⟩,.int .i64 0].toArray zAp (0,0))::SlS ws t.writes::SlS rs t.reads::Γ) (s_end h)
  rw [List.append_nil] at this
  exact s_end this
 ·have hil:i = t.ops.length:=by simp only [decide_eq_false_iff_not] at hb; omega
  rw [hil,← hLl,List.take_length]
  repeat refine s_nx ?_
  have:=h ⟨t.kind,t.reads,t.writes,L,t.to,rs,ws,os⟩ ⟨rfl,rfl,rfl,rfl,hm⟩
  exact s_end this
theorem zLW {t:TxX} {Q:Sl→K} (hr1:∀ w,Holds B Γ w→RdC w t.rs 1 (t.reads.map strV)) (hr2:∀ w,Holds B Γ w→RdC w t.ws 1 (t.writes.map strV)) (hl:t.reads.length ≤ 400000) (hl2:t.writes.length ≤ 400000) (h:∀ s,HG B (SlS s (keysT (t.reads++t.writes))::Γ) (Q s)):HG B Γ (zDw.call (txL t).toArray Q):=fun w hw=>by
 refine zNo _ _ _ ?_
 refine Sep.hg hw ?_
 clear hw w
 unfold zDw
 refine s_new fun t1=>?_
 repeat refine s_nx ?_
 refine s_new fun t8=>?_
 refine zPi (La:=t.reads) (Lb:=t.writes) (by omega) (by omega) (fun w hw=>hr1 w hw.drops) (fun w hw=>hr2 w hw.drops) fun s=>?_
 have hln:(t.reads++t.writes).length = t.reads.length + t.writes.length:=List.length_append
 refine fun w hw=>zGJ (by omega) hw fun w hw=>?_
 refine Sep.hg hw ?_
 clear hw w
 refine zPh (by rw [zLy]; omega) fun s'=>?_
 have:=h s'
 unfold keysT at this
 exact s_end this
end
end Go.Proofs.YtdemfamgieonbaaGreat
namespace Go.Proofs.YtdemfamgieonbaaGreat
open Go Go.Sep
set_option maxRecDepth 100000
set_option maxHeartbeats 4000000
attribute [local irreducible] G Gp Cx Tx Ex Sx Dx Ox Ax Lx Rx Fx Bx Bj Al Do Ld LdN St StN New CallF Ar DoU Rd Rd2 Pu Cd Ite Fv CallV CallY Ans0 Ans1 Ans2 Ans3 Ans4 Ans5 Ext Dead Dr WithS Sv LdS LdNS RdS Rd2S Nn Idx IdxA IdxS Fld Bld Slc SlcS Cat All LoopK RangeF RangeJ TakeD
namespace F_IRCode
instance cb_146:CB Tryz.prog 146:=⟨by kernel_rfl⟩
instance cb_150:CB Tryz.prog 150:=⟨by kernel_rfl⟩
instance ct_85:CT Tryz.prog 85:=⟨by kernel_rfl⟩
instance zUR:FT Tryz.prog 207 0 0 1:=⟨by kernel_rfl⟩
instance in_3:INT Tryz.prog 3 .i64:=⟨by kernel_rfl⟩
instance in_33:INT Tryz.prog 33 .u64:=⟨by kernel_rfl⟩
instance in_5:INT Tryz.prog 5 .u8:=⟨by kernel_rfl⟩
instance mx:MX Tryz.prog:=⟨mixed⟩
instance sl_85:SLT Tryz.prog 85 5 1:=⟨by kernel_rfl⟩
instance sz_85:SZ Tryz.prog 85 1:=⟨by kernel_rfl⟩
instance zt_5:ZT Tryz.prog 5 (.int .u8 0):=⟨Tryz.t5,by kernel_rfl,by kernel_rfl⟩
end F_IRCode
def zDg (p0:(Option Addr)) (Q:Sl→K):K :=
 Nn p0 fun t4 =>
 Ld t4 Sl.val fun t6 =>
 zCT.call t6 fun t7 =>
 Q t7
theorem zJ2 (p0:(Option Addr)) (Q:Sl→K) (w:World) (h:zDg p0 Q w):zDg.call p0 Q w:=by
 exact g_walk 8 h Tryz.func91
def zBJ.b1 (Q:K)  (X1:Int→K) (p0_1:(Option Addr)) (n1_1:Int):K :=
 Ite (decide ((128:Int) ≤ n1_1))
  (Nn p0_1 fun t10 =>
  Ld t10 Sl.val fun t12 =>
  Ar (IntKind.wrap .u8 n1_1) fun t14 =>
  Ar (bitsOf .or .u8 t14 128) fun t15 =>
  New 5 #[(.int .u8 t15)] fun t16 =>
  Do Tryz.prog (Builtin.append_ #[85,85] 85 #[(Sl.val t12),(Sl.val (Sl.mk (some t16) 1 1))]) Sl.val fun t17 =>
  St t10 (Sl.val t17) <|
  Cd (0 ≤ (7:Int)) <|
  Ar (shrOf .u64 n1_1 7) fun t7 =>
  X1 t7)
  (Nn p0_1 fun t22 =>
  Ld t22 Sl.val fun t24 =>
  Ar (IntKind.wrap .u8 n1_1) fun t26 =>
  New 5 #[(.int .u8 t26)] fun t27 =>
  Do Tryz.prog (Builtin.append_ #[85,85] 85 #[(Sl.val t24),(Sl.val (Sl.mk (some t27) 1 1))]) Sl.val fun t28 =>
  St t22 (Sl.val t28) <|
  Q)
def zBJ (p0:(Option Addr)) (n1:Int) (Q:K):K :=
 LoopK (α:=Int) (fun X x=>zBJ.b1 Q X p0 x) n1
theorem zKh (p0:(Option Addr)) (n1:Int) (Q:K) (w:World) (h:zBJ p0 n1 Q w):zBJ.call p0 n1 Q w:=by
 have hL0:∀ (p0_1:(Option Addr)),LH 0 (fun x:Int=>[(0,(.pointer p0_1)),(1,(.int .u64 x))]) (fun X x=>zBJ.b1 Q X p0_1 x):=by intros; exact ⟨⟩
 exact g_walk 31 h Tryz.func146
def zCm (p0:(Option Addr)) (b1:Sl) (Q:K):K :=
 Ar (IntKind.wrap .u64 (b1.n:Int)) fun t7 =>
 zBJ.call p0 t7 <|
 Nn p0 fun t11 =>
 Ld t11 Sl.val fun t13 =>
 Do Tryz.prog (Builtin.append_ #[85,85] 85 #[(Sl.val t13),(Sl.val b1)]) Sl.val fun t15 =>
 St t11 (Sl.val t15) <|
 Q
theorem zJ3 (p0:(Option Addr)) (b1:Sl) (Q:K) (w:World) (h:zCm p0 b1 Q w):zCm.call p0 b1 Q w:=by
 exact g_walk 18 h Tryz.func148
end Go.Proofs.YtdemfamgieonbaaGreat
namespace Go.Proofs.YtdemfamgieonbaaGreat
open Go Go.Sep
set_option maxRecDepth 100000
def PenR (p:Nat) (xs:List UInt8):HProp:=ex fun s:Sl=>Sep.stars [blk p (.cells [s.val].toArray zEl (0,0)),SlC zAe 1 s (xs.map byteV)]
section
variable {B:World} {Γ Δ:List HProp} {p:Nat} {xs:List UInt8} {k Q:K}
theorem s_pen (h:∀ s,HG B (blk p (.cells [s.val].toArray zEl (0,0))::SlC zAe 1 s (xs.map byteV)::Γ) k):HG B (PenR p xs::Γ) k:=s_ex fun s=>s_flat (h s)
theorem zHA {s:Sl} (h:HG B (PenR p xs::Γ) k):HG B (blk p (.cells [s.val].toArray zEl (0,0))::SlC zAe 1 s (xs.map byteV)::Γ) k:=fun w hw=>by
 refine h w ?_
 have h3:Holds B (Sep.stars [blk p (.cells [s.val].toArray zEl (0,0)),SlC zAe 1 s (xs.map byteV)]::Γ) w:=Holds.flat.2 hw
 exact h3.imp fun g hg=>⟨s,hg⟩
instance (priority:=high) zUt:Sep.Own p (PenR p xs::Γ) (PenR p xs) Γ:=⟨.refl _⟩
theorem zQk {q0:Addr→K} (h:∀ p,HG B (PenR p []::Γ) (q0 ⟨p,0,none⟩)):HG B Γ (New zEl #[Sl.val ⟨none,0,0⟩] q0):=by
 refine s_new fun p=>?_
 refine fun w hw=>?_
 refine hg (show Holds B (SlC zAe 1 ⟨none,0,0⟩ (([]:List UInt8).map byteV)::_) w from hw.nilSl _ _) ?_
 refine s_swap ?_
 exact zHA (h p)
theorem num_hg {n:Nat} (hn:n < 1180591620717411303424) (hx:xs.length ≤ 50000000) (h:HG B (PenR p (xs++numL n)::Γ) Q):HG B (PenR p xs::Γ) (zBJ.call (some ⟨p,0,none⟩) (n:Int) Q):=by
 refine fun w hw=>zKh _ _ _ _ ?_
 refine hg hw ?_
 clear hw w
 have hnl:=zGK 9 n (by simpa using hn)
 unfold zBJ
 refine s_loop (α:=Int) (ι:=Nat×List UInt8) (fun x i=>x = (i.1:Int)∧i.2++numL i.1 = xs++numL n) (fun x i=>PenR p i.2::Γ) (fun x i=>i.1) (n,xs) ⟨rfl,rfl⟩ ?_
 rintro k' _ ⟨m,ys⟩ ⟨rfl,he⟩ hk'
 simp only at he hk' ⊢
 have hyl:ys.length ≤ 50000010:=by have:=congrArg List.length he; simp only [List.length_append] at this; omega
 unfold zBJ.b1
 refine s_ite (fun hb=>?_) fun hb=>?_
 ·have hm:¬ m < 128:=by simp only [decide_eq_true_eq] at hb; omega
  refine s_nn ?_
  refine s_pen fun s=>?_
  refine s_cap s fun a1 a2 a3 a4=>?_
  simp only [List.length_map] at a1
  repeat refine s_nx ?_
  refine s_ar rfl ?_
  refine s_ar (or128 m) ?_
  refine s_new fun t16=>?_
  refine zBT (s:=s) (esz:=1) (us:=[byteV (u8 (m % 128 + 128))]) (blk_rd rfl) (by simp [byteV,flatV]) (by simp only; omega) fun s2 _=>?_
  rw [show ys.map byteV++[byteV (u8 (m % 128 + 128))] = (ys++[u8 (m % 128 + 128)]).map byteV by simp]
  repeat refine s_nx ?_
  refine s_cd (by decide) ?_
  refine s_ar (shrU64 m 7 (by decide)) ?_
  refine s_ownS s2 ?_
  refine s_own p ?_
  refine zHA ?_
  refine s_end (hk' ((m / 2 ^ 7:Nat):Int) (m / 2 ^ 7,ys++[u8 (m % 128 + 128)]) ⟨rfl,?_⟩ (by simp only; omega))
  simp only
  rw [← he,zNm hm]; simp
 ·have hm:m < 128:=by simp only [decide_eq_false_iff_not] at hb; omega
  refine s_nn ?_
  refine s_pen fun s=>?_
  refine s_cap s fun a1 a2 a3 a4=>?_
  simp only [List.length_map] at a1
  repeat refine s_nx ?_
  refine s_ar (wrapB m) ?_
  refine s_new fun t16=>?_
  refine zBT (s:=s) (esz:=1) (us:=[byteV (u8 m)]) (blk_rd rfl) (by simp [byteV,flatV]) (by simp only; omega) fun s2 _=>?_
  rw [show ys.map byteV++[byteV (u8 m)] = (ys++[u8 m]).map byteV by simp]
  repeat refine s_nx ?_
  refine s_ownS s2 ?_
  refine s_own p ?_
  refine zHA ?_
  rw [← zHr hm,he]
  exact s_end h
theorem zTB {b:Sl} {ys:List UInt8} (hr:∀ w,Holds B Γ w→RdB w b ys) (hy:ys.length ≤ 10000000) (hx:xs.length ≤ 10000000) (h:HG B (PenR p (xs++numL ys.length++ys)::Γ) Q):HG B (PenR p xs::Γ) (zCm.call (some ⟨p,0,none⟩) b Q):=by
 refine fun w hw=>zJ3 _ _ _ _ ?_
 have hbn:b.n = ys.length:=by have:=(hr w hw.drops).len; simpa using this.symm
 refine hg hw ?_
 clear hw w
 have hnl:=zGK 9 ys.length (by simp; omega)
 unfold zCm
 refine s_ar (wrapU64 (by omega) (by omega)) ?_
 rw [hbn]
 refine num_hg (by omega) (by omega) ?_
 refine s_nn ?_
 refine s_pen fun s=>?_
 refine s_cap s fun a1 a2 a3 a4=>?_
 simp only [List.length_map,List.length_append] at a1
 repeat refine s_nx ?_
 refine zBT (s:=s) (esz:=1) (us:=ys.map byteV) (fun w hw=>hr w hw.drops) (zFy _) (by omega) fun s2 _=>?_
 rw [← List.map_append]
 repeat refine s_nx ?_
 refine s_ownS s2 ?_
 refine s_own p ?_
 refine zHA ?_
 exact s_end h
theorem zTC {q:Sl→K} (hx:xs.length ≤ 50000000) (h:∀ s,HG B (SlC zAe 1 s (xs.map byteV)::PenR p xs::Γ) (q s)):HG B (PenR p xs::Γ) (zDg.call (some ⟨p,0,none⟩) q):=by
 refine fun w hw=>zJ2 _ _ _ ?_
 refine hg hw ?_
 clear hw w
 unfold zDg
 refine s_nn ?_
 refine s_pen fun s=>?_
 repeat refine s_nx ?_
 refine fun w hw=>zFq _ _ _ ?_
 refine hg hw ?_
 clear hw w
 unfold zCT
 refine zFT (us:=xs.map byteV) (fun w hw=>(own_rd (s:=s) hw).1) (zFy _) (by simp; omega) (by omega) fun s2 _=>?_
 refine s_ownS s ?_
 refine s_own p ?_
 refine zHA ?_
 exact s_end (h s2)
end
end Go.Proofs.YtdemfamgieonbaaGreat
namespace Go.Proofs.YtdemfamgieonbaaGreat
open Go Go.Sep
set_option maxRecDepth 100000
def stepOk (t:TxX) (o:OpM):Bool :=
 if 32 < o.val.length∨(o.n ≠ 0∧o.kind ≠ 6) then false
 else if o.kind = 2 then decide (o.key ∈ t.writes)
 else if o.kind = 3∨o.kind = 6 then decide (o.key ∈ t.writes) && decide (o.val.length = 0)
 else if o.kind = 4 then decide (o.key ∈ t.reads++t.writes)
 else if o.kind = 1∨o.kind = 5 then decide (o.key ∈ t.reads++t.writes) && decide (o.val.length = 0)
 else if o.kind = 7 then decide (o.key = [])
 else false
theorem zQl (t:TxX) (o:OpM):stepOk t o = opRight t o:=by
 unfold stepOk opRight
 by_cases h1:32 < o.val.length
 ·simp [h1]
 simp only [h1,false_or]
 by_cases hw:o.key ∈ t.writes <;> by_cases hr:o.key ∈ t.reads <;> by_cases hn:o.n = 0 <;> by_cases hv:o.val.length = 0 <;>
  (by_cases k1:o.kind = 1
   ·simp [k1,hw,hr,hn,hv]
   by_cases k2:o.kind = 2
   ·simp [k2,hw,hr,hn,hv]
   by_cases k3:o.kind = 3
   ·simp [k3,hw,hr,hn,hv]
   by_cases k4:o.kind = 4
   ·simp [k4,hw,hr,hn,hv]
   by_cases k5:o.kind = 5
   ·simp [k5,hw,hr,hn,hv]
   by_cases k6:o.kind = 6
   ·simp [k6,hw,hr,hn,hv]
   by_cases k7:o.kind = 7
   ·simp [k7,hw,hr,hn,hv]
   have k8:o.kind < 1∨7 < o.kind:=by omega
   simp [k1,k2,k3,k4,k5,k6,k7,k8])
abbrev KeyOk (k:TX):Prop:=1 ≤ k.length∧k.length ≤ 16
abbrev DeclOk (t:TxX):Prop:=t.reads.length ≤ 8∧t.writes.length ≤ 8 - t.reads.length∧(Rises t.reads∧∀ k ∈ t.reads,KeyOk k)∧(Rises t.writes∧∀ k ∈ t.writes,KeyOk k)∧∀ k ∈ t.reads,k ∉ t.writes
theorem zR8 {n:Int} {t:TxX} (h1:1 ≤ n) (h3:n ≤ 3):DeclOk t ↔ ¬ headBad n t∧¬ keysBad t:=by
 constructor
 ·rintro ⟨a1,a2,⟨a3,a4⟩,⟨a5,a6⟩,a7⟩
  refine ⟨?_,?_⟩
  ·rintro (h | h | h | h | h | h | h)
   ·omega
   ·omega
   ·exact h a3
   ·exact h a5
   ·omega
   ·omega
   ·omega
  ·rintro (⟨k,hk,h⟩ | ⟨k,hk,h⟩)
   ·rcases List.mem_append.1 hk with hk | hk
    ·have:=a4 k hk; omega
    ·have:=a6 k hk; omega
   ·exact a7 k hk h
 ·rintro ⟨h,g⟩
  simp only [headBad,not_or,Classical.not_not] at h
  obtain ⟨_,_,b1,b2,b3,b4,b5⟩:=h
  refine ⟨by omega,by omega,⟨b1,fun k hk=>?_⟩,⟨b2,fun k hk=>?_⟩,fun k hk hw=>g (.inr ⟨k,hk,hw⟩)⟩
  ·have h6:¬ (k.length < 1∨16 < k.length):=fun h=>g (.inl ⟨k,List.mem_append_left _ hk,h⟩)
   exact ⟨by omega,by omega⟩
  ·have h6:¬ (k.length < 1∨16 < k.length):=fun h=>g (.inl ⟨k,List.mem_append_right _ hk,h⟩)
   exact ⟨by omega,by omega⟩
section
variable {B:World} {Γ Δ:List HProp} {k:K}
theorem zGm {s:Sl} {L:List TX} {key:TX} {Q:Bool→K} (hL:L.length < 100000000) (hr:∀ w,Holds B Γ w→RdC w s 1 (L.map strV)) (h:HG B Γ (Q (decide (key ∈ L)))):HG B Γ (zA4.call s (bs key) Q):=fun w hw=>by
 refine zEk _ _ _ _ ?_
 have hn:s.n = L.length:=by have:=(hr w hw).len; simpa using this.symm
 refine Sep.hg hw ?_
 clear hw w
 unfold zA4
 refine fun w hw=>zFD _ _ _ _ ?_
 refine Sep.hg hw ?_
 clear hw w
 unfold zA3
 refine zDA (α:=Int) (fun x=>∃ i:Nat,x = (i:Int)∧i ≤ L.length∧key ∉ L.take i) (fun x=>L.length - x.toNat) ⟨0,rfl,Nat.zero_le _,by simp⟩ fun k' x hx hk'=>?_
 obtain ⟨i,rfl,hi,hno⟩:=hx
 unfold zA3.b1
 refine s_ite (fun hb=>?_) fun hb=>?_
 ·have hil:i < L.length:=by simp only [decide_eq_true_eq] at hb; omega
  have hge:L[i]? = some L[i]:=List.getElem?_eq_getElem hil
  have hmem:L[i] ∈ L:=List.getElem_mem hil
  have htk:L.take (i + 1) = L.take i++[L[i]]:=List.take_succ_eq_append_getElem hil
  generalize L[i] = x at hge hmem htk
  refine s_idxS hr hge ?_
  rw [zBp,zBp]
  refine s_ite (fun he=>?_) fun he=>?_
  ·have he':key = x:=by simpa using he
   rw [show decide (key ∈ L) = true from decide_eq_true (by rw [he']; exact hmem)] at h
   show HG B Γ (Q (decide ((0:Int) ≤ (i:Int))))
   rw [show decide ((0:Int) ≤ (i:Int)) = true by simp]
   exact h
  ·have he':¬ key = x:=by simpa using he
   refine s_ai ?_
   refine hk' _ ⟨i + 1,by simp,hil,?_⟩ (by omega)
   rw [htk]
   simp only [List.mem_append,List.mem_singleton,not_or]
   exact ⟨hno,he'⟩
 ·have hil:i = L.length:=by simp only [decide_eq_false_iff_not] at hb; omega
  rw [hil,List.take_length] at hno
  rw [show decide (key ∈ L) = false from decide_eq_false hno] at h
  show HG B Γ (Q (decide ((0:Int) ≤ -1)))
  rw [show decide ((0:Int) ≤ -1) = false by decide]
  exact h
theorem zNq {s:Sl} {L:List TX} {Q:Bool→K} (hL:L.length < 1000000000) (hr:∀ w,Holds B Γ w→RdC w s 1 (L.map strV)) (h:HG B Γ (Q (decide (Rises L∧∀ k ∈ L,KeyOk k)))):HG B Γ (zBS.call s Q):=fun w hw=>by
 refine zMf _ _ _ ?_
 have hn:s.n = L.length:=by have:=(hr w hw).len; simpa using this.symm
 refine Sep.hg hw ?_
 clear hw w
 unfold zBS
 refine zDA (α:=Int) (fun x=>∃ i:Nat,x = (i:Int)∧i ≤ L.length∧Rises (L.take i)∧∀ k ∈ L.take i,KeyOk k) (fun x=>L.length - x.toNat) ⟨0,rfl,Nat.zero_le _,by simp,by simp⟩ fun k' x hx hk'=>?_
 obtain ⟨i,rfl,hi,hp,hks⟩:=hx
 unfold zBS.b1
 refine s_ite (fun hb=>?_) fun hb=>?_
 ·have hil:i < L.length:=by simp only [decide_eq_true_eq] at hb; omega
  have g2:L[i]? = some L[i]:=List.getElem?_eq_getElem hil
  have t2:L.take (i + 1) = L.take i++[L[i]]:=List.take_succ_eq_append_getElem hil
  have m2:L[i] ∈ L:=List.getElem_mem hil
  have hpi:∀ j x,L[j]? = some x→j < i→Rises L→x < L[i]:=fun j x hx hj h=>by
   obtain ⟨h1,rfl⟩:=List.getElem?_eq_some_iff.1 hx
   exact (List.pairwise_iff_getElem.1 h) j i h1 hil hj
  generalize L[i] = y at g2 t2 m2 hpi
  have hsz:(bs y).size = y.length:=rfl
  have no:¬ (Rises L∧∀ k ∈ L,KeyOk k)→HG B Γ (zBS.s2 Q k' s s (s.n:Int) (i:Int) true):=fun hn=>by
   rw [decide_eq_false hn] at h
   unfold zBS.s2
   exact s_t h
  refine s_idxS hr g2 ?_
  rw [zBp]
  refine s_ite (fun hc=>?_) fun hc=>?_
  ·refine no fun hh=>?_
   have:y = []:=by simpa using hc
   have:=(hh.2 y m2).1
   simp_all
  have hy1:1 ≤ y.length:=by
   have:y ≠ []:=by simpa using hc
   exact List.length_pos_iff.2 this
  refine s_ite (fun hd=>?_) fun hd=>?_
  ·refine no fun hh=>?_
   have:=(hh.2 y m2).2
   simp only [decide_eq_true_eq] at hd; omega
  have hy16:y.length ≤ 16:=by simp only [decide_eq_false_iff_not] at hd; omega
  have yes:Rises (L.take (i + 1))→HG B Γ (zBS.s2 Q k' s s (s.n:Int) (i:Int) false):=fun hp2=>by
   unfold zBS.s2
   refine s_f ?_
   refine s_ai ?_
   refine hk' _ ⟨i + 1,by simp,hil,hp2,fun k hk=>?_⟩ (by omega)
   rw [t2] at hk
   rcases List.mem_append.1 hk with hk | hk
   ·exact hks k hk
   ·rw [List.mem_singleton.1 hk]; exact ⟨hy1,hy16⟩
  refine s_ite (fun he=>?_) fun he=>?_
  ·obtain ⟨j,rfl⟩:∃ j,i = j + 1:=⟨i - 1,by simp only [decide_eq_true_eq] at he; omega⟩
   have g1:L[j]? = some L[j]:=List.getElem?_eq_getElem (by omega)
   have t1:L.take (j + 1) = L.take j++[L[j]]:=List.take_succ_eq_append_getElem (by omega)
   have hxy:=hpi j _ g1 (by omega)
   generalize L[j] = x at g1 t1 hxy
   refine s_ai ?_
   refine s_idxS hr g1 ?_ (by omega)
   rw [zBp,zD3]
   by_cases hlt:x < y
   ·rw [decide_eq_true hlt]
    refine yes ?_
    rw [t2]
    refine List.pairwise_append.2 ⟨hp,List.pairwise_singleton _ _,fun a ha b hb=>?_⟩
    rw [List.mem_singleton.1 hb]
    rw [t1] at ha hp
    rcases List.mem_append.1 ha with ha | ha
    ·exact List.lt_trans ((List.pairwise_append.1 hp).2.2 a ha x (by simp)) hlt
    ·rw [List.mem_singleton.1 ha]; exact hlt
   ·rw [decide_eq_false hlt]
    exact no fun hh=>hlt (hxy hh.1)
  ·have hi0:i = 0:=by simp only [decide_eq_false_iff_not] at he; omega
   subst hi0
   refine yes ?_
   rw [t2]; simp
 ·have hil:i = L.length:=by simp only [decide_eq_false_iff_not] at hb; omega
  rw [hil,List.take_length] at hp hks
  rw [decide_eq_true (show Rises L∧∀ k ∈ L,KeyOk k from ⟨hp,hks⟩)] at h
  exact h
theorem zTD {t:TxX} {x:OpX} {Q:Bool→K} (hr:∀ w,Holds B Γ w→txRd w t) (hl:t.reads.length < 10000000∧t.writes.length < 10000000) (hx:∀ w,Holds B Γ w→RdB w x.2 x.1.val) (h:HG B Γ (Q (opRight t x.1))):HG B Γ (zAi.call (txL t).toArray (opF x).toArray Q):=fun w hw=>by
 refine zNp _ _ _ _ ?_
 have hxl:x.2.n = x.1.val.length:=by have:=(hx w hw).len; simpa using this.symm
 refine Sep.hg hw ?_
 clear hw w
 unfold zAi
 refine s_new fun t2=>?_
 refine s_new fun o3=>?_
 have fin:HG B (blk o3 (.cells (opF x).toArray zA8 (0,0))::blk t2 (.cells (txL t).toArray zAp (0,0))::Γ) (Q (stepOk t x.1)):=by rw [zQl]; exact s_end h
 generalize hR:stepOk t x.1 = R at fin
 unfold stepOk at hR
 have hlen:decide ((x.2.n:Int) = 0) = decide (x.1.val.length = 0):=decide_eq_decide.2 (by omega)
 have S2:∀ w k:Bool,w = decide (x.1.key ∈ t.writes)→k = decide (x.1.key ∈ t.reads++t.writes)→¬ (32 < x.1.val.length∨(x.1.n ≠ 0∧x.1.kind ≠ 6))→HG B (blk o3 (.cells (opF x).toArray zA8 (0,0))::blk t2 (.cells (txL t).toArray zAp (0,0))::Γ) (zAi.s2 Q ⟨o3,0,none⟩ w k):=fun w k hw hk hn=>by
  rw [if_neg hn,← hw,← hk] at hR
  unfold zAi.s2
  repeat refine s_nx ?_
  refine s_ite (fun h2=>?_) fun h2=>?_
  ·rw [if_pos (by simpa using h2)] at hR
   rw [hR]; exact fin
  have h2':¬ x.1.kind = 2:=by simpa using h2
  rw [if_neg h2'] at hR
  have S3t:x.1.kind = 3∨x.1.kind = 6→HG B (blk o3 (.cells (opF x).toArray zA8 (0,0))::blk t2 (.cells (txL t).toArray zAp (0,0))::Γ) (zAi.s3 Q ⟨o3,0,none⟩ w k x.1.kind true):=fun h36=>by
   rw [if_pos h36] at hR
   unfold zAi.s3 zAi.s4
   refine s_t ?_
   refine s_ite (fun hb=>?_) fun hb=>?_
   ·rw [hb,Bool.true_and] at hR
    repeat refine s_nx ?_
    rw [hlen,hR]; exact fin
   ·rw [hb,Bool.false_and] at hR
    rw [hR]; exact fin
  refine s_ite (fun h3=>?_) fun h3=>?_
  ·rw [show decide (x.1.kind = 3) = true from h3]
   exact S3t (.inl (by simpa using h3))
  have h3':¬ x.1.kind = 3:=by simpa using h3
  by_cases h6:x.1.kind = 6
  ·rw [decide_eq_true h6]
   exact S3t (.inr h6)
  rw [decide_eq_false h6]
  rw [if_neg (by omega)] at hR
  unfold zAi.s3
  refine s_f ?_
  refine s_ite (fun h4=>?_) fun h4=>?_
  ·rw [if_pos (by simpa using h4)] at hR
   rw [hR]; exact fin
  have h4':¬ x.1.kind = 4:=by simpa using h4
  rw [if_neg h4'] at hR
  have S5t:x.1.kind = 1∨x.1.kind = 5→HG B (blk o3 (.cells (opF x).toArray zA8 (0,0))::blk t2 (.cells (txL t).toArray zAp (0,0))::Γ) (zAi.s5 Q ⟨o3,0,none⟩ k x.1.kind true):=fun h15=>by
   rw [if_pos h15] at hR
   unfold zAi.s5 zAi.s6
   refine s_t ?_
   refine s_ite (fun hb=>?_) fun hb=>?_
   ·rw [hb,Bool.true_and] at hR
    repeat refine s_nx ?_
    rw [hlen,hR]; exact fin
   ·rw [hb,Bool.false_and] at hR
    rw [hR]; exact fin
  refine s_ite (fun h1=>?_) fun h1=>?_
  ·rw [show decide (x.1.kind = 1) = true from h1]
   exact S5t (.inl (by simpa using h1))
  have h1':¬ x.1.kind = 1:=by simpa using h1
  by_cases h5:x.1.kind = 5
  ·rw [decide_eq_true h5]
   exact S5t (.inr h5)
  rw [decide_eq_false h5]
  rw [if_neg (by omega)] at hR
  unfold zAi.s5
  refine s_f ?_
  refine s_ite (fun h7=>?_) fun h7=>?_
  ·rw [if_pos (by simpa using h7)] at hR
   repeat refine s_nx ?_
   rw [zBp]
   rw [show (x.1.key == (⟨#[]⟩:ByteArray).toList) = R by rw [← hR]; cases x.1.key <;> simp]
   exact fin
  ·rw [if_neg (by simpa using h7)] at hR
   rw [hR]; exact fin
 have S1:∀ b,(b = true ↔ 32 < x.1.val.length∨(x.1.n ≠ 0∧x.1.kind ≠ 6))→HG B (blk o3 (.cells (opF x).toArray zA8 (0,0))::blk t2 (.cells (txL t).toArray zAp (0,0))::Γ) (zAi.s1 Q ⟨t2,0,none⟩ ⟨o3,0,none⟩ b):=fun b hb=>by
  unfold zAi.s1
  refine s_ite (fun hb1=>?_) fun hb1=>?_
  ·rw [if_pos (hb.1 hb1)] at hR
   rw [hR]; exact fin
  have hn:¬ (32 < x.1.val.length∨(x.1.n ≠ 0∧x.1.kind ≠ 6)):=fun h=>by rw [hb.2 h] at hb1; cases hb1
  repeat refine s_nx ?_
  refine zGm (L:=t.writes) (key:=x.1.key) (by omega) (fun w hw=>(hr w hw.drops).2.1) ?_
  by_cases hw1:x.1.key ∈ t.writes
  ·rw [decide_eq_true hw1]
   refine s_t ?_
   exact S2 true true (by simp [hw1]) (by simp [hw1]) hn
  rw [decide_eq_false hw1]
  refine s_f ?_
  repeat refine s_nx ?_
  refine zGm (L:=t.reads) (key:=x.1.key) (by omega) (fun w hw=>(hr w hw.drops).1) ?_
  exact S2 false _ (by simp [hw1]) (by simp [hw1]) hn
 repeat refine s_nx ?_
 refine s_ite (fun hb=>?_) fun hb=>?_
 ·exact S1 true (by
           have:32 < x.1.val.length:=by simp only [decide_eq_true_eq] at hb; omega
           simp [this])
 have h32:¬ 32 < x.1.val.length:=by simp only [decide_eq_false_iff_not] at hb; omega
 repeat refine s_nx ?_
 refine s_ite (fun hc=>?_) fun hc=>?_
 ·have hc':x.1.n ≠ 0:=by simpa using hc
  repeat refine s_nx ?_
  exact S1 _ (by simp [h32,hc'])
 ·have hc':x.1.n = 0:=by simpa using hc
  exact S1 _ (by simp [h32,hc'])
abbrev dfV (b:Nat):Value:=.func (.func 170) #[] #[.pointer (some ⟨b,0,none⟩)]
abbrev cfV (b:Nat):Value:=.func (.func 115) #[] #[.pointer (some ⟨b,0,none⟩)]
theorem zOI {t:TxX} {Q:Bool→K} (hr:∀ w,Holds B Γ w→txRd w t) (hl:t.reads.length < 10000000∧t.writes.length < 10000000) (h:HG B Γ (Q (decide (DeclOk t)))):HG B Γ (zBc.call (txL t).toArray Q):=fun w hw=>by
 refine zJ1 _ _ _ ?_
 obtain ⟨n1,n2,n3⟩:=zJH (hr w hw)
 refine Sep.hg hw ?_
 clear hw w
 unfold zBc
 refine s_new fun t1=>?_
 have no:¬ DeclOk t→HG B (blk t1 (.cells (txL t).toArray zAp (0,0))::Γ) (zBc.s1 Q ⟨t1,0,none⟩ true):=fun hn=>by
  rw [decide_eq_false hn] at h
  unfold zBc.s1
  exact s_t (s_end h)
 repeat refine s_nx ?_
 refine s_ite (fun hb=>no fun hd=>by have:=hd.1; simp only [decide_eq_true_eq] at hb; omega) fun hb=>?_
 have hr8:t.reads.length ≤ 8:=by simp only [decide_eq_false_iff_not] at hb; omega
 repeat refine s_nx ?_
 refine s_ar (e':=8 - (t.rs.n:Int)) (by rw [wrap64 (by omega) (by omega)]) ?_
 refine s_ite (fun hb2=>no fun hd=>by have:=hd.2.1; simp only [decide_eq_true_eq] at hb2; omega) fun hb2=>?_
 have hw8:t.writes.length ≤ 8 - t.reads.length:=by simp only [decide_eq_false_iff_not] at hb2; omega
 repeat refine s_nx ?_
 refine zNq (L:=t.reads) (by omega) (fun w hw=>(hr w hw.drops).1) ?_
 by_cases hr1:Rises t.reads∧∀ k ∈ t.reads,KeyOk k
 rotate_left
 ·rw [decide_eq_false hr1]
  exact s_t (no fun hd=>hr1 hd.2.2.1)
 rw [decide_eq_true hr1]
 refine s_f ?_
 repeat refine s_nx ?_
 refine zNq (L:=t.writes) (by omega) (fun w hw=>(hr w hw.drops).2.1) ?_
 by_cases hr2:Rises t.writes∧∀ k ∈ t.writes,KeyOk k
 rotate_left
 ·rw [decide_eq_false hr2]
  exact no fun hd=>hr2 hd.2.2.2.1
 rw [decide_eq_true hr2]
 unfold zBc.s1
 refine s_f ?_
 repeat refine s_nx ?_
 have ok:decide (DeclOk t) = !(t.reads.any fun k=>decide (k ∈ t.writes)):=by
  rw [Bool.eq_iff_iff]
  simp only [decide_eq_true_eq,Bool.not_eq_true',List.any_eq_false]
  constructor
  ·exact fun hd=>fun k hk=>hd.2.2.2.2 k hk
  ·exact fun ha=>⟨hr8,hw8,hr1,hr2,fun k hk=>by simpa using ha k hk⟩
 rw [ok] at h
 refine fun w hw=>zEB _ _ _ _ ?_
 refine Sep.hg hw ?_
 clear hw w
 unfold zBY
 refine fun w hw=>zEh _ _ _ _ ?_
 refine Sep.hg hw ?_
 clear hw w
 show HG B _ (idxFK Tryz.prog (acc1 Value.string) t.rs (dfV t1) _)
 refine zG4 (vV:=fun x:TX=>strV x) (L:=t.reads) (fun k=>decide (k ∈ t.writes)) n1 (by omega) (fun i x k hx hk=>s_idxS (fun w hw=>(hr w hw.drops).1) hx hk) (fun x q _ hq=>?_) ?_
 ·refine zEt (cs:=[.pointer (some ⟨t1,0,none⟩)]) ?_
  refine fun w hw=>zIh _ _ _ _ ?_
  refine Sep.hg hw ?_
  clear hw w
  unfold zEC
  repeat refine s_nx ?_
  refine zGm (L:=t.writes) (key:=x) (by omega) (fun w hw=>(hr w hw.drops).2.1) ?_
  exact hq
 ·rw [zGk,zLJ]
  exact s_end h
theorem zR9 {t:TxX} {n:Int} {Q:Int→K} (hr:∀ w,Holds B Γ w→txRd w t) (hl:t.reads.length < 10000000∧t.writes.length < 10000000∧t.ops.length < 10000000) (h:HG B Γ (Q (if rightT n t then 0 else 1))):HG B Γ (zAx.call (txL t).toArray n Q):=fun w hw=>by
 refine zMe _ _ _ _ ?_
 obtain ⟨n1,n2,n3⟩:=zJH (hr w hw)
 refine Sep.hg hw ?_
 clear hw w
 unfold zAx
 refine s_new fun t2=>?_
 have S2:∀ b,b = rightT n t→HG B (blk t2 (.cells (txL t).toArray zAp (0,0))::Γ) (zAx.s2 Q b):=fun b hb=>by
  unfold zAx.s2
  rw [← hb] at h
  refine s_ite (fun hc=>?_) fun hc=>?_
  ·have:b = false:=by simpa using hc
   rw [this] at h
   exact s_end h
  ·have:b = true:=by simpa using hc
   rw [this] at h
   exact s_end h
 have S1:∀ b,(b = true ↔ ¬ headBad n t∧¬ keysBad t)→HG B (blk t2 (.cells (txL t).toArray zAp (0,0))::Γ) (zAx.s1 Q n ⟨t2,0,none⟩ b):=fun b hb=>by
  have hR:rightT n t = (b && if t.kind = 2 then decide (t.reads.length = 0) && (decide (t.ops.length = 0) && (decide (t.writes.length = 1) && (decide (0 ≤ t.to) && decide (t.to < n))))
    else if t.kind ≠ 1∨t.to ≠ 0∨16 < t.ops.length then false else t.ops.all fun x=>opRight t x.1):=by
   unfold rightT
   cases b with
   | true =>
    obtain ⟨h1,h2⟩:=hb.1 rfl
    rw [if_neg h1,if_neg h2,Bool.true_and]
   | false =>
    rw [Bool.false_and]
    by_cases h1:headBad n t
    ·rw [if_pos h1]
    ·rw [if_neg h1]
     by_cases h2:keysBad t
     ·rw [if_pos h2]
     ·exact absurd (hb.2 ⟨h1,h2⟩) (by simp)
  unfold zAx.s1
  repeat refine s_nx ?_
  refine s_ite (fun hk1=>?_) fun hk1=>?_
  ·have hk1':t.kind = 1:=by simpa using hk1
   rw [if_neg (by omega)] at hR
   refine s_ite (fun hb1=>?_) fun hb1=>?_
   rotate_left
   ·exact S2 _ (by rw [hR,hb1]; rfl)
   rw [hb1,Bool.true_and] at hR
   repeat refine s_nx ?_
   refine s_ite (fun hto=>?_) fun hto=>?_
   rotate_left
   ·have:t.to ≠ 0:=by simpa using hto
    exact S2 _ (by rw [hR,if_pos (.inr (.inl this))])
   have hto':t.to = 0:=by simpa using hto
   repeat refine s_nx ?_
   refine s_ite (fun ho=>?_) fun ho=>?_
   rotate_left
   ·have:16 < t.ops.length:=by simp only [decide_eq_false_iff_not] at ho; omega
    exact S2 _ (by rw [hR,if_pos (.inr (.inr this))])
   have ho':¬ 16 < t.ops.length:=by simp only [decide_eq_true_eq] at ho; omega
   rw [if_neg (by rintro (g | g | g) <;> contradiction)] at hR
   repeat refine s_nx ?_
   refine fun w hw=>zEA _ _ _ _ ?_
   refine Sep.hg hw ?_
   clear hw w
   unfold zBX
   refine fun w hw=>zEg _ _ _ _ ?_
   refine Sep.hg hw ?_
   clear hw w
   show HG B _ (idxFK Tryz.prog (accN 4) t.os (cfV t2) _)
   refine zG4 (vV:=fun x=>.agg (opF x).toArray) (L:=t.ops) (fun x=>!opRight t x.1) n3 (by omega) (fun i x k hx hk=>acc_rd zDF (by omega) (fun w hw=>(hr w hw.drops).2.2.1) hx hk) (fun x q hx hq=>?_) ?_
   ·refine zEt (cs:=[.pointer (some ⟨t2,0,none⟩)]) ?_
    refine fun w hw=>zKg _ _ _ _ ?_
    refine Sep.hg hw ?_
    clear hw w
    unfold zFI
    refine s_new fun o2=>?_
    repeat refine s_nx ?_
    refine zTD (t:=t) (x:=x) (fun w hw=>hr w hw.drops) ⟨by omega,by omega⟩ (fun w hw=>(hr w hw.drops).2.2.2 x hx) ?_
    exact s_end hq
   ·rw [zGk,zLJ]
    refine S2 _ ?_
    rw [hR,List.all_eq_not_any_not]
  have hk1':¬ t.kind = 1:=by simpa using hk1
  refine s_ite (fun hk2=>?_) fun hk2=>?_
  rotate_left
  ·have hk2':¬ t.kind = 2:=by simpa using hk2
   rw [if_neg hk2',if_pos (.inl hk1'),Bool.and_false] at hR
   exact S2 _ hR.symm
  have hk2':t.kind = 2:=by simpa using hk2
  rw [if_pos hk2'] at hR
  refine s_ite (fun hb1=>?_) fun hb1=>?_
  rotate_left
  ·exact S2 _ (by rw [hR,hb1]; rfl)
  rw [hb1,Bool.true_and] at hR
  repeat refine s_nx ?_
  refine s_ite (fun he=>?_) fun he=>?_
  rotate_left
  ·refine S2 _ ?_
   rw [hR,show decide (t.reads.length = 0) = false from decide_eq_false (by simp only [decide_eq_false_iff_not] at he; omega)]; rfl
  rw [show decide (t.reads.length = 0) = true from decide_eq_true (by simp only [decide_eq_true_eq] at he; omega),Bool.true_and] at hR
  repeat refine s_nx ?_
  refine s_ite (fun he2=>?_) fun he2=>?_
  rotate_left
  ·refine S2 _ ?_
   rw [hR,show decide (t.ops.length = 0) = false from decide_eq_false (by simp only [decide_eq_false_iff_not] at he2; omega)]; rfl
  rw [show decide (t.ops.length = 0) = true from decide_eq_true (by simp only [decide_eq_true_eq] at he2; omega),Bool.true_and] at hR
  repeat refine s_nx ?_
  refine s_ite (fun he3=>?_) fun he3=>?_
  rotate_left
  ·refine S2 _ ?_
   rw [hR,show decide (t.writes.length = 1) = false from decide_eq_false (by simp only [decide_eq_false_iff_not] at he3; omega)]; rfl
  rw [show decide (t.writes.length = 1) = true from decide_eq_true (by simp only [decide_eq_true_eq] at he3; omega),Bool.true_and] at hR
  repeat refine s_nx ?_
  refine s_ite (fun he4=>?_) fun he4=>?_
  rotate_left
  ·refine S2 _ ?_
   rw [hR,he4]; rfl
  rw [he4,Bool.true_and] at hR
  repeat refine s_nx ?_
  exact S2 _ hR.symm
 refine s_ite (fun hb=>?_) fun hb=>?_
 rotate_left
 ·have:n < 1:=by simp only [decide_eq_false_iff_not] at hb; omega
  exact S1 _ (by simp [headBad,this])
 have hn1:1 ≤ n:=by simpa using hb
 refine s_ite (fun hb=>?_) fun hb=>?_
 rotate_left
 ·have:3 < n:=by simp only [decide_eq_false_iff_not] at hb; omega
  exact S1 _ (by simp [headBad,this])
 have hn3:n ≤ 3:=by simpa using hb
 repeat refine s_nx ?_
 refine zOI (t:=t) (fun w hw=>hr w hw.drops) ⟨by omega,by omega⟩ ?_
 exact S1 _ (by rw [decide_eq_true_eq]; exact zR8 hn1 hn3)
end
end Go.Proofs.YtdemfamgieonbaaGreat
namespace Go.Proofs.YtdemfamgieonbaaGreat
open Go Go.Sep Go.Sep.Bt
set_option maxRecDepth 100000
structure MkX where
 key:TX
 home:Int
 cnt:Int
deriving DecidableEq
abbrev mkL (m:MkX):List Value:=[strV m.key,.int .i64 m.home,.int .u64 m.cnt]
theorem zDv (m:MkX):(mkL m).length = 3:=rfl
theorem zSA (L:List MkX):∀ v ∈ L.flatMap mkL,flatV v = true:=fun v hv=>by
 obtain ⟨x,_,hx⟩:=List.mem_flatMap.1 hv
 simp only [mkL,List.mem_cons,List.not_mem_nil,or_false] at hx
 rcases hx with rfl | rfl | rfl <;> rfl
abbrev mkOf (n:Nat) (M:Recs) (k:TX):MkX:=⟨k,(sGet n M (bs k)).home,(sGet n M (bs k)).cnt⟩
def mksOf (n:Nat) (M:Recs) (ks:List TX):List MkX:=ks.map (mkOf n M)
abbrev tgL (a b c d:Int):List Value:=[.int .i64 a,.int .u64 b,.int .u64 c,.int .i64 d]
abbrev orL (a b c d:Int) (t:TxX) (ms:Sl):List Value:=[.int .i64 a,.int .u64 b,.int .u64 c,.int .i64 d,.int .i64 t.kind,t.rs.val,t.ws.val,t.os.val,.int .i64 t.to,ms.val]
theorem zSB {t:TxX} (h:¬ GreatP t):t.reads.length ≤ 40∧t.writes.length ≤ 40∧t.ops.length ≤ 60∧(∀ x ∈ t.reads++t.writes,x.length ≤ 200)∧∀ x ∈ t.ops,x.1.key.length ≤ 200∧x.1.val.length ≤ 200:=by
 simp only [GreatP,not_or,Nat.not_lt,not_exists,not_and] at h
 obtain ⟨h1,h2,h3,h4,h5,h6⟩:=h
 refine ⟨h1,h2,h3,fun x hx=>?_,fun x hx=>⟨(h6 x hx).1,(h6 x hx).2⟩⟩
 rcases List.mem_append.1 hx with hx | hx
 ·exact h4 x hx
 ·exact h5 x hx
section
variable {B:World} {Γ Δ:List HProp} {k:K} {st sd n:Nat} {M:Recs}
theorem s_nilS {E esz:Nat} {vs:List Value} (h:HG B (SlC E esz ⟨none,0,0⟩ vs::Γ) k) (hv:vs = []:=by rfl):HG B Γ k:=fun w hw=>h w (by rw [hv]; exact hw.nilSl E esz)
theorem zSC {t:TxX} {Q:Sl→K} (hr:∀ w,Holds B Γ w→txRd w t) (hl:t.reads.length ≤ 1000∧t.writes.length ≤ 1000) (hk:∀ x ∈ t.reads++t.writes,x.length ≤ 1000)
  (h:∀ s,HG B (SlC zBG 3 s ((mksOf n M (keysT (t.reads++t.writes))).flatMap mkL)::StoreR st n M::Γ) (Q s)):HG B (StoreR st n M::Γ) (zCt.call (some ⟨st,0,none⟩) (txL t).toArray Q):=fun w hw=>by
 refine zLH _ _ _ _ ?_
 refine Sep.hg hw ?_
 clear hw w
 have hks:∀ x ∈ keysT (t.reads++t.writes),x.length ≤ 1000:=fun x hx=>hk x (zIf.1 hx)
 have hkl:=zGd (t.reads++t.writes)
 rw [List.length_append] at hkl
 unfold zCt
 refine s_new fun t3=>?_
 repeat refine s_nx ?_
 refine zLW (fun w hw=>(hr w hw.drops).1) (fun w hw=>(hr w hw.drops).2.1) (by omega) (by omega) fun ks=>?_
 generalize keysT (t.reads++t.writes) = K at hks hkl h ⊢
 refine s_nilS (E:=zBG) (esz:=3) (vs:=([]:List MkX).flatMap mkL) ?_
 refine s_cap ks fun a1 a2 a3 a4=>?_
 rw [List.length_map,Nat.mul_one] at a1
 refine s_end (Δ:=SlC zBG 3 ⟨none,0,0⟩ (([]:List MkX).flatMap mkL)::SlS ks K::StoreR st n M::Γ) ?_
 refine s_loop (α:=Sl×Int) (ι:=Nat) (fun x i=>x.2 = (i:Int)∧i ≤ K.length) (fun x i=>SlC zBG 3 x.1 ((mksOf n M (K.take i)).flatMap mkL)::SlS ks K::StoreR st n M::Γ) (fun x i=>K.length - i) 0 ⟨rfl,Nat.zero_le _⟩ ?_
 rintro k' ⟨o,_⟩ i ⟨rfl,hi⟩ hk'
 simp only at hi hk' ⊢
 refine s_cap o fun b1 b2 b3 b4=>?_
 rw [zAT _ 3 zDv,mksOf,List.length_map,List.length_take] at b1
 unfold zCt.b1
 refine s_ite (fun hb=>?_) fun hb=>?_
 ·have hil:i < K.length:=by simp only [decide_eq_true_eq] at hb; omega
  have hge:K[i]? = some K[i]:=List.getElem?_eq_getElem hil
  have hmem:K[i] ∈ K:=List.getElem_mem hil
  have htk:K.take (i + 1) = K.take i++[K[i]]:=List.take_succ_eq_append_getElem hil
  generalize K[i] = x at hge hmem htk
  have hxl:=hks x hmem
  have hsz:(bs x).size = x.length:=rfl
  refine s_idxS (L:=K) (fun w hw=>(own_rd (s:=ks) hw).1) hge ?_
  refine s_own st ?_
  refine zC8 (by omega) fun sl hok=>?_
  refine s_new fun r7=>?_
  refine s_stN (b:=r7) (l':=recL (sGet n M (bs x)) sl) ?_
  repeat refine s_nx ?_
  refine s_app1 (s:=o) (m:=1) (us:=[.string (bs x),.int .i64 (sGet n M (bs x)).home,.int .u64 (sGet n M (bs x)).cnt]) (fun o2 ho2=>?_)
  refine s_ai ?_
  rw [show (mksOf n M (K.take i)).flatMap mkL++[.string (bs x),.int .i64 (sGet n M (bs x)).home,.int .u64 (sGet n M (bs x)).cnt] = (mksOf n M (K.take (i + 1))).flatMap mkL by rw [htk]; simp [mksOf]]
  exact s_end (hk' (o2,(i:Int) + 1) (i + 1) ⟨by simp,hil⟩ (by omega))
 ·have hil:i = K.length:=by simp only [decide_eq_false_iff_not] at hb; omega
  rw [hil,List.take_length]
  exact s_end (h o)
theorem zTE {t:TxX} {a b c d:Int} {Q:Array Value→K} (hr:∀ w,Holds B Γ w→txRd w t) (hl:t.reads.length ≤ 1000∧t.writes.length ≤ 1000∧t.ops.length ≤ 1000∧∀ x ∈ t.ops,x.1.val.length ≤ 1000000) (hk:∀ x ∈ t.reads++t.writes,x.length ≤ 1000)
  (h:∀ t' ms,TxIs t' t→HG B (SlC zBG 3 ms ((mksOf n M (keysT (t.reads++t.writes))).flatMap mkL)::StoreR st n M::txC t' Γ) (Q (orL a b c d t' ms).toArray)) :
  HG B (StoreR st n M::Γ) (zEa.call (some ⟨st,0,none⟩) (tgL a b c d).toArray (txL t).toArray Q):=fun w hw=>by
 refine zMY _ _ _ _ _ ?_
 refine Sep.hg hw ?_
 clear hw w
 unfold zEa
 refine s_new fun tag4=>?_
 refine s_new fun t5=>?_
 refine s_new fun t6=>?_
 repeat refine s_nx ?_
 refine zO7 (t:=t) (fun w hw=>hr w hw.drops) hl fun t' ht'=>?_
 repeat refine s_nx ?_
 refine s_own st ?_
 refine zSC (t:=t) (fun w hw=>hr w hw.drops) ⟨hl.1,hl.2.1⟩ hk fun ms=>?_
 repeat refine s_nx ?_
 exact s_end (h t' ms ht')
end
end Go.Proofs.YtdemfamgieonbaaGreat
namespace Go.Sep
open Go
section
variable {P:Program} {σ:List (Nat×Value)} {o:Oper} {w w':World} {v:Value} {x y z:Operand} {T:TypeId}
theorem zGn {vx vy:Value} (ho:o.op = .mapEntry T x y) (hx:ev σ x = some vx) (hy:ev σ y = some vy):∀ v w w',(Instr.mapEntry T vx vy).run P w = .ok v w'→Eff P σ o w (.value v) w':=fun v w w' hr _ _ hs=>by
 simp [execOp,ho,hs.ev hx,hs.ev hy,hr]
theorem zFx {vx vy vz:Value} (ho:o.op = .entryStore T x y z) (hx:ev σ x = some vx) (hy:ev σ y = some vy) (hz:ev σ z = some vz):∀ u w w',(Instr.entryStore T vx vy vz).run P w = .ok u w'→Eff P σ o w .skip w':=fun u w w' hr _ _ hs=>by
 simp [execOp,ho,hs.ev hx,hs.ev hy,hs.ev hz,hr]
theorem we_do2 {α β:Type} {sem:Sem Value} {c:α→β→Value} {kx:α→β→K} (hs:∀ v w w',sem.run P w = .ok v w'→Eff P σ o w (.value v) w'):WE P σ o (Do2 P sem c kx) (fun u=>u) (fun u=>Ans2 c kx u):=fun w ⟨t,u,w',hd,h⟩=>⟨c t u,w',hs _ _ _ hd,t,u,rfl,h⟩
end
section
variable {P:Program} {dl:List Deferred} {n:Nat} {σ:List (Nat×Value)} {k:K} {ops:Array Oper} {Q:Exit→Act→World→Prop} {o:Oper} {S:World→Prop} {ds done:List Nat} {i d:Nat} {t:Scr}
theorem ox_e2 {kk kS:Value→K} (h:∀ u,G dl n ((d,u)::σ) (Al S (kS u)) (Dx P ops Q S ds (i::done) t)) (hi:ops[i]? = some o:=by rfl) (hd:o.dst = some d:=by rfl) (hw:wants ops σ o = some true:=by rfl) (hp:WE P σ o k (fun u=>u) kk)
  (hS:SvA S kk kS) (hn:Nat.ble (d + 1) n = true:=by rfl) (nd:isDef o.op = false:=by rfl):G dl n σ (Al S k) (Ox P ops Q S ds done i 1 t):=fun a w hs ⟨_,hk⟩=>by
 obtain ⟨x,w',hp,h'⟩:=hp w hk
 refine ox_run hs hi hw fun hQ=>(zDn (r:=none) hs nd hp ⟨fun _ _ _=>(hS x w' h').1,?_⟩)
 rw [hd,dn_len (m:=0)]; exact h x _ w' (hs.put (Nat.le_of_ble_eq_true hn) _) (hS x w' h') hQ
end
set_option maxRecDepth 100000 in
theorem zTF {P:Program} {f:FuncId} {fn:Func} {c:Code} {args:List Value} {kk:Value→K} {k:K} (n:Nat) {w:World} (hk:k w) (hf:P.funcs[f]? = some fn) (hb:fn.body = some c:=by rfl) (hn:fn.ntmps = n:=by rfl) (hl:Nat.ble args.length n = true:=by rfl)
  (h:G [] n (numb 0 args) k (Cx none P c (bodyPostT P fn (Ret kk))):=by
   repeat' first
   | intro _
   | (refine is_tx ?_; first
     | refine tx_nil ?_
     | (refine is_gd ?_ rfl; first | refine tx_no ?_ | refine tx_no' ?_)
     | (refine is_t 0 ?_ rfl; refine tx_p (hp:=by exact au_p0) ?_)
     | (refine is_t 2 ?_ rfl; first | refine tx_p (hp:=by exact au_p2) ?_ | (refine gx_nn ?_; intro b hb; subst hb) | (refine gx_fv ?_; intro g fs cs hf cb; subst hf))
     | (refine is_t 3 ?_ rfl; refine tx_p (hp:=by exact au_p3) ?_)
     | (refine is_t 13 ?_ rfl; refine tx_wr (hp:=by exact zCH) ?_)
     | (refine is_t 19 ?_ rfl; first | (refine tx_wc (hp:=by exact zCK) ?_; intro u; first | refine an_1 ?_ | refine an_0 ?_ | refine an_2 ?_ | refine an_3 ?_ | refine an_4 ?_ | refine an_5 ?_) | refine tx_wr (hp:=by exact wr_rd (e_ext' rfl rfl rfl)) ?_ | (refine tx_wcn (hp:=by exact zCK) ?_; intro u; first | refine am_0 ?_ | refine am_1 ?_ | refine am_2 ?_ | skip) | (refine tx_wy ?_; intro u; first | refine an_1 ?_ | refine an_0 ?_ | refine an_2 ?_ | refine an_3 ?_ | refine an_4 ?_ | refine an_5 ?_))
     | (refine is_t 10 ?_ rfl; first | refine tx_p (hp:=by exact au_p10) ?_ | refine tx_wp (hp:=by exact zCz) ?_)
     | (refine is_t 8 ?_ rfl; refine tx_wp (hp:=by exact au_wp8) ?_)
     | (refine is_t 20 ?_ rfl; first | refine tx_p (hp:=by exact au_p20) ?_ | refine tx_wr (hp:=by exact zCI) ?_)
     | (refine is_t 27 ?_ rfl; refine tx_wp (hp:=by exact zC4) ?_)
     | (refine is_t 4 ?_ rfl; first | refine tx_p (hp:=by exact au_p4) ?_ | refine tx_wp (hp:=by exact au_wp4) ?_)
     | (refine is_t 17 ?_ rfl; refine tx_wk (hp:=by exact zDe) ?_)
     | (refine is_t 1 ?_ rfl; refine tx_p (hp:=by exact au_p1) ?_)
     | (refine is_t 6 ?_ rfl; refine tx_p (hp:=by exact au_p6) ?_)
     | (refine is_t 15 ?_ rfl; refine tx_we (hp:=by exact zDa) ?_)
     | (refine is_t 16 ?_ rfl; refine tx_we (hp:=by exact zDb) ?_)
     | (refine is_t 22 ?_ rfl; first | refine tx_we (hp:=by exact zBs) ?_ | refine tx_wen (hp:=by exact zBs) ?_)
     | (refine is_t 28 ?_ rfl; refine tx_wp (hp:=by exact zC5) ?_)
     | (refine is_t 11 ?_ rfl; first | refine tx_wp (hp:=by exact zC0) ?_ | refine tx_p (hp:=by exact au_p11) ?_ | refine tx_wr (hp:=by exact zCG) ?_ | refine tx_we (hp:=by exact zDZ) ?_)
     | (refine is_t 26 ?_ rfl; first | refine tx_wp (hp:=by exact zC3) ?_ | refine tx_p (hp:=by exact au_p26) ?_)
     | (refine is_t 12 ?_ rfl; first | refine tx_wp (hp:=by exact zC1) ?_ | refine tx_p (hp:=by exact au_p12) ?_)
     | (refine is_t 5 ?_ rfl; refine tx_p (hp:=by exact au_p5) ?_)
     | (refine is_t 7 ?_ rfl; refine tx_wp (hp:=by exact au_wp7) ?_)
     | (refine is_t 9 ?_ rfl; refine tx_wp (hp:=by exact au_wp9) ?_)
     | (refine is_t 14 ?_ rfl; first | refine tx_wr (hp:=by exact wr_rd (zAX rfl rfl rfl)) ?_ | (refine tx_wr (hp:=by exact wr_rd2 (zAX rfl rfl rfl)) ?_; intro u; refine an_2 ?_))
     | (refine is_t 18 ?_ rfl; refine tx_wk (hp:=by exact zDf) ?_)
     | (refine is_t 99 ?_ rfl; refine tx_we (hp:=by exact we_do2 (zGn rfl rfl rfl)) ?_; intro u; refine an_2 ?_)
     | (refine is_t 99 ?_ rfl; refine tx_wk (hp:=by exact wk_do (zFx rfl rfl rfl rfl)) ?_)
     | (refine is_t 21 ?_ rfl; refine tx_wp (hp:=by exact zC2) ?_)
     | (refine is_t 23 ?_ rfl; refine tx_we (hp:=by exact zDc) ?_)
     | (refine is_t 24 ?_ rfl; refine tx_we (hp:=by exact zDd) ?_)
     | (refine is_t 25 ?_ rfl; refine tx_wr (hp:=by exact zCJ) ?_)
     | (refine tx_ite ?_ ?_ <;> (intro hb; refine zCy ?_; intro a w hs; try rw [hb] at hs; clear hb; revert hs; revert w; revert a; refine gx_unf ?_)))
   | (refine is_cx ?_; first
     | refine cx_reg ?_
     | (refine is_seq ?_; first | (refine zIr ?_; (repeat apply ex_i); refine And.intro zEu (And.intro ?_ ?_)) | refine cx_seq ?_)
     | refine zGX ?_ ?_ rfl
     | refine zIs ?_
     | refine cx_ret ?_
     | refine zHO ?_
     | refine zIt ?_
     | refine zIu ?_
     | (refine zI0 ?_; first | refine zGR ?_ | refine zGS ?_)
     | (refine zI1 ?_; first | refine zHV ?_ | refine zHU ?_ | refine zHW ?_ | refine zHX ?_)
     | refine zHN ?_
     | refine zGW ?_ ?_
     | refine zGV ?_ ?_ ?_
     | refine zCF ?_)
   | (refine is_ex ?_; first
     | refine zIv ?_
     | refine zGU ?_
     | refine zGT ?_
     | refine ex_blk ?_
     | refine zHP ?_
     | refine zHQ ?_
     | refine zHR ?_
     | refine zIw ?_
     | refine ex_ret ?_
     | refine ex_end ?_
     | exact rq_n
     | exact rq_r
     | exact rq_x
     | refine zCF ?_)
   | exact zIp
   | refine gp_in ?_
   | (refine is_rx ?_; first
     | refine rx_tmp ?_
     | refine rx_nil ?_
     | refine zIx ?_
     | refine zHS ?_)
   | (refine is_fx ?_; first
     | exact fx_1
     | exact fx_0
     | exact fx_2
     | exact fx_3
     | exact fx_4
     | exact fx_5)
   | (refine is_dx ?_; first
     | refine dx_end ?_
     | refine dx_nil ?_
     | refine dx_a ?_
     | (refine zIy ?_ ?_ <;> (intro hb; refine zCy ?_; intro a w hs; try rw [hb] at hs; clear hb; revert hs; revert w; revert a; refine gx_unf ?_))
     | (refine dx_ite ?_ ?_ <;> (intro hb; refine zCy ?_; intro a w hs; try rw [hb] at hs; clear hb; revert hs; revert w; revert a; refine gx_unf ?_))
     | (refine is_gdx ?_ rfl; first | refine dx_no ?_ | refine dx_no' ?_)
     | (refine is_d 0 ?_ rfl; refine dx_p (hp:=by exact au_p0) ?_)
     | (refine is_d 2 ?_ rfl; first | refine dx_p (hp:=by exact au_p2) ?_ | (refine al_nn ?_; intro b hb; subst hb) | (refine gx_nn ?_; intro b hb; subst hb) | (refine al_fv ?_; intro g fs cs hf cb; subst hf) | (refine gx_fv ?_; intro g fs cs hf cb; subst hf))
     | (refine is_d 3 ?_ rfl; refine dx_p (hp:=by exact au_p3) ?_)
     | (refine is_d 13 ?_ rfl; first | refine dx_is (hp:=by exact zCH) ?_ | refine dx_S (hp:=by exact zI3) ?_)
     | (refine is_d 10 ?_ rfl; first | refine dx_p (hp:=by exact au_p10) ?_ | refine dx_wpA (hp:=by exact zCz) ?_ | refine dx_wp (hp:=by exact zCz) ?_)
     | (refine is_d 8 ?_ rfl; first | refine dx_wpA (hp:=by exact au_wp8) ?_ | refine dx_wp (hp:=by exact au_wp8) ?_)
     | (refine is_d 20 ?_ rfl; first | refine dx_p (hp:=by exact au_p20) ?_ | refine dx_is (hp:=by exact zCI) ?_ | refine dx_S (hp:=by exact zI4) ?_)
     | (refine is_d 27 ?_ rfl; first | refine dx_wpA (hp:=by exact zC4) ?_ | refine dx_wp (hp:=by exact zC4) ?_)
     | (refine is_d 4 ?_ rfl; first | refine dx_p (hp:=by exact au_p4) ?_ | refine dx_wpA (hp:=by exact au_wp4) ?_ | refine dx_wp (hp:=by exact au_wp4) ?_)
     | (refine is_d 1 ?_ rfl; refine dx_p (hp:=by exact au_p1) ?_)
     | (refine is_d 6 ?_ rfl; refine dx_p (hp:=by exact au_p6) ?_)
     | (refine is_d 28 ?_ rfl; first | refine dx_wpA (hp:=by exact zC5) ?_ | refine dx_wp (hp:=by exact zC5) ?_)
     | (refine is_d 11 ?_ rfl; first | refine dx_wpA (hp:=by exact zC0) ?_ | refine dx_wp (hp:=by exact zC0) ?_ | refine dx_p (hp:=by exact au_p11) ?_ | refine dx_is (hp:=by exact zCG) ?_ | refine dx_S (hp:=by exact zI2) ?_)
     | (refine is_d 26 ?_ rfl; first | refine dx_wpA (hp:=by exact zC3) ?_ | refine dx_wp (hp:=by exact zC3) ?_ | refine dx_p (hp:=by exact au_p26) ?_)
     | (refine is_d 12 ?_ rfl; first | refine dx_wpA (hp:=by exact zC1) ?_ | refine dx_wp (hp:=by exact zC1) ?_ | refine dx_p (hp:=by exact au_p12) ?_)
     | (refine is_d 5 ?_ rfl; refine dx_p (hp:=by exact au_p5) ?_)
     | (refine is_d 7 ?_ rfl; first | refine dx_wpA (hp:=by exact au_wp7) ?_ | refine dx_wp (hp:=by exact au_wp7) ?_)
     | (refine is_d 9 ?_ rfl; first | refine dx_wpA (hp:=by exact au_wp9) ?_ | refine dx_wp (hp:=by exact au_wp9) ?_)
     | (refine is_d 14 ?_ rfl; first | refine dx_is (hp:=by exact wr_rd (zAX rfl rfl rfl)) ?_ | (refine dx_is (hp:=by exact wr_rd2 (zAX rfl rfl rfl)) ?_; intro u; refine al_an2 ?_) | refine dx_S (hp:=by exact ws_rd (zAX rfl rfl rfl)) ?_ | (refine dx_S (hp:=by exact ws_rd2 (zAX rfl rfl rfl)) ?_; intro u; refine al_an2 ?_))
     | (refine is_d 21 ?_ rfl; first | refine dx_wpA (hp:=by exact zC2) ?_ | refine dx_wp (hp:=by exact zC2) ?_)
     | (refine is_d 25 ?_ rfl; first | refine dx_is (hp:=by exact zCJ) ?_ | refine dx_S (hp:=by exact zI5) ?_)
     | refine zCF ?_)
   | (refine is_ox ?_; first
     | (refine is_o 13 ?_ rfl; first | refine ox_r2A (hp:=by exact zCH) ?_ | refine ox_r2 (hp:=by exact zCH) ?_)
     | (refine is_o 19 ?_ rfl; first | (refine ox_c1 (hp:=by exact zCK) ?_; intro u; first | refine al_an1 ?_ | refine al_an0 ?_ | refine al_an2 ?_) | (refine ox_c (hp:=by exact zCK) ?_; intro u; first | refine an_1 ?_ | refine an_0 ?_ | refine an_2 ?_ | refine an_3 ?_ | refine an_4 ?_ | refine an_5 ?_) | (refine ox_cn (hp:=by exact zCK) ?_; intro u; first | refine am_0 ?_ | refine am_1 ?_ | refine am_2 ?_ | skip) | (refine ox_y ?_; intro u; first | refine an_1 ?_ | refine an_0 ?_ | refine an_2 ?_ | refine an_3 ?_ | refine an_4 ?_ | refine an_5 ?_))
     | (refine is_o 20 ?_ rfl; first | refine ox_r2A (hp:=by exact zCI) ?_ | refine ox_r2 (hp:=by exact zCI) ?_)
     | (refine is_o 17 ?_ rfl; first | refine ox_k1 (hp:=by exact zDe) ?_ | refine ox_k (hp:=by exact zDe) ?_)
     | (refine is_o 15 ?_ rfl; first | refine ox_e1 (hp:=by exact zDa) ?_ | refine ox_e (hp:=by exact zDa) ?_)
     | (refine is_o 16 ?_ rfl; first | refine ox_e1 (hp:=by exact zDb) ?_ | refine ox_e (hp:=by exact zDb) ?_)
     | (refine is_o 22 ?_ rfl; first | refine ox_e1 (hp:=by exact zBs) ?_ | refine ox_e (hp:=by exact zBs) ?_ | refine ox_en1 (hp:=by exact zBs) ?_ | refine ox_en (hp:=by exact zBs) ?_)
     | (refine is_o 11 ?_ rfl; first | refine ox_e1 (hp:=by exact zDZ) ?_ | refine ox_e (hp:=by exact zDZ) ?_ | refine ox_r2A (hp:=by exact zCG) ?_ | refine ox_r2 (hp:=by exact zCG) ?_)
     | (refine is_o 14 ?_ rfl; first | refine ox_r2A (hp:=by exact wr_rd (zAX rfl rfl rfl)) ?_ | (refine ox_r2A (hp:=by exact wr_rd2 (zAX rfl rfl rfl)) ?_; intro u; refine al_an2 ?_) | refine ox_r2 (hp:=by exact wr_rd (zAX rfl rfl rfl)) ?_ | (refine ox_r2 (hp:=by exact wr_rd2 (zAX rfl rfl rfl)) ?_; intro u; refine an_2 ?_))
     | (refine is_o 18 ?_ rfl; first | refine ox_k1 (hp:=by exact zDf) ?_ | refine ox_k (hp:=by exact zDf) ?_)
     | (refine is_o 99 ?_ rfl; first | (refine ox_e2 (hp:=by exact we_do2 (zGn rfl rfl rfl)) (hS:=sva_2) ?_; intro u; refine al_an2 ?_) | (refine ox_e (hp:=by exact we_do2 (zGn rfl rfl rfl)) ?_; intro u; refine an_2 ?_) | refine ox_k1 (hp:=by exact wk_do (zFx rfl rfl rfl rfl)) ?_ | refine ox_k (hp:=by exact wk_do (zFx rfl rfl rfl rfl)) ?_)
     | (refine is_o 23 ?_ rfl; first | refine ox_e1 (hp:=by exact zDc) ?_ | refine ox_e (hp:=by exact zDc) ?_)
     | (refine is_o 24 ?_ rfl; first | refine ox_e1 (hp:=by exact zDd) ?_ | refine ox_e (hp:=by exact zDd) ?_)
     | (refine is_o 25 ?_ rfl; first | refine ox_r2A (hp:=by exact zCJ) ?_ | refine ox_r2 (hp:=by exact zCJ) ?_)
     | refine zCF ?_)
   | refine zIz ?_ ?_
   | refine ax_all ?_ ?_
   | exact ax_nil
   | refine ax_one ?_
   | (refine is_lx ?_; exact lx_end)
   | (refine is_sx ?_; first
     | refine sx_nil ?_
     | (refine is_gs ?_ rfl; refine sx_no ?_)
     | (refine is_s 0 ?_ rfl; refine sx_p (hp:=by exact au_p0) ?_)
     | (refine is_s 2 ?_ rfl; first | refine sx_p (hp:=by exact au_p2) ?_ | (refine gx_nn ?_; intro b hb; subst hb) | (refine gx_fv ?_; intro g fs cs hf cb; subst hf))
     | (refine is_s 3 ?_ rfl; refine sx_p (hp:=by exact au_p3) ?_)
     | (refine is_s 13 ?_ rfl; refine sx_wr (hp:=by exact zCH) ?_)
     | (refine is_s 10 ?_ rfl; first | refine sx_p (hp:=by exact au_p10) ?_ | refine sx_wp (hp:=by exact zCz) ?_)
     | (refine is_s 8 ?_ rfl; refine sx_wp (hp:=by exact au_wp8) ?_)
     | (refine is_s 20 ?_ rfl; first | refine sx_p (hp:=by exact au_p20) ?_ | refine sx_wr (hp:=by exact zCI) ?_)
     | (refine is_s 27 ?_ rfl; refine sx_wp (hp:=by exact zC4) ?_)
     | (refine is_s 4 ?_ rfl; first | refine sx_p (hp:=by exact au_p4) ?_ | refine sx_wp (hp:=by exact au_wp4) ?_)
     | (refine is_s 1 ?_ rfl; refine sx_p (hp:=by exact au_p1) ?_)
     | (refine is_s 6 ?_ rfl; refine sx_p (hp:=by exact au_p6) ?_)
     | (refine is_s 28 ?_ rfl; refine sx_wp (hp:=by exact zC5) ?_)
     | (refine is_s 11 ?_ rfl; first | refine sx_wp (hp:=by exact zC0) ?_ | refine sx_p (hp:=by exact au_p11) ?_ | refine sx_wr (hp:=by exact zCG) ?_)
     | (refine is_s 26 ?_ rfl; first | refine sx_wp (hp:=by exact zC3) ?_ | refine sx_p (hp:=by exact au_p26) ?_)
     | (refine is_s 12 ?_ rfl; first | refine sx_wp (hp:=by exact zC1) ?_ | refine sx_p (hp:=by exact au_p12) ?_)
     | (refine is_s 5 ?_ rfl; refine sx_p (hp:=by exact au_p5) ?_)
     | (refine is_s 7 ?_ rfl; refine sx_wp (hp:=by exact au_wp7) ?_)
     | (refine is_s 9 ?_ rfl; refine sx_wp (hp:=by exact au_wp9) ?_)
     | (refine is_s 14 ?_ rfl; first | refine sx_wr (hp:=by exact wr_rd (zAX rfl rfl rfl)) ?_ | (refine sx_wr (hp:=by exact wr_rd2 (zAX rfl rfl rfl)) ?_; intro u; refine an_2 ?_))
     | (refine is_s 21 ?_ rfl; refine sx_wp (hp:=by exact zC2) ?_)
     | (refine is_s 25 ?_ rfl; refine sx_wr (hp:=by exact zCJ) ?_)
     | (refine sx_ite ?_ ?_ <;> (intro hb; refine zCy ?_; intro a w hs; try rw [hb] at hs; clear hb; revert hs; revert w; revert a; refine gx_unf ?_)))
   | refine bx_b ?_
   | refine bj_b ?_
   | exact zIq
   | refine zCF ?_) :
  CallF P f args.toArray kk w:=zK7 n hk hf h hb hn hl
end Go.Sep
namespace Go.Sep
open Go Go.RowKit Go.MapKept
structure Fnd {α:Type} [DecidableEq α] (P:Program) (kt:TypeId) (enc:α→Value):Prop where
 chk:∀ a w,(Instr.checkKey false 10000 kt (enc a)).run P w = .ok () w
 bits:∀ a,Instr.sameBits 10000 (enc a) (enc a) = true
 find:∀ (β:Type) (cV:β→Value) (es:Array MapEntry) (m:List (α×β)),mrel enc cV es m→∀ a w,((Instr.findKey kt (enc a) es.toList).run P w = .ok none w∧mget a m = none∧(∀ v,mset a v m = m++[(a,v)])) ∨
  ∃ j x,(Instr.findKey kt (enc a) es.toList).run P w = .ok (some (j,cV x)) w∧j < m.length∧m[j]? = some (a,x)∧mget a m = some x∧(∀ v,mset a v m = m.set j (a,v))
theorem fndS {α:Type} [DecidableEq α] {P:Program} {kt:TypeId} {cel:α→List Value} (h:KeyS P kt cel):Fnd P kt (kyS cel):=⟨fun a w=>h.chk a false w,h.bits,fun β cV es m hr a w=>by
 rcases zGZ h hr a w with ⟨g1,g2,g3,_⟩ | ⟨j,x,g1,g2,g3,g4,g5,_⟩
 ·exact .inl ⟨g1,g2,g3⟩
 ·exact .inr ⟨j,x,g1,g2,g3,g4,g5⟩⟩
theorem zNr {p:MapEntry→Bool}:∀ {l:List MapEntry} {j:Nat} {e:MapEntry},l[j]? = some e→p e = true→(∀ i x,i < j→l[i]? = some x→p x = false)→l.findIdx? p = some j
 | [],_,_,h,_,_=>by simp at h
 | a::l,0,e,h,hp,_=>by
  simp at h; subst h
  simp [List.findIdx?_cons,hp]
 | a::l,j + 1,e,h,hp,hn=>by
  have h0:=hn 0 a (by omega) rfl
  rw [List.findIdx?_cons,h0]
  simp only [Bool.false_eq_true,if_false]
  rw [zNr (j:=j) (by simpa using h) hp fun i x hi hx=>hn (i + 1) x (by omega) (by simpa using hx)]
  rfl
section
variable {α β:Type} [DecidableEq α] {P:Program} {B:World} {Γ Δ:List HProp} {kt:TypeId} {enc:α→Value} {cV:β→Value} {k:K}
def EntR (enc:α→Value) (cV:β→Value) (b:Nat) (m:List (α×β)) (z:β) (a:α) (st:Int):HProp:=ex fun es:Array MapEntry=>ex fun c:Nat=>fun g =>
 (stamps es c∧∃ m1 j e,mrel enc cV es m1∧j < m1.length∧es[j]? = some e∧(e.born:Int) = st∧e.key = enc a∧(∀ v,m1.set j (a,v) = mset a v m)∧m1 = mset a ((mget a m).getD z) m)∧blk b (.map es c) g
instance (priority:=high) zUu {b:Nat} {m:List (α×β)} {z:β} {a:α} {st:Int} {Γ:List HProp}:Own b (EntR enc cV b m z a st::Γ) (EntR enc cV b m z a st) Γ:=⟨.refl _⟩
theorem EntR.map {m:List (α×β)} {z:β} {a:α} {st:Int} {b:Nat} {w:World} (h:Holds B (EntR enc cV b m z a st::Δ) w):Holds B (MapR enc cV b (mset a ((mget a m).getD z) m)::Δ) w:=by
 obtain ⟨es,h1⟩:=Holds.ex.1 h
 obtain ⟨c,h1⟩:=Holds.ex.1 h1
 obtain ⟨hst,m1,j,e,hr,hj,he,hbn,hek,hm,h2⟩:=h1.fact fun g hg=>hg.1
 subst h2
 exact MapR.shuts ⟨hr,hst⟩ (h1.imp fun g hg=>hg.2)
theorem zGc {v:β}:∀ {m:List (α×β)} {a:α},mget a m = some v→mset a v m = m
 | [],_,h=>by simp [mget] at h
 | p::m,a,h=>by
  unfold mget at h
  unfold mset
  split at h
  ·rename_i hp
   simp only [Option.some.injEq] at h
   rw [if_pos hp,hp,← h]
  ·rename_i hp
   rw [if_neg hp,zGc h]
theorem zMJ (m:List (α×β)) (a:α) (v:β):mget a (mset a v m) = some v:=by rw [zFm,if_pos rfl]
theorem zSD {T E:TypeId} {b:Nat} {m:List (α×β)} {z:β} {a:α} {k:β→Int→K} (hF:Fnd P kt enc) (hz:zeroT P E (cV z)) (h:∀ st,HG B (EntR enc cV b m z a st::Δ) (k ((mget a m).getD z) st)) (hT:P.underlying T = some (.map kt E):=by kernel_rfl) [p:Own b Γ (MapR enc cV b m) Δ] :
  HG B Γ (Do2 P (Instr.mapEntry T (.map (some b)) (enc a)) (fun x y=>.tuple #[cV x,.int .i64 y]) k):=fun w hw=>by
 obtain ⟨es,c,⟨hr,hst⟩,h1⟩:=MapR.opens (hw.perm p.perm)
 have hb:=h1.block
 have hlen:es.size = m.length:=by have:=congrArg List.length hr; simpa using this
 have key:∀ {es' c' v st w'},(Instr.mapEntry T (.map (some b)) (enc a)).run P w = .ok (.tuple #[cV v,goInt st]) w'→v = (mget a m).getD z→(stamps es' c'∧∃ m1 j e,mrel enc cV es' m1∧j < m1.length∧es'[j]? = some e∧(e.born:Int) = st∧e.key = enc a∧(∀ v,m1.set j (a,v) = mset a v m)∧m1 = mset a ((mget a m).getD z) m) →
   Holds B (blk b (.map es' c')::Δ) w'→Do2 P (Instr.mapEntry T (.map (some b)) (enc a)) (fun x y=>.tuple #[cV x,.int .i64 y]) k w:=fun {es' c' v st w'} h3 h4 h5 h6=>by
  subst h4
  exact ⟨_,st,w',h3,h st w' (Holds.ex.2 ⟨es',Holds.ex.2 ⟨c',h6.imp fun g hg=>⟨h5,hg⟩⟩⟩)⟩
 rcases hF.find β cV es m hr a w with ⟨g1,g2,h2⟩ | ⟨j,x,g1,hj,h0,g2,h2⟩
 ·obtain ⟨e1,h3⟩:=h1.setMap (P:=P) (es':=es.push { key:=enc a,val:=cV z,born:=c }) (c':=c + 1)
  refine key (es':=es.push { key:=enc a,val:=cV z,born:=c }) (c':=c + 1) (v:=z) (st:=(c:Int)) ?_ (by rw [g2]; rfl) ⟨zGj hst _ _,m++[(a,z)],m.length,⟨enc a,cV z,c⟩,?_,by simp,?_,rfl,rfl,fun v=>?_,by rw [h2,g2]; rfl⟩ h3
  ·unfold Instr.mapEntry
   simp only [Sem.run_bind,run_underlying hT,Result.andThen,MapKept.run_getObj_map hb,hF.chk,g1,zCu hz,e1,Sem.run_pure]
  ·simp only [mrel,Array.toList_push,List.map_append,List.map_cons,List.map_nil]
   rw [show es.toList.map (fun e=>(e.key,e.val)) = _ from hr]
  ·rw [← hlen]; simp
  ·rw [h2,List.set_append]; simp
 ·have hes:∃ e,es.toList[j]? = some e∧e.key = enc a:=by
   have:=zE1 hr j
   rw [h0] at this
   cases he:es.toList[j]? with
   | none=>rw [he] at this; simp at this
   | some e =>
    rw [he] at this
    simp only [Option.map_some,Option.some.injEq,Prod.mk.injEq] at this
    exact ⟨e,rfl,this.1⟩
  obtain ⟨e,he,hek⟩:=hes
  have he2:es[j]? = some e:=by rw [← he,Array.getElem?_toList]
  have hmod:(es.modify j fun e'=>{ e' with key:=enc a }) = es:=by
   apply Array.ext_getElem?
   intro i
   rw [Array.getElem?_modify]
   split
   ·rename_i hij
    subst hij
    rw [he2]
    simp [← hek]
   ·rfl
  obtain ⟨e1,h3⟩:=h1.setMap (P:=P) (es':=es) (c':=c)
  refine key (es':=es) (c':=c) (v:=x) (st:=(e.born:Int)) ?_ (by rw [g2]; rfl) ⟨hst,m,j,e,hr,hj,he2,rfl,hek,fun v=>(h2 v).symm,by rw [g2]; exact (zGc g2).symm⟩ h3
  unfold Instr.mapEntry
  simp only [Sem.run_bind,run_underlying hT,Result.andThen,MapKept.run_getObj_map hb,hF.chk,g1,he2,Option.map_some,Option.getD_some,hek,Instr.keyThatStays,hF.bits,if_true,Sem.run_pure,hmod,e1]
theorem zPl {T:TypeId} {b:Nat} {m:List (α×β)} {z:β} {a:α} {v:β} {x:Value} {st:Int} (hx:x = cV v) (h:HG B (MapR enc cV b (mset a v m)::Δ) k) [p:Own b Γ (EntR enc cV b m z a st) Δ] :
  HG B Γ (DoU P (Instr.entryStore T (.map (some b)) (.int .i64 st) x) k):=fun w hw=>by
 subst hx
 obtain ⟨es,h1⟩:=Holds.ex.1 (hw.perm p.perm)
 obtain ⟨c,h1⟩:=Holds.ex.1 h1
 obtain ⟨hst,m1,j,e,hr,hj,he,hbn,hek,hm,_⟩:=h1.fact fun g hg=>hg.1
 have h1:=h1.imp fun g hg=>hg.2
 have hb:=h1.block
 have hidx:es.findIdx? (fun e'=>((e'.born:Nat):Int) == st) = some j:=by
  rw [show es.findIdx? (fun e'=>((e'.born:Nat):Int) == st) = es.toList.findIdx? (fun e'=>((e'.born:Nat):Int) == st) by cases es; simp]
  refine zNr (e:=e) (by rw [← he,Array.getElem?_toList]) (by simp [hbn]) fun i x hi hx=>?_
  simp only [beq_eq_false_iff_ne,ne_eq,← hbn,Int.natCast_inj]
  intro hbe
  have hl:j < es.toList.length:=by
   have:=(Array.getElem?_eq_some_iff.1 he).1; simpa using this
  have h1:(es.toList.map (·.born))[i]? = some e.born:=by rw [List.getElem?_map,hx,← hbe]; rfl
  have h2:(es.toList.map (·.born))[j]? = some e.born:=by rw [List.getElem?_map,Array.getElem?_toList,he]; rfl
  have:=(List.getElem?_inj (by simp at hl ⊢; omega) hst.1).1 (h1.trans h2.symm)
  omega
 obtain ⟨e1,h3⟩:=h1.setMap (P:=P) (es':=es.modify j fun e'=>{ e' with val:=cV v }) (c':=c)
 refine ⟨(),_,?_,h _ (MapR.shuts ⟨?_,?_⟩ h3)⟩
 ·unfold Instr.entryStore
  simp only [Sem.run_bind,MapKept.run_getObj_map hb,Result.andThen,asInt,asIntOf,Sem.run_pure,hidx,e1]
 ·rw [← hm]
  simp only [mrel]
  apply List.ext_getElem?
  intro i
  have hi:=zE1 hr i
  simp only [List.getElem?_map,Array.getElem?_toList,Array.getElem?_modify] at hi ⊢
  by_cases hij:j = i
  ·subst hij
   rw [List.getElem?_set_self hj,he]
   simp [hek]
  ·rw [List.getElem?_set_ne hij,if_neg hij]
   exact hi
 ·have:(es.modify j fun e'=>{ e' with val:=cV v }) = es.modify j fun e'=>{ e' with key:=enc a,val:=cV v }:=by
   apply Array.ext_getElem?
   intro i
   simp only [Array.getElem?_modify]
   split
   ·rename_i hij
    subst hij
    rw [he]
    simp [← hek]
   ·rfl
  rw [this]
  exact zFv hst _ _ _
end
section
variable {P:Program} {B:World} {Γ Δ:List HProp} {k:K}
theorem s_wsP {k:(World→Prop)→K} (S:World→Prop) (h0:∀ w,Holds B Γ w→S w) (h:HG B Γ (k S)):HG B Γ (WithS k):=fun w hw=>⟨S,h0 w hw,h w hw⟩
theorem s_svP {S:World→Prop} (h0:∀ w,Holds B Γ w→S w) (h:HG B Γ k):HG B Γ (Sv S k):=fun w hw=>⟨h0 w hw,h w hw⟩
theorem zTG {S:World→Prop} {a:Addr} {n:Nat} {l:List Value} {k:Array Value→K} (h0:∀ w,S w→RdN w a l.toArray) (h:HG B Γ (k l.toArray)) (hn:l.length = n:=by rfl):HG B Γ (LdNS S a n k):=fun w hw=>⟨l.toArray,by simpa using hn,h0,h w hw⟩
theorem s_ldSP {S:World→Prop} {α:Type} {a:Addr} {c:α→Value} {x:α} {k:α→K} (h0:∀ w,S w→w.cell? a = some (c x)) (h:HG B Γ (k x)):HG B Γ (LdS S a c k):=fun w hw=>⟨x,h0,h w hw⟩
theorem s_rdSP {S:World→Prop} {α:Type} {s:Sem Value} {c:α→Value} {x:α} {k:α→K} (h0:∀ w,S w→s.run P w = .ok (c x) w) (h:HG B Γ (k x)):HG B Γ (RdS P S s c k):=fun w hw=>⟨x,h0,h w hw⟩
theorem rd_at {a:Addr} {b off n:Nat} {l l':List Value} {T:TypeId} {fz:Nat×Nat} {w:World} (hw:Holds B Γ w) [ad:AdrIs a b off] [p:Own b Γ (blk b (.cells l.toArray T fz)) Δ] (hl:(l.drop off).take n = l':=by rfl) (hn:l'.length = n:=by rfl):RdN w a l'.toArray:=by
 rw [ad.h]; exact zK2 (zDT hw (p:=p)) hl hn
theorem zO8 {α β:Type} [DecidableEq α] {kt:TypeId} {cel:α→List Value} {cV:β→Value} {T E:TypeId} {b:Nat} {m:List (α×β)} {z:β} {a:α} {w:World} (hw:Holds B Γ w) (hE:KeyS P kt cel) (hz:zeroT P E (cV z)) (hT:P.underlying T = some (.map kt E):=by kernel_rfl) [p:Own b Γ (MapR (kyS cel) cV b m) Δ] :
  (Instr.lookup T (.map (some b)) (kyS cel a) false).run P w = .ok (cV ((mget a m).getD z)) w:=by
 obtain ⟨x,h1,rfl⟩:=zJo (B:=B) (Γ:=Γ) (Δ:=Δ) (P:=P) (b:=b) (m:=m) (a:=a) (k:=fun x _=>x = (mget a m).getD z) hE hz (fun w _=>rfl) hT w hw
 exact h1
end
end Go.Sep
namespace Go.Proofs.YtdemfamgieonbaaGreat
open Go Go.Sep
set_option maxRecDepth 100000
set_option maxHeartbeats 4000000
attribute [local irreducible] G Gp Cx Tx Ex Sx Dx Ox Ax Lx Rx Fx Bx Bj Al Do Ld LdN St StN New CallF Ar DoU Rd Rd2 Pu Cd Ite Fv CallV CallY Ans0 Ans1 Ans2 Ans3 Ans4 Ans5 Ext Dead Dr WithS Sv LdS LdNS RdS Rd2S Nn Idx IdxA IdxS Fld Bld Slc SlcS Cat All LoopK RangeF RangeJ TakeD
namespace F_IROrder
instance at_123:AT Tryz.prog 123 4:=⟨by kernel_rfl⟩
instance at_25:AT Tryz.prog 25 5:=⟨by kernel_rfl⟩
instance at_35:AT Tryz.prog 35 3:=⟨by kernel_rfl⟩
instance at_40:AT Tryz.prog 40 10:=⟨by kernel_rfl⟩
instance at_84:AT Tryz.prog 84 3:=⟨by kernel_rfl⟩
instance cb_102:CB Tryz.prog 102:=⟨by kernel_rfl⟩
instance cb_13:CB Tryz.prog 13:=⟨by kernel_rfl⟩
instance cb_146:CB Tryz.prog 146:=⟨by kernel_rfl⟩
instance cb_147:CB Tryz.prog 147:=⟨by kernel_rfl⟩
instance cb_148:CB Tryz.prog 148:=⟨by kernel_rfl⟩
instance cb_149:CB Tryz.prog 149:=⟨by kernel_rfl⟩
instance cb_50:CB Tryz.prog 50:=⟨by kernel_rfl⟩
instance cb_51:CB Tryz.prog 51:=⟨by kernel_rfl⟩
instance cb_54:CB Tryz.prog 54:=⟨by kernel_rfl⟩
instance cb_65:CB Tryz.prog 65:=⟨by kernel_rfl⟩
instance cb_66:CB Tryz.prog 66:=⟨by kernel_rfl⟩
instance cb_89:CB Tryz.prog 89:=⟨by kernel_rfl⟩
instance cb_90:CB Tryz.prog 90:=⟨by kernel_rfl⟩
instance cb_91:CB Tryz.prog 91:=⟨by kernel_rfl⟩
instance cb_92:CB Tryz.prog 92:=⟨by kernel_rfl⟩
instance ct_2:CT Tryz.prog 2:=⟨by kernel_rfl⟩
instance ct_22:CT Tryz.prog 22:=⟨by kernel_rfl⟩
instance ct_23:CT Tryz.prog 23:=⟨by kernel_rfl⟩
instance ct_3:CT Tryz.prog 3:=⟨by kernel_rfl⟩
instance ct_33:CT Tryz.prog 33:=⟨by kernel_rfl⟩
instance ct_38:CT Tryz.prog 38:=⟨by kernel_rfl⟩
instance ct_85:CT Tryz.prog 85:=⟨by kernel_rfl⟩
instance ct_9:CT Tryz.prog 9:=⟨by kernel_rfl⟩
instance zHk:FT Tryz.prog 123 0 0 1:=⟨by kernel_rfl⟩
instance zHl:FT Tryz.prog 123 1 1 1:=⟨by kernel_rfl⟩
instance zHm:FT Tryz.prog 123 2 2 1:=⟨by kernel_rfl⟩
instance zHn:FT Tryz.prog 123 3 3 1:=⟨by kernel_rfl⟩
instance zFb:FT Tryz.prog 25 0 0 1:=⟨by kernel_rfl⟩
instance zO3:FT Tryz.prog 25 1 1 1:=⟨by kernel_rfl⟩
instance zG7:FT Tryz.prog 25 2 2 1:=⟨by kernel_rfl⟩
instance zJA:FT Tryz.prog 25 3 3 1:=⟨by kernel_rfl⟩
instance zJB:FT Tryz.prog 25 4 4 1:=⟨by kernel_rfl⟩
instance zTH:FT Tryz.prog 35 0 0 1:=⟨by kernel_rfl⟩
instance zTI:FT Tryz.prog 35 1 1 1:=⟨by kernel_rfl⟩
instance zTJ:FT Tryz.prog 35 2 2 1:=⟨by kernel_rfl⟩
instance zTK:FT Tryz.prog 37 0 0 3:=⟨by kernel_rfl⟩
instance zTL:FT Tryz.prog 37 1 3 1:=⟨by kernel_rfl⟩
instance zJI:FT Tryz.prog 40 0 0 4:=⟨by kernel_rfl⟩
instance zO9:FT Tryz.prog 40 1 4 5:=⟨by kernel_rfl⟩
instance zLX:FT Tryz.prog 40 2 9 1:=⟨by kernel_rfl⟩
instance zLY:FT Tryz.prog 48 0 0 1:=⟨by kernel_rfl⟩
instance zJJ:FT Tryz.prog 48 1 1 1:=⟨by kernel_rfl⟩
instance zLZ:FT Tryz.prog 48 2 2 10:=⟨by kernel_rfl⟩
instance zOt:FT Tryz.prog 84 0 0 1:=⟨by kernel_rfl⟩
instance zLG:FT Tryz.prog 84 1 1 1:=⟨by kernel_rfl⟩
instance zSv:FT Tryz.prog 84 2 2 1:=⟨by kernel_rfl⟩
instance in_2:INT Tryz.prog 2 .i64:=⟨by kernel_rfl⟩
instance in_3:INT Tryz.prog 3 .i64:=⟨by kernel_rfl⟩
instance in_33:INT Tryz.prog 33 .u64:=⟨by kernel_rfl⟩
instance mx:MX Tryz.prog:=⟨mixed⟩
instance pl_207:PLT Tryz.prog 207 [(0,1)]:=⟨_,Tryz.underlying207,by kernel_rfl⟩
instance sl_22:SLT Tryz.prog 22 9 1:=⟨by kernel_rfl⟩
instance sl_23:SLT Tryz.prog 23 123 4:=⟨by kernel_rfl⟩
instance sl_275:SLT Tryz.prog 275 33 1:=⟨by kernel_rfl⟩
instance sl_38:SLT Tryz.prog 38 84 3:=⟨by kernel_rfl⟩
instance sl_42:SLT Tryz.prog 42 3 1:=⟨by kernel_rfl⟩
instance sz_123:SZ Tryz.prog 123 4:=⟨by kernel_rfl⟩
instance sz_25:SZ Tryz.prog 25 5:=⟨by kernel_rfl⟩
instance sz_35:SZ Tryz.prog 35 3:=⟨by kernel_rfl⟩
instance sz_38:SZ Tryz.prog 38 1:=⟨by kernel_rfl⟩
instance sz_40:SZ Tryz.prog 40 10:=⟨by kernel_rfl⟩
instance sz_84:SZ Tryz.prog 84 3:=⟨by kernel_rfl⟩
instance zt_123:ZT Tryz.prog 123 (.agg #[(.int .i64 0),(.string ⟨#[]⟩),(Sl.val ⟨none,0,0⟩),(.int .i64 0)]):=⟨Tryz.t123,by kernel_rfl,by kernel_rfl⟩
instance zt_207:ZT Tryz.prog 207 (.agg #[(Sl.val ⟨none,0,0⟩)]):=⟨Tryz.t207,by kernel_rfl,by kernel_rfl⟩
instance zt_3:ZT Tryz.prog 3 (.int .i64 0):=⟨Tryz.t3,by kernel_rfl,by kernel_rfl⟩
instance zt_33:ZT Tryz.prog 33 (.int .u64 0):=⟨Tryz.t33,by kernel_rfl,by kernel_rfl⟩
instance zt_35:ZT Tryz.prog 35 (.agg #[(.int .i64 0),(.int .u64 0),(.int .u64 0)]):=⟨Tryz.t35,by kernel_rfl,by kernel_rfl⟩
instance zt_40:ZT Tryz.prog 40 (.agg #[(.int .i64 0),(.int .u64 0),(.int .u64 0),(.int .i64 0),(.int .i64 0),(Sl.val ⟨none,0,0⟩),(Sl.val ⟨none,0,0⟩),(Sl.val ⟨none,0,0⟩),(.int .i64 0),(Sl.val ⟨none,0,0⟩)]):=⟨Tryz.t40,by kernel_rfl,by kernel_rfl⟩
instance zt_84:ZT Tryz.prog 84 (.agg #[(.string ⟨#[]⟩),(.int .i64 0),(.int .u64 0)]):=⟨Tryz.t84,by kernel_rfl,by kernel_rfl⟩
end F_IROrder
def zA7.s2 (Q:Sl→K) (X1:Sl→Int→K) (out2_2:Sl):K :=
 zDO.call out2_2 <|
 zAW.call out2_2 fun t25 =>
 Q t25
def zA7.b1 (Q:Sl→K)  (X1:Sl→Int→K) (t6_1:Sl) (t7_1:Int) (out2_1:Sl) (t8_1:Int):K :=
 Ite (decide (t8_1 < t7_1))
  (Idx t6_1 t8_1 3 fun t10 =>
  LdN t10 3 fun t11 =>
  New 84 #[(.string ⟨#[]⟩),(.int .i64 0),(.int .u64 0)] fun m4 =>
  StN m4 3 t11 <|
  Ld (m4.add 1) (Value.int .i64) fun t14 =>
  New 3 #[(.int .i64 t14)] fun t15 =>
  Do Tryz.prog (Builtin.append_ #[42,42] 42 #[(Sl.val out2_1),(Sl.val (Sl.mk (some t15) 1 1))]) Sl.val fun t16 =>
  Ar (IntKind.wrap .i64 (t8_1 + 1)) fun t17 =>
  X1 t16 t17)
  (Ite (decide ((out2_1.n:Int) = 0))
   (New 3 #[(.int .i64 0)] fun t21 =>
   zA7.s2 Q X1 (Sl.mk (some t21) 1 1))
   (zA7.s2 Q X1 out2_1))
def zA7 (o0:(Array Value)) (Q:Sl→K):K :=
 New 40 o0 fun o1 =>
 Ld (o1.add 9) Sl.val fun t6 =>
 LoopK (α:=Sl×Int) (fun X x=>zA7.b1 Q (fun out2_1 t8_1=>X (out2_1,t8_1)) t6 (t6.n:Int) x.1 x.2) ((Sl.mk none 0 0),0)
theorem zLa (o0:(Array Value)) (Q:Sl→K) (w:World) (h:zA7 o0 Q w):zA7.call o0 Q w:=by
 have hJ8:∀ (X1:(Sl×Int)→K),XH 2 X1→JH 8 fun D=>D [] (fun C=>∀ (out2_2:Sl),C [(2,(Sl.val out2_2))] (zA7.s2 Q (fun out2_1 t8_1=>X1 (out2_1,t8_1)) out2_2)):=by intros; exact ⟨fun _ h=>⟨_,_,h⟩⟩
 have hL2:∀ (t6_1:Sl) (t7_1:Int),LH 2 (fun x:Sl×Int=>[(2,(Sl.val x.1)),(6,(Sl.val t6_1)),(7,(.int .i64 t7_1)),(8,(.int .i64 x.2))]) (fun X x=>zA7.b1 Q (fun out2_1 t8_1=>X (out2_1,t8_1)) t6_1 t7_1 x.1 x.2):=by intros; exact ⟨⟩
 exact g_walk 26 h Tryz.func13
def zBq.s1 (Q:Bool→K)  (t2_1:Bool):K :=
 Q t2_1
def zBq (o0:(Array Value)) (Q:Bool→K):K :=
 New 40 o0 fun o1 =>
 Ld (o1.add 4) (Value.int .i64) fun t5 =>
 Ite (decide (t5 = 1))
  (LdN o1 10 fun t8 =>
  zA7.call t8 fun t9 =>
  zBq.s1 Q (decide ((t9.n:Int) = 1)))
  (zBq.s1 Q false)
theorem zKi (o0:(Array Value)) (Q:Bool→K) (w:World) (h:zBq o0 Q w):zBq.call o0 Q w:=by
 have hJ1000001:JH 1000001 fun D=>D [] (fun C=>∀ (t2_1:Bool),C [(2,(.bool t2_1))] (zBq.s1 Q t2_1)):=by intros; exact ⟨fun _ h=>⟨_,_,h⟩⟩
 exact g_walk 13 h Tryz.func14
def zAg.s2 (Q:Sl→Int→K)  (i1_2:Addr) (t36_2:Bool):K :=
 Ite t36_2
  (Q (Sl.mk none 0 0) 1)
  (New 207 #[(Sl.val ⟨none,0,0⟩)] fun t38 =>
  Ld i1_2 (Value.int .i64) fun t41 =>
  Ar (IntKind.wrap .u64 t41) fun t42 =>
  Ld (i1_2.add 1) (Value.int .i64) fun t44 =>
  Ar (IntKind.wrap .u64 t44) fun t45 =>
  New 33 #[(.int .u64 t42),(.int .u64 t45)] fun t46 =>
  zCv.call (some t38) (Sl.mk (some t46) 2 2) <|
  LdN (i1_2.add 2) 10 fun t50 =>
  zBw.call (some t38) t50 <|
  zDg.call (some t38) fun t53 =>
  Q t53 0)
def zAg.s1 (Q:Sl→Int→K)  (i1_1:Addr) (ok4_1:Bool):K :=
 Ite (!ok4_1)
  (zAg.s2 Q i1_1 true)
  (LdN (i1_1.add 2) 10 fun t33 =>
  zAV.call t33 3 fun t34 =>
  zAg.s2 Q i1_1 (decide (t34 ≠ 0)))
def zAg (i0:(Array Value)) (Q:Sl→Int→K):K :=
 New 48 i0 fun i1 =>
 Ld i1 (Value.int .i64) fun t7 =>
 Ite (decide (t7 = 1))
  (Ld (i1.add 1) (Value.int .i64) fun t11 =>
  Ite (decide (t11 = 0))
   (zAg.s1 Q i1 true)
   (Ld i1 (Value.int .i64) fun t16 =>
   Ite (decide (t16 = 2))
    (Ld (i1.add 1) (Value.int .i64) fun t20 =>
    Ite (decide ((0:Int) ≤ t20))
     (Ld (i1.add 1) (Value.int .i64) fun t25 =>
     zAg.s1 Q i1 (decide (t25 < 64)))
     (zAg.s1 Q i1 false))
    (zAg.s1 Q i1 false)))
  (Ld i1 (Value.int .i64) fun t16 =>
  Ite (decide (t16 = 2))
   (Ld (i1.add 1) (Value.int .i64) fun t20 =>
   Ite (decide ((0:Int) ≤ t20))
    (Ld (i1.add 1) (Value.int .i64) fun t25 =>
    zAg.s1 Q i1 (decide (t25 < 64)))
    (zAg.s1 Q i1 false))
   (zAg.s1 Q i1 false))
theorem zIi (i0:(Array Value)) (Q:Sl→Int→K) (w:World) (h:zAg i0 Q w):zAg.call i0 Q w:=by
 have hJ3:JH 3 fun D=>∃ (i1_2:Addr),D [(1,(.pointer (some i1_2)))] (fun C=>∀ (t36_2:Bool),C [(1,(.pointer (some i1_2))),(36,(.bool t36_2))] (zAg.s2 Q i1_2 t36_2)):=by intros; exact ⟨fun _ ⟨_,h⟩=>⟨_,_,h⟩⟩
 have hJ2:JH 2 fun D=>∃ (i1_1:Addr),D [(1,(.pointer (some i1_1)))] (fun C=>∀ (ok4_1:Bool),C [(1,(.pointer (some i1_1))),(4,(.bool ok4_1))] (zAg.s1 Q i1_1 ok4_1)):=by intros; exact ⟨fun _ ⟨_,h⟩=>⟨_,_,h⟩⟩
 exact g_walk 54 h Tryz.func52
def zAV.s5 (Q:Int→K) (X4:Int→K) (regions1_5:Int) (keys6_5:Sl) (t64_5:Sl) (t65_5:Int) (t66_5:Int) (t88_5:Bool):K :=
 Ite t88_5
  (Q 1)
  (Ar (IntKind.wrap .i64 (t66_5 + 1)) fun t89 =>
  X4 t89)
def zAV.b4 (Q:Int→K)  (X4:Int→K) (regions1_4:Int) (keys6_4:Sl) (t64_4:Sl) (t65_4:Int) (t66_4:Int):K :=
 Ite (decide (t66_4 < t65_4))
  (Idx t64_4 t66_4 3 fun t69 =>
  LdN t69 3 fun t70 =>
  New 84 #[(.string ⟨#[]⟩),(.int .i64 0),(.int .u64 0)] fun m9 =>
  StN m9 3 t70 <|
  Dr <|
  Ld m9 Value.string fun t72 =>
  Idx keys6_4 t66_4 1 fun t75 =>
  Ld t75 Value.string fun t76 =>
  Ite (!(t72.toList == t76.toList))
   (zAV.s5 Q X4 regions1_4 keys6_4 t64_4 t65_4 t66_4 true)
   (Ld (m9.add 1) (Value.int .i64) fun t80 =>
   Ite (decide (t80 < 0))
    (zAV.s5 Q X4 regions1_4 keys6_4 t64_4 t65_4 t66_4 true)
    (Ld (m9.add 1) (Value.int .i64) fun t85 =>
    zAV.s5 Q X4 regions1_4 keys6_4 t64_4 t65_4 t66_4 (decide (regions1_4 ≤ t85)))))
  (Q 0)
def zAV.s3 (Q:Int→K)  (regions1_3:Int) (o2_3:Addr) (keys6_3:Sl) (t62_3:Bool):K :=
 Ite t62_3
  (Q 1)
  (Ld (o2_3.add 9) Sl.val fun t64 =>
  LoopK (α:=Int) (fun X x=>zAV.b4 Q X regions1_3 keys6_3 t64 (t64.n:Int) x) 0)
def zAV.s2 (Q:Int→K)  (regions1_2:Int) (o2_2:Addr) (keys6_2:Sl) (ok7_2:Bool):K :=
 Ite (!ok7_2)
  (zAV.s3 Q regions1_2 o2_2 keys6_2 true)
  (Ld (o2_2.add 9) Sl.val fun t57 =>
  zAV.s3 Q regions1_2 o2_2 keys6_2 (decide ((t57.n:Int) ≠ (keys6_2.n:Int))))
def zAV.s1 (Q:Int→K)  (regions1_1:Int) (o2_1:Addr) (id5_1:Addr) (keys6_1:Sl):K :=
 LdN (o2_1.add 4) 5 fun t17 =>
 zAx.call t17 regions1_1 fun t19 =>
 Ite (decide (t19 = 0))
  (Ld id5_1 (Value.int .i64) fun t23 =>
  Ite (decide ((0:Int) ≤ t23))
   (Ld id5_1 (Value.int .i64) fun t28 =>
   Ite (decide (t28 < 9))
    (Ld (id5_1.add 1) (Value.int .u64) fun t33 =>
    Ite (decide ((0:Int) < t33))
     (Ld (id5_1.add 2) (Value.int .u64) fun t38 =>
     Ite (decide ((0:Int) < t38))
      (Ld (o2_1.add 3) (Value.int .i64) fun t44 =>
      Ite (decide ((0:Int) ≤ t44))
       (Ld (o2_1.add 3) (Value.int .i64) fun t50 =>
       zAV.s2 Q regions1_1 o2_1 keys6_1 (decide (t50 < 3)))
       (zAV.s2 Q regions1_1 o2_1 keys6_1 false))
      (zAV.s2 Q regions1_1 o2_1 keys6_1 false))
     (zAV.s2 Q regions1_1 o2_1 keys6_1 false))
    (zAV.s2 Q regions1_1 o2_1 keys6_1 false))
   (zAV.s2 Q regions1_1 o2_1 keys6_1 false))
  (zAV.s2 Q regions1_1 o2_1 keys6_1 false)
def zAV (o0:(Array Value)) (regions1:Int) (Q:Int→K):K :=
 New 40 o0 fun o2 =>
 Dr <| WithS fun S =>
 LdNS S o2 3 fun t12 =>
 LdNS S (o2.add 4) 5 fun t14 =>
 All [
  (zDw.call t14 fun t15 =>
  Sv S <|
  New 35 #[(.int .i64 0),(.int .u64 0),(.int .u64 0)] fun id5 =>
  Sv S <|
  StN id5 3 t12 <|
  zAV.s1 Q regions1 o2 id5 t15),
  (New 35 #[(.int .i64 0),(.int .u64 0),(.int .u64 0)] fun id5 =>
  Sv S <|
  zDw.call t14 fun t15 =>
  Sv S <|
  StN id5 3 t12 <|
  zAV.s1 Q regions1 o2 id5 t15)
  ]
theorem zLb (o0:(Array Value)) (regions1:Int) (Q:Int→K) (w:World) (h:zAV o0 regions1 Q w):zAV.call o0 regions1 Q w:=by
 have hJ9:∀ (X4:Int→K),XH 6 X4→JH 9 fun D=>∃ (regions1_5:Int) (keys6_5:Sl) (t64_5:Sl) (t65_5:Int) (t66_5:Int),D [(1,(.int .i64 regions1_5)),(6,(Sl.val keys6_5)),(64,(Sl.val t64_5)),(65,(.int .i64 t65_5)),(66,(.int .i64 t66_5))] (fun C=>∀ (t88_5:Bool),C [(1,(.int .i64 regions1_5)),(6,(Sl.val keys6_5)),(64,(Sl.val t64_5)),(65,(.int .i64 t65_5)),(66,(.int .i64 t66_5)),(88,(.bool t88_5))] (zAV.s5 Q X4 regions1_5 keys6_5 t64_5 t65_5 t66_5 t88_5)):=by intros; exact ⟨fun _ ⟨_,_,_,_,_,h⟩=>⟨_,_,h⟩⟩
 have hL6:∀ (regions1_4:Int) (keys6_4:Sl) (t64_4:Sl) (t65_4:Int),LH 6 (fun x:Int=>[(1,(.int .i64 regions1_4)),(6,(Sl.val keys6_4)),(64,(Sl.val t64_4)),(65,(.int .i64 t65_4)),(66,(.int .i64 x))]) (fun X x=>zAV.b4 Q X regions1_4 keys6_4 t64_4 t65_4 x):=by intros; exact ⟨⟩
 have hJ4:JH 4 fun D=>∃ (regions1_3:Int) (o2_3:Addr) (keys6_3:Sl),D [(1,(.int .i64 regions1_3)),(2,(.pointer (some o2_3))),(6,(Sl.val keys6_3))] (fun C=>∀ (t62_3:Bool),C [(1,(.int .i64 regions1_3)),(2,(.pointer (some o2_3))),(6,(Sl.val keys6_3)),(62,(.bool t62_3))] (zAV.s3 Q regions1_3 o2_3 keys6_3 t62_3)):=by intros; exact ⟨fun _ ⟨_,_,_,h⟩=>⟨_,_,h⟩⟩
 have hJ3:JH 3 fun D=>∃ (regions1_2:Int) (o2_2:Addr) (keys6_2:Sl),D [(1,(.int .i64 regions1_2)),(2,(.pointer (some o2_2))),(6,(Sl.val keys6_2))] (fun C=>∀ (ok7_2:Bool),C [(1,(.int .i64 regions1_2)),(2,(.pointer (some o2_2))),(6,(Sl.val keys6_2)),(7,(.bool ok7_2))] (zAV.s2 Q regions1_2 o2_2 keys6_2 ok7_2)):=by intros; exact ⟨fun _ ⟨_,_,_,h⟩=>⟨_,_,h⟩⟩
 have hJ2:JH 2 fun D=>∃ (regions1_1:Int) (o2_1:Addr),D [(1,(.int .i64 regions1_1)),(2,(.pointer (some o2_1)))] (fun C=>∀ (id5_1:Addr) (keys6_1:Sl),C [(1,(.int .i64 regions1_1)),(2,(.pointer (some o2_1))),(5,(.pointer (some id5_1))),(6,(Sl.val keys6_1))] (zAV.s1 Q regions1_1 o2_1 id5_1 keys6_1)):=by intros; exact ⟨fun _ ⟨_,_,h⟩=>⟨_,_,h⟩⟩
 have hD1:DH 1 2 [7] (.s [0,1,3,2,4] (.a [(5,1,.a [(6,1,.a [(7,0,.s [8] .e)])]),(6,1,.a [(5,1,.a [(7,0,.s [8] .e)])])])):=by intros; exact ⟨⟩
 exact g_walk 90 h Tryz.func54
def zDz (o0:(Array Value)) (Q:(Array Value)→K):K :=
 New 40 o0 fun o1 =>
 New 40 #[(.int .i64 0),(.int .u64 0),(.int .u64 0),(.int .i64 0),(.int .i64 0),(Sl.val ⟨none,0,0⟩),(Sl.val ⟨none,0,0⟩),(Sl.val ⟨none,0,0⟩),(.int .i64 0),(Sl.val ⟨none,0,0⟩)] fun t2 =>
 Dr <| WithS fun S =>
 LdNS S (o1.add 4) 5 fun t4 =>
 LdS S (o1.add 9) Sl.val fun t7 =>
 zDM.call t4 fun t5 =>
 Sv S <|
 zBK.call t7 fun t8 =>
 StN (o1.add 4) 5 t5 <|
 St (o1.add 9) (Sl.val t8) <|
 LdN o1 10 fun t11 =>
 StN t2 10 t11 <|
 LdN t2 10 fun r0 =>
 Q r0
theorem zMg (o0:(Array Value)) (Q:(Array Value)→K) (w:World) (h:zDz o0 Q w):zDz.call o0 Q w:=by
 have hD1:DH 1 2 [5,7,9] (.s [0,3,1,4] (.a [(2,1,.s [6] (.a [(5,0,.a [(7,0,.s [8] (.a [(9,0,.e)]))])]))])):=by intros; exact ⟨⟩
 exact g_walk 12 h Tryz.func58
def zCv.b1 (Q:K)  (X1:Int→K) (p0_1:(Option Addr)) (t6_1:Sl) (t7_1:Int) (t8_1:Int):K :=
 Ite (decide (t8_1 < t7_1))
  (Idx t6_1 t8_1 1 fun t10 =>
  Ld t10 (Value.int .u64) fun t11 =>
  zBJ.call p0_1 t11 <|
  Ar (IntKind.wrap .i64 (t8_1 + 1)) fun t15 =>
  X1 t15)
  (Q)
def zCv (p0:(Option Addr)) (list1:Sl) (Q:K):K :=
 LoopK (α:=Int) (fun X x=>zCv.b1 Q X p0 list1 (list1.n:Int) x) 0
theorem zMh (p0:(Option Addr)) (list1:Sl) (Q:K) (w:World) (h:zCv p0 list1 Q w):zCv.call p0 list1 Q w:=by
 have hL1:∀ (p0_1:(Option Addr)) (t6_1:Sl) (t7_1:Int),LH 1 (fun x:Int=>[(0,(.pointer p0_1)),(6,(Sl.val t6_1)),(7,(.int .i64 t7_1)),(8,(.int .i64 x))]) (fun X x=>zCv.b1 Q X p0_1 t6_1 t7_1 x):=by intros; exact ⟨⟩
 exact g_walk 16 h Tryz.func89
def zBw.b2 (Q:K) (X1:Int→K) (X2:Int→K) (p0_2:(Option Addr)) (t82_2:Sl) (t83_2:Int) (t84_2:Int):K :=
 Ite (decide (t84_2 < t83_2))
  (Idx t82_2 t84_2 3 fun t86 =>
  LdN t86 3 fun t87 =>
  New 84 #[(.string ⟨#[]⟩),(.int .i64 0),(.int .u64 0)] fun m7 =>
  StN m7 3 t87 <|
  Ld (m7.add 1) (Value.int .i64) fun t90 =>
  Ar (IntKind.wrap .u64 t90) fun t91 =>
  zBJ.call p0_2 t91 <|
  Ld (m7.add 2) (Value.int .u64) fun t95 =>
  zBJ.call p0_2 t95 <|
  Ar (IntKind.wrap .i64 (t84_2 + 1)) fun t97 =>
  X2 t97)
  (Q)
def zBw.b1 (Q:K)  (X1:Int→K) (p0_1:(Option Addr)) (o3_1:Addr) (t55_1:Sl) (t56_1:Int) (t57_1:Int):K :=
 Ite (decide (t57_1 < t56_1))
  (Idx t55_1 t57_1 4 fun t59 =>
  LdN t59 4 fun t60 =>
  New 123 #[(.int .i64 0),(.string ⟨#[]⟩),(Sl.val ⟨none,0,0⟩),(.int .i64 0)] fun x5 =>
  StN x5 4 t60 <|
  Ld x5 (Value.int .i64) fun t63 =>
  Ar (IntKind.wrap .u64 t63) fun t64 =>
  zBJ.call p0_1 t64 <|
  Ld (x5.add 1) Value.string fun t68 =>
  Do Tryz.prog (convert 9 85 (.string t68)) Sl.val fun t69 =>
  zCm.call p0_1 t69 <|
  Ld (x5.add 2) Sl.val fun t73 =>
  zCm.call p0_1 t73 <|
  Ld (x5.add 3) (Value.int .i64) fun t77 =>
  zDu.call t77 fun t78 =>
  zBJ.call p0_1 t78 <|
  Ar (IntKind.wrap .i64 (t57_1 + 1)) fun t80 =>
  X1 t80)
  (Ld (o3_1.add 9) Sl.val fun t82 =>
  LoopK (α:=Int) (fun X x=>zBw.b2 Q X1 X p0_1 t82 (t82.n:Int) x) 0)
def zBw (p0:(Option Addr)) (o1:(Array Value)) (Q:K):K :=
 New 40 o1 fun o3 =>
 Ld o3 (Value.int .i64) fun t12 =>
 Ar (IntKind.wrap .u64 t12) fun t13 =>
 Ld (o3.add 1) (Value.int .u64) fun t17 =>
 Ld (o3.add 2) (Value.int .u64) fun t21 =>
 Ld (o3.add 3) (Value.int .i64) fun t24 =>
 Ar (IntKind.wrap .u64 t24) fun t25 =>
 Ld (o3.add 4) (Value.int .i64) fun t28 =>
 Ar (IntKind.wrap .u64 t28) fun t29 =>
 Ld ((o3.add 4).add 4) (Value.int .i64) fun t32 =>
 Ar (IntKind.wrap .u64 t32) fun t33 =>
 New 33 #[(.int .u64 t13),(.int .u64 t17),(.int .u64 t21),(.int .u64 t25),(.int .u64 t29),(.int .u64 t33)] fun t34 =>
 zCv.call p0 (Sl.mk (some t34) 6 6) <|
 Ld ((o3.add 4).add 1) Sl.val fun t39 =>
 zCj.call p0 t39 <|
 Ld ((o3.add 4).add 2) Sl.val fun t44 =>
 zCj.call p0 t44 <|
 Ld ((o3.add 4).add 3) Sl.val fun t49 =>
 Ar (IntKind.wrap .u64 (t49.n:Int)) fun t51 =>
 zBJ.call p0 t51 <|
 Ld ((o3.add 4).add 3) Sl.val fun t55 =>
 LoopK (α:=Int) (fun X x=>zBw.b1 Q X p0 o3 t55 (t55.n:Int) x) 0
theorem zLc (p0:(Option Addr)) (o1:(Array Value)) (Q:K) (w:World) (h:zBw p0 o1 Q w):zBw.call p0 o1 Q w:=by
 have hL14:∀ (X1:Int→K),XH 6 X1→∀ (p0_2:(Option Addr)) (t82_2:Sl) (t83_2:Int),LH 14 (fun x:Int=>[(0,(.pointer p0_2)),(82,(Sl.val t82_2)),(83,(.int .i64 t83_2)),(84,(.int .i64 x))]) (fun X x=>zBw.b2 Q X1 X p0_2 t82_2 t83_2 x):=by intros; exact ⟨⟩
 have hL6:∀ (p0_1:(Option Addr)) (o3_1:Addr) (t55_1:Sl) (t56_1:Int),LH 6 (fun x:Int=>[(0,(.pointer p0_1)),(3,(.pointer (some o3_1))),(55,(Sl.val t55_1)),(56,(.int .i64 t56_1)),(57,(.int .i64 x))]) (fun X x=>zBw.b1 Q X p0_1 o3_1 t55_1 t56_1 x):=by intros; exact ⟨⟩
 exact g_walk 98 h Tryz.func90
def zCj.b1 (Q:K)  (X1:Int→K) (p0_1:(Option Addr)) (t11_1:Sl) (t12_1:Int) (t13_1:Int):K :=
 Ite (decide (t13_1 < t12_1))
  (Idx t11_1 t13_1 1 fun t15 =>
  Ld t15 Value.string fun t16 =>
  Do Tryz.prog (convert 9 85 (.string t16)) Sl.val fun t19 =>
  zCm.call p0_1 t19 <|
  Ar (IntKind.wrap .i64 (t13_1 + 1)) fun t21 =>
  X1 t21)
  (Q)
def zCj (p0:(Option Addr)) (list1:Sl) (Q:K):K :=
 Ar (IntKind.wrap .u64 (list1.n:Int)) fun t9 =>
 zBJ.call p0 t9 <|
 LoopK (α:=Int) (fun X x=>zCj.b1 Q X p0 list1 (list1.n:Int) x) 0
theorem zLd (p0:(Option Addr)) (list1:Sl) (Q:K) (w:World) (h:zCj p0 list1 Q w):zCj.call p0 list1 Q w:=by
 have hL2:∀ (p0_1:(Option Addr)) (t11_1:Sl) (t12_1:Int),LH 2 (fun x:Int=>[(0,(.pointer p0_1)),(11,(Sl.val t11_1)),(12,(.int .i64 t12_1)),(13,(.int .i64 x))]) (fun X x=>zCj.b1 Q X p0_1 t11_1 t12_1 x):=by intros; exact ⟨⟩
 exact g_walk 22 h Tryz.func147
def zDu (n0:Int) (Q:Int→K):K :=
 Ar (IntKind.wrap .u64 n0) fun t4 =>
 Cd (0 ≤ (1:Int)) <|
 Ar (shlOf .u64 t4 1) fun t5 =>
 Cd (0 ≤ (63:Int)) <|
 Ar (shrOf .i64 n0 63) fun t7 =>
 Ar (IntKind.wrap .u64 t7) fun t8 =>
 Ar (bitsOf .xor .u64 t5 t8) fun t9 =>
 Q t9
theorem zKj (n0:Int) (Q:Int→K) (w:World) (h:zDu n0 Q w):zDu.call n0 Q w:=by
 exact g_walk 10 h Tryz.func149
end Go.Proofs.YtdemfamgieonbaaGreat
