/-
  Intervals that lie within a bound: products, quotients, squares, halves, roundings; small ones.
-/
import Derived.Test.YtlocddfailmnpaaGreatDoorQXa
import Derived.Scope
import Derived.ControlIn
set_option linter.unusedVariables false
set_option linter.unusedSimpArgs false
namespace Go.Proofs.YtlocddfailmnpaaGreatDoor
open Go Go.Sx
set_option maxHeartbeats 2000000
def bI (B:Rat) (x:Iv):Prop:=VI x∧(x.all=true∨(-B≤dv x.lo∧dv x.hi≤B))
theorem bI_w (B:Rat):bI B wI0:=⟨.inr rfl,.inl rfl⟩
theorem qcb {a b:Int} (h:a<b):pw a<pw b:=Rat.not_le.1 fun c=>by have:=zh5.1 c;omega
theorem pwF {p:Nat} {t:Int} (h1: -16384≤t) (h2:t<16384):inF p (pw t):=⟨1,t,(zml t).symm,Nat.one_le_two_pow,h1,qcb h2⟩
theorem zlk (t:Int):0≤pw t:=Rat.le_of_lt (zbo t)
theorem ze6 (t:Int):pw t*pw (-1)=pw (t-1):=by rw[←pwA];rfl
theorem zwa {d:Dy} (h:VD d):KI (vi d):=⟨rfl,h,h,zdz.2 Rat.le_refl⟩
theorem zdp {a b B C:Rat} (h1: -B≤a) (h2:a≤B) (h3: -C≤b) (h4:b≤C): -(B*C)≤a*b∧a*b≤B*C:=by
 have m1:=Rat.mul_nonneg (show 0≤B-a by grind) (show 0≤C+b by grind)
 have m2:=Rat.mul_nonneg (show 0≤B+a by grind) (show 0≤C-b by grind)
 have m3:=Rat.mul_nonneg (show 0≤B-a by grind) (show 0≤C-b by grind)
 have m4:=Rat.mul_nonneg (show 0≤B+a by grind) (show 0≤C+b by grind)
 constructor<;>grind
theorem zwc {p:Nat} {op:Rat→Rat→Rat} {dn up:Dy→Dy→Dy×Int} {x y:Iv} (f:F4 p op dn up x y) {b:Rat} (hb:inF p b) (h:zzu op x y (fun z=> -b≤z∧z≤b)) (ha:(jt dn up x y).all =false):
 -b≤dv (jt dn up x y).lo ∧dv (jt dn up x y).hi ≤b:=by
 obtain⟨_,_,h3,h4,_,_⟩:=zkc ha
 obtain⟨a1,a2,a3,a4⟩:=h
 have hn:Fp p (-b):= .inr (by rw[Rat.neg_neg];exact hb)
 have hp:Fp p b:= .inl hb
 exact⟨h3 (-b) (f.rt1.1.2 (-b) hn a1.1).2 (f.rt2.1.2 (-b) hn a2.1).2 (f.rt3.1.2 (-b) hn a3.1).2 (f.rt4.1.2 (-b) hn a4.1).2,
  h4 b (f.rt1.2.2 b hp a1.2).2 (f.rt2.2.2 b hp a2.2).2 (f.rt3.2.2 b hp a3.2).2 (f.rt4.2.2 b hp a4.2).2⟩
theorem bI.ends {B:Rat} {x:Iv} (h:bI B x) (k:KI x):(-B≤dv x.lo∧dv x.lo≤B)∧(-B≤dv x.hi∧dv x.hi≤B):=by
 rcases h.2 with c|⟨c1,c2⟩
 ·rw[k.all]at c;cases c
 ·have:=k.dle
  exact⟨⟨c1,Rat.le_trans this c2⟩,⟨Rat.le_trans c1 this,c2⟩⟩
theorem zxj {B C:Rat} {x y:Iv} (hx:bI B x) (hy:bI C y) {p:Int} (hp:pcB p=true) (hF:inF p.toNat (B*C)):bI (B*C) (zam x y p):=by
 refine⟨qcu hx.1 hy.1 hp,?_⟩
 cases ha:(zam x y p).all with
 |true=>exact .inl rfl
 |false=>
  right
  by_cases hk:KI x∧KI y
  ·rw[zw2 hk.1 hk.2 hp]at ha⊢
   obtain⟨⟨a1,a2⟩,⟨a3,a4⟩⟩:=hx.ends hk.1
   obtain⟨⟨b1,b2⟩,⟨b3,b4⟩⟩:=hy.ends hk.2
   exact zwc (zw3 hk.1 hk.2 (wm hp)) hF ⟨zdp a1 a2 b1 b2,zdp a1 a2 b3 b4,zdp a3 a4 b1 b2,zdp a3 a4 b3 b4⟩ ha
  ·rw[qcr hx.1.ri hy.1.ri hk]at ha;cases ha
def whI (n:Int):Iv:=vi (kc n)
theorem yp {n:Int} (h: -4611686018427387904≤n∧n≤4611686018427387904):KI (whI n):=zwa (kb n h)
theorem zpd {n:Int} (h:1≤n):(1:Rat)≤(n:Rat):=by
 have:=(Rat.intCast_le_intCast (a:=1) (b:=n)).2 h
 simpa using this
theorem zg9 {n:Rat} (h:1≤n): -1≤n⁻¹ ∧n⁻¹ ≤1:=by
 have h0:0<n:=by grind
 have hi:0<n⁻¹ :=Rat.inv_pos.2 h0
 have hm:=Rat.mul_inv_cancel n (by grind)
 have:=Rat.mul_nonneg (show 0≤n-1 by grind) (Rat.le_of_lt hi)
 constructor<;>grind
theorem ztj {B:Rat} {x:Iv} (hx:bI B x) {n:Int} (h1:1≤n) (h2:n≤4611686018427387904) {p:Int} (hp:pcB p=true) (hF:inF p.toNat B):bI B (xc x (whI n) p):=by
 have kn:=yp (n:=n) (by omega)
 have hn:=zpd h1
 have e:dv (whI n).lo =(n:Rat):=zaw n
 have e':dv (whI n).hi =(n:Rat):=zaw n
 have hs:0<dv (whI n).lo ∨dv (whI n).hi <0:= .inl (by rw[e];grind)
 refine⟨zl7 hx.1 (.inl kn) hp,?_⟩
 cases ha:(xc x (whI n) p).all with
 |true=>exact .inl rfl
 |false=>
  right
  by_cases hk:KI x
  ·rw[ziu hk kn hs hp]at ha⊢
   obtain⟨⟨a1,a2⟩,⟨a3,a4⟩⟩:=hx.ends hk
   obtain⟨i1,i2⟩:=zg9 hn
   have q: ∀a:Rat,-B≤a→a≤B→ -B≤a/(n:Rat)∧a/(n:Rat)≤B:=fun a c1 c2=>by
    have:=zdp c1 c2 i1 i2
    rwa [Rat.mul_one,←Rat.div_def]at this
   refine zwc (zob hk kn hs (wm hp)) hF ?_ ha
   unfold zzu
   rw[e,e']
   exact⟨q _ a1 a2,q _ a1 a2,q _ a3 a4,q _ a3 a4⟩
  ·rw[zs3 hx.1.ri kn.ri fun c=>hk c.1]at ha;cases ha
theorem zwf {x:Iv} (h:CI x) (hd:x.all=false→dv x.lo≤dv x.hi):VI x:=by
 cases ha:x.all with
 |true=>
  rcases h with rfl|⟨c,_⟩
  ·exact .inr rfl
  ·rw[ha]at c;cases c
 |false=>exact .inl (qan h ha (hd ha))
theorem zv4 {B:Rat} {x:Iv} (hx:bI B x) {p:Int} (hF:inF p.toNat B):bI B (ve x p):=by
 unfold ve
 split
 ·rename_i c
  obtain⟨c1,hp⟩:=c
  have k:=(qc hx.1.ri).1 c1
  have R1:=za3 k.lo (wm hp)
  have R2:=za3 k.hi (wm hp)
  obtain⟨⟨a1,a2⟩,⟨a3,a4⟩⟩:=hx.ends k
  refine⟨zus R1 R2 (kw (jg _ _ _ (wm hp)) (jg _ _ _ (wm hp))) k.dle,?_⟩
  cases ha:(wg (ql x.lo p.toNat false) (ql x.hi p.toNat true)).all with
  |true=>exact .inl rfl
  |false=>
   right
   rw[zbw ha]
   exact⟨(R1.1.2 (-B) (.inr (by rw[Rat.neg_neg];exact hF)) a1).2,(R2.2.2 B (.inl hF) a4).2⟩
 ·exact bI_w B
theorem zed {d:Dy} {k:Int} (h:(vr d k).2=0):dv (vr d k).1=dv d*pw k:=by
 unfold vr at h⊢
 split at h
 ·cases h
 ·rename_i c
  rw[if_neg c]
  unfold ckN at h⊢
  split at h
  ·rename_i c2
   rw[if_pos c2,zkj]
   have e:vN (nm d) (d.e+k)=vN (nm d) d.e*pw k:=by unfold vN;rw[pwA,Rat.mul_assoc]
   rw[e]
   unfold dv
   split
   ·grind
   ·rfl
  ·cases h
theorem zv3 {B:Rat} {x:Iv} (hx:bI B x) (k:Int):bI (B*pw k) (wh x k):=by
 unfold wh
 split
 ·rename_i c1
  have kx:=(qc hx.1.ri).1 c1
  obtain⟨⟨a1,a2⟩,⟨a3,a4⟩⟩:=hx.ends kx
  have hc:=kw (zbj x.lo k) (zbj x.hi k)
  cases ha:(wg (vr x.lo k) (vr x.hi k)).all with
  |true=>exact⟨zwf hc (fun c=>by rw[ha]at c;cases c),.inl ha⟩
  |false=>
   have e:=zbw ha
   obtain⟨o1,o2⟩:=zcq.1 ha
   have e1:dv (wg (vr x.lo k) (vr x.hi k)).lo =dv x.lo*pw k:=by rw[e];exact zed o1
   have e2:dv (wg (vr x.lo k) (vr x.hi k)).hi =dv x.hi*pw k:=by rw[e];exact zed o2
   refine⟨zwf hc fun _=>by rw[e1,e2];exact wa kx.dle (zlk k),.inr ?_⟩
   rw[e1,e2]
   exact⟨by rw[←Rat.neg_mul];exact wa a1 (zlk k),wa a4 (zlk k)⟩
 ·exact bI_w _
def sqI (x:Iv) (p:Int):Iv:=if kB x=true∧pcB p=true then wg (ji (zbu x) (zbu x) p.toNat false) (ji (kj x) (kj x) p.toNat true)else wI0
theorem zw4 {B:Rat} {x:Iv} (hx:bI B x) (k:KI x):0≤dv (kj x)∧dv (kj x)≤B∧(kj x).neg =false:=by
 obtain⟨⟨a1,a2⟩,⟨a3,a4⟩⟩:=hx.ends k
 have hm:kj x=ye (zah x.lo) (zah x.hi):=rfl
 obtain⟨_,_,h3⟩:=zjv (zah x.lo) (zah x.hi)
 rw[hm]
 rcases h3 with e|e<;>rw[e,zn6]
 ·exact⟨ze3 _,by unfold zgb;split<;>grind,rfl⟩
 ·exact⟨ze3 _,by unfold zgb;split<;>grind,rfl⟩
theorem CI_sq {x:Iv} (p:Int):CI (sqI x p):=by
 unfold sqI
 split
 ·rename_i h
  exact kw (ug _ _ _ _ (wm h.2)) (ug _ _ _ _ (wm h.2))
 ·exact zgf
theorem bI_sq {B:Rat} {x:Iv} (hx:bI B x) {p:Int} (hF:inF p.toNat (B*B)):bI (B*B) (sqI x p):=by
 unfold sqI
 split
 ·rename_i c
  obtain⟨c1,hp⟩:=c
  have k:=(qc hx.1.ri).1 c1
  obtain⟨g1,g2,_⟩:=zw4 hx k
  obtain⟨l1,l2,l3⟩:=qek k Rat.le_refl k.dle
  have l4:=Rat.le_trans l2 l3
  have R1:=zg3 (zkw k) (zkw k) (wm hp)
  have R2:=zg3 (zc6 k) (zc6 k) (wm hp)
  have s1:dv (zbu x)*dv (zbu x)≤dv (kj x)*dv (kj x):=zqn l1 l4
  have s2:dv (kj x)*dv (kj x)≤B*B:=zqn g1 g2
  have s0:0≤dv (zbu x)*dv (zbu x):=Rat.mul_nonneg l1 l1
  refine⟨zus R1 R2 (kw (ug _ _ _ _ (wm hp)) (ug _ _ _ _ (wm hp))) s1,?_⟩
  cases ha:(wg (ji (zbu x) (zbu x) p.toNat false) (ji (kj x) (kj x) p.toNat true)).all with
  |true=>exact .inl rfl
  |false=>
   right
   rw[zbw ha]
   refine⟨?_,(R2.2.2 (B*B) (.inl hF) s2).2⟩
   exact(R1.1.2 (-(B*B)) (.inr (by rw[Rat.neg_neg];exact hF)) (by grind)).2
 ·exact bI_w _
def smB (x:Iv) (p:Int):Bool:= !kB x||(decide (vu (kj x)=0)||decide (zk (kj x)≤ -p))
theorem qb2 {x:Iv} {p t:Int} (hx:bI (pw t) x) (h:smB x p=false): -p≤t:=by
 unfold smB at h
 rw[Bool.or_eq_false_iff,Bool.or_eq_false_iff]at h
 obtain⟨h1,h2,h3⟩:=h
 have k:=(qc hx.1.ri).1 (by simpa using h1)
 have h2:=of_decide_eq_false h2
 have h3:=of_decide_eq_false h3
 obtain⟨g1,g2,g3⟩:=zw4 hx k
 have hn:nm (kj x)≠0:=fun c=>h2 (by unfold vu;rw[if_pos c])
 unfold zk at h3
 rw[if_neg hn]at h3
 have hv:dv (kj x)=vN (nm (kj x)) (kj x).e :=by unfold dv;rw[g3];rfl
 have ht:=ud (n:=nm (kj x)) (e:=(kj x).e) (t:=(bl (nm (kj x)):Int)+(kj x).e -1) (by omega) hn
 rw[←hv]at ht
 have:=zh5.1 (Rat.le_trans ht g2)
 omega
end Go.Proofs.YtlocddfailmnpaaGreatDoor

namespace Go.Proofs.YtlocddfailmnpaaGreatDoor
open Go Go.Sx
set_option maxRecDepth 100000
set_option maxHeartbeats 8000000
theorem zt9 (n:Int) (h: -4611686018427387904≤n∧n≤4611686018427387904):Fn 134 G0 [.int .i64 n] (.agg (ivC (whI n))) G0:=by
 have h78:=v77 n h
 have h77:=qa4 (kb n h)
 show Fn 134 G0 [.int .i64 n] (.agg (ivC (vi (kc n)))) G0
 generalize kc n=d at*
 obtain⟨d1,d2,d3⟩:=d
 have h78:Fn 74 G0 [.int .i64 n] (.agg [.bool d1,.sl .u32 d2,.int .i64 d3]) G0:=h78
 have h77:Fn 90 [] [.agg [.bool d1,.sl .u32 d2,.int .i64 d3]] (.agg [.bool d1,.sl .u32 d2,.int .i64 d3,.bool d1,.sl .u32 d2,.int .i64 d3,.bool false]) []:=h77
 refine fnT hT6 hmx Tryz.func134 rfl rfl (ex:= []) ?_;conv=>whnf
 refine gZc h78 ?_;conv=>whnf
 refine gZn h77 ?_;conv=>whnf
 exact⟨lr rfl,leG⟩
def guP (p m:Int):Int:=min (p+m) 512
theorem x128 (p m:Int) (hp:0≤p∧p≤1000) (hm:0≤m∧m≤1000):Fn 136 [] [.int .i64 p,.int .i64 m] (.agg [.int .i64 (guP p m)]) []:=by
 refine fnT hT6 hmx Tryz.func136 rfl rfl (ex:= []) ?_;conv=>whnf
 exact⟨lg0 (lc (ai0 (by rw[wI (by omega)];unfold guP;rw[Int.min_def];split<;>split<;>omega)) ln0),lh0⟩
theorem x132 (x y:Iv) (hx:RI x) (hy:RI y) (p:Int):Fn 140 G0 [.agg [.int .i64 p],.agg (ivC x),.agg (ivC y)] (.agg (ivC (xc x y p))) G0:=by
 have h:=i85 x y hx hy p
 generalize xc x y p=R at*
 clear hx hy
 refine fnT hT6 hmx Tryz.func140 rfl rfl (ex:= []) ?_;conv=>whnf
 refine gZc h ?_;conv=>whnf
 exact⟨lr rfl,leG⟩
theorem zxx (x y:Iv) (hx:RI x) (hy:RI y) (p:Int):Fn 141 G0 [.agg [.int .i64 p],.agg (ivC x),.agg (ivC y)] (.agg (ivC (ux x y p))) G0:=by
 have h:=i82 x y hx hy p
 generalize ux x y p=R at*
 clear hx hy
 refine fnT hT6 hmx Tryz.func141 rfl rfl (ex:= []) ?_;conv=>whnf
 refine gZc h ?_;conv=>whnf
 exact⟨lr rfl,leG⟩
theorem x135 (x y:Iv) (hx:RI x) (hy:RI y) (p:Int):Fn 143 G0 [.agg [.int .i64 p],.agg (ivC x),.agg (ivC y)] (.agg (ivC (zam x y p))) G0:=by
 have h:=i84 x y hx hy p
 generalize zam x y p=R at*
 clear hx hy
 refine fnT hT6 hmx Tryz.func143 rfl rfl (ex:= []) ?_;conv=>whnf
 refine gZc h ?_;conv=>whnf
 exact⟨lr rfl,leG⟩
theorem zq1 (d:Dy):vu d=0∨vu d=1∨vu d= -1:=by
 unfold vu
 split
 ·exact .inl rfl
 ·split
  ·exact .inr (.inr rfl)
  ·exact .inr (.inl rfl)
theorem x202 (x:Iv) (hx:RI x) (p:Int) (hp:0≤p∧p≤1000):Fn 182 [] [.agg [.int .i64 p],.agg (ivC x)] (.bool (smB x p)) []:=by
 have h120:=i182 x hx
 have hw:IntKind.i64.wrap (0-p)= -p:=by rw[wI (by omega)];omega
 have hR:smB x p=(!kB x||(decide (vu (kj x)=0)||decide (zk (kj x)≤ -p))):=rfl
 generalize smB x p=R at*
 by_cases hk:kB x=true
 ·have k:=(qc hx).1 hk
  rw[if_pos hk,hk]at h120
  rw[hk,Bool.not_true,Bool.false_or]at hR
  have vm:=zc6 k
  have h81:=zp6 vm
  have h127:=zmm vm
  have hs:=zq1 (kj x)
  generalize kj x=M at*
  generalize vu M=S at*
  generalize zk M=t at*
  clear hk k hx vm
  rcases hs with rfl|rfl|rfl
  ·subst hR
   refine fnT hT6 hmx Tryz.func182 rfl rfl (ex:= []) ?_;conv=>whnf
   refine gZn h120 ?_;conv=>whnf
   refine gZn h81 ?_;conv=>whnf
   (refine⟨by kernel_rfl,by kernel_rfl,?_⟩;(conv=>whnf))
   exact⟨lr rfl,lh0⟩
  ·refine fnT hT6 hmx Tryz.func182 rfl rfl (ex:= []) ?_;conv=>whnf
   refine gZn h120 ?_;conv=>whnf
   refine gZn h81 ?_;conv=>whnf
   refine gZn h127 ?_;conv=>whnf
   (refine⟨by kernel_rfl,by kernel_rfl,?_⟩;(conv=>whnf))
   exact⟨ab0 (by rw[hw,hR];rfl),lh0⟩
  ·refine fnT hT6 hmx Tryz.func182 rfl rfl (ex:= []) ?_;conv=>whnf
   refine gZn h120 ?_;conv=>whnf
   refine gZn h81 ?_;conv=>whnf
   refine gZn h127 ?_;conv=>whnf
   (refine⟨by kernel_rfl,by kernel_rfl,?_⟩;(conv=>whnf))
   exact⟨ab0 (by rw[hw,hR];rfl),lh0⟩
 ·have hk:kB x=false:=by simpa using hk
  rw[hk,if_neg (by simp)]at h120
  rw[hk]at hR
  subst hR
  clear hk hx
  refine fnT hT6 hmx Tryz.func182 rfl rfl (ex:= []) ?_;conv=>whnf
  refine gZn h120 ?_;conv=>whnf
  (refine⟨by kernel_rfl,by kernel_rfl,?_⟩;(conv=>whnf))
  exact⟨lr rfl,lh0⟩
def arI (x:Iv):Iv:=if kB x=true then⟨xj (kj x),kj x,false⟩else wI0
theorem qe2 {x:Iv} (hx:RI x):CI (arI x):=by
 unfold arI
 split
 ·rename_i h
  have k:=(qc hx).1 h
  exact .inr ⟨rfl,zc5 (zc6 k),zc6 k⟩
 ·exact zgf
theorem x203 (x:Iv) (hx:RI x):Fn 183 [] [.agg (ivC x)] (.agg (ivC (arI x))) []:=by
 have h120:=i182 x hx
 have h25:=i25
 rw[e25]at h25
 have hR:arI x=if kB x=true then⟨xj (kj x),kj x,false⟩else wI0:=rfl
 generalize arI x=R at*
 by_cases hk:kB x=true
 ·have k:=(qc hx).1 hk
  rw[if_pos hk,hk]at h120
  rw[if_pos hk]at hR
  have vm:=zc6 k
  have h76:=zx0 vm
  rw[show(if nm (kj x)=0 then d0 else⟨!(kj x).neg,(kj x).m,(kj x).e⟩)=xj (kj x)from rfl]at h76
  generalize xj (kj x)=N at*
  generalize kj x=M at*
  subst hR
  clear hk k hx vm
  refine fnT hT6 hmx Tryz.func183 rfl rfl (ex:= []) ?_;conv=>whnf
  refine gZn h120 ?_;conv=>whnf
  refine gZn h76 ?_;conv=>whnf
  (refine⟨by kernel_rfl,by kernel_rfl,?_⟩;(conv=>whnf))
  exact⟨lr rfl,lh0⟩
 ·have hk:kB x=false:=by simpa using hk
  rw[hk,if_neg (by simp)]at h120
  rw[if_neg (by rw[hk];simp)]at hR
  subst hR
  clear hk hx
  refine fnT hT6 hmx Tryz.func183 rfl rfl (ex:= []) ?_;conv=>whnf
  refine gZn h120 ?_;conv=>whnf
  refine gZn h25 ?_;conv=>whnf
  exact⟨lr rfl,lh0⟩
theorem x200 (x:Iv) (h:RI x) (p:Int):Fn 180 G0 [.agg (ivC x),.int .i64 p] (.agg (ivC (sqI x p))) G0:=by
 have h79:=i137 x h
 have h127:=zw8 p
 have h25:=i25
 rw[e25]at h25
 have hR:sqI x p=if kB x=true∧pcB p=true then wg (ji (zbu x) (zbu x) p.toNat false) (ji (kj x) (kj x) p.toNat true)else wI0:=rfl
 generalize sqI x p=R at*
 have hA:zxm x=if kB x=true then⟨zbu x,kj x,false⟩else wI0:=rfl
 by_cases hk:kB x=true
 ·rw[hA,if_pos hk]at h79
  by_cases hp:pcB p=true
  ·rw[hp]at h127
   rw[if_pos ⟨hk,hp⟩]at hR
   have kx:=(qc h).1 hk
   obtain⟨q,rfl,hq⟩:=yy.1 hp
   rw[Int.toNat_natCast]at hR
   have n1:=qay (zkw kx) (zkw kx) q hq
   have n2:=qax (zc6 kx) (zc6 kx) q hq
   have n3:=qa5 (ji (zbu x) (zbu x) q false) (ji (kj x) (kj x) q true)
   rw[←hR]at n3
   generalize ji (zbu x) (zbu x) q false=a at*
   generalize ji (kj x) (kj x) q true=b at*
   generalize zbu x=g at*
   generalize kj x=m at*
   clear kx h hk hR hA
   obtain⟨⟨a1,a2,a3⟩,e⟩:=a
   obtain⟨⟨b1,b2,b3⟩,f⟩:=b
   refine fnT hT6 hmx Tryz.func180 rfl rfl (ex:= []) ?_;conv=>whnf
   refine gZn h79 ?_;conv=>whnf
   refine gZn h127 ?_;conv=>whnf
   refine gZc n1 ?_;conv=>whnf
   refine gZc n2 ?_;conv=>whnf
   refine gZn n3 ?_;conv=>whnf
   exact⟨lr rfl,leG⟩
  ·rw[if_neg fun c=>hp c.2]at hR
   rw[show pcB p=false by simpa using hp]at h127
   subst hR
   generalize zbu x=g at*
   generalize kj x=m at*
   clear h hk hp hA
   refine fnT hT6 hmx Tryz.func180 rfl rfl (ex:= []) ?_;conv=>whnf
   refine gZn h79 ?_;conv=>whnf
   refine gZn h127 ?_;conv=>whnf
   refine gZn h25 ?_;conv=>whnf
   exact⟨lr rfl,leG⟩
 ·rw[hA,if_neg hk]at h79
  rw[if_neg fun c=>hk c.1]at hR
  subst hR
  clear h hk hA
  refine fnT hT6 hmx Tryz.func180 rfl rfl (ex:= []) ?_;conv=>whnf
  refine gZn h79 ?_;conv=>whnf
  refine gZn h25 ?_;conv=>whnf
  exact⟨lr rfl,leG⟩
def edI (a b:Iv):Iv:=if a.all=true∨b.all=true then wI0 else⟨a.lo,b.hi,false⟩
theorem qe0 {a b:Iv} (ha:CI a) (hb:CI b):CI (edI a b):=by
 unfold edI
 split
 ·exact zgf
 ·rename_i h
  rcases ha with rfl|⟨_,a1,_⟩
  ·exact absurd (.inl rfl) h
  ·rcases hb with rfl|⟨_,_,b1⟩
   ·exact absurd (.inr rfl) h
   ·exact .inr ⟨rfl,a1,b1⟩
theorem x86 (a b:Iv):Fn 95 [] [.agg (ivC a),.agg (ivC b)] (.agg (ivC (edI a b))) []:=by
 have h25:=i25
 rw[e25]at h25
 obtain⟨⟨a1,a2,a3⟩,⟨a4,a5,a6⟩,a7⟩:=a
 obtain⟨⟨b1,b2,b3⟩,⟨b4,b5,b6⟩,b7⟩:=b
 show Fn 95 [] [.agg [.bool a1,.sl .u32 a2,.int .i64 a3,.bool a4,.sl .u32 a5,.int .i64 a6,.bool a7],.agg [.bool b1,.sl .u32 b2,.int .i64 b3,.bool b4,.sl .u32 b5,.int .i64 b6,.bool b7]] _ []
 cases a7 with
 |true=>
  refine fnT hT6 hmx Tryz.func95 rfl rfl (ex:= []) ?_;conv=>whnf
  refine gZn h25 ?_;conv=>whnf
  exact⟨lr rfl,lh0⟩
 |false=>
  cases b7 with
  |true=>
   refine fnT hT6 hmx Tryz.func95 rfl rfl (ex:= []) ?_;conv=>whnf
   refine gZn h25 ?_;conv=>whnf
   exact⟨lr rfl,lh0⟩
  |false=>
   refine fnT hT6 hmx Tryz.func95 rfl rfl (ex:= []) ?_;conv=>whnf
   exact⟨lr rfl,lh0⟩
def ftB (x:Iv) (p:Int):Bool:=kB x&&pcB p
theorem kB_vi {x:Iv} (hx:RI x) (vx:VI x):kB x= !x.all:=by
 rcases vx with k|rfl
 ·rw[(qc hx).2 k,k.all];rfl
 ·rfl
theorem x84 (x:Iv) (hx:RI x) (p:Int):Fn 93 [] [.agg (ivC x),.int .i64 p] (.bool (ftB x p)) []:=by
 have h17:=i51 x hx
 have hR:ftB x p=(kB x&&pcB p):=rfl
 have hp:pcB p=true↔8≤p∧p≤512:=by unfold pcB;simp
 generalize ftB x p=R at*
 by_cases ha:x.all=true
 ·have hk:kB x=false:=by
   by_cases c:kB x=true
   ·have:=(qc hx).1 c
    rw[this.all]at ha;cases ha
   ·simpa using c
  rw[hk,Bool.false_and]at hR
  subst hR
  clear h17 hx hk
  obtain⟨⟨x1,x2,x3⟩,⟨x4,x5,x6⟩,x7⟩:=x
  obtain rfl:x7=true:=ha
  show Fn 93 [] [.agg [.bool x1,.sl .u32 x2,.int .i64 x3,.bool x4,.sl .u32 x5,.int .i64 x6,.bool true],.int .i64 p] _ []
  refine fnT hT6 hmx Tryz.func93 rfl rfl (ex:= []) ?_;conv=>whnf
  exact⟨lr rfl,lh0⟩
 have ha:x.all=false:=by simpa using ha
 by_cases hv:viB x=true
 ·have vx:=(zes hx).1 hv
  rw[hv]at h17
  rw[kB_vi hx vx,ha,Bool.not_false,Bool.true_and]at hR
  clear hv vx hx
  obtain⟨⟨x1,x2,x3⟩,⟨x4,x5,x6⟩,x7⟩:=x
  obtain rfl:x7=false:=ha
  have h17:Fn 18 [] [.agg [.bool x1,.sl .u32 x2,.int .i64 x3,.bool x4,.sl .u32 x5,.int .i64 x6,.bool false]] (.bool true) []:=h17
  show Fn 93 [] [.agg [.bool x1,.sl .u32 x2,.int .i64 x3,.bool x4,.sl .u32 x5,.int .i64 x6,.bool false],.int .i64 p] _ []
  refine fnT hT6 hmx Tryz.func93 rfl rfl (ex:= []) ?_;conv=>whnf
  refine gZn h17 ?_;conv=>whnf
  refine brI (fun k1=>?_) (fun k1=>?_)
  ·have k1:8≤p:=of_decide_eq_true k1
   conv=>whnf
   refine⟨ab0 ?_,lh0⟩
   rw[hR,Bool.eq_iff_iff,decide_eq_true_eq,hp]
   exact⟨fun h=>⟨k1,h⟩,fun h=>h.2⟩
  ·have k1: ¬8≤p:=of_decide_eq_false k1
   rw[show pcB p=false by rw[←Bool.not_eq_true,hp];omega]at hR
   subst hR
   conv=>whnf
   exact⟨lr rfl,lh0⟩
 ·have hk:kB x=false:=by
   by_cases c:kB x=true
   ·exact absurd ((zes hx).2 (.inl ((qc hx).1 c))) hv
   ·simpa using c
  rw[hk,Bool.false_and]at hR
  subst hR
  rw[show viB x=false by simpa using hv]at h17
  clear hv hx hk
  obtain⟨⟨x1,x2,x3⟩,⟨x4,x5,x6⟩,x7⟩:=x
  obtain rfl:x7=false:=ha
  have h17:Fn 18 [] [.agg [.bool x1,.sl .u32 x2,.int .i64 x3,.bool x4,.sl .u32 x5,.int .i64 x6,.bool false]] (.bool false) []:=h17
  show Fn 93 [] [.agg [.bool x1,.sl .u32 x2,.int .i64 x3,.bool x4,.sl .u32 x5,.int .i64 x6,.bool false],.int .i64 p] _ []
  refine fnT hT6 hmx Tryz.func93 rfl rfl (ex:= []) ?_;conv=>whnf
  refine gZn h17 ?_;conv=>whnf
  exact⟨lr rfl,lh0⟩
def mdB (d:Dy):Bool:=decide (qo (zah d) (kc 1000)≤0)
theorem x85 {d:Dy} (hd:VD d):Fn 94 G0 [.agg (dyC d)] (.bool (mdB d)) G0:=by
 have h125:=qbm hd
 have h78:=v77 1000 (by decide)
 have h55:=v81 (zc7 hd) (kb 1000 (by decide))
 have hR:mdB d=decide (qo (zah d) (kc 1000)≤0):=rfl
 generalize mdB d=R at*
 generalize qo (zah d) (kc 1000)=C at*
 generalize zah d=a at*
 generalize kc 1000=t at*
 clear hd
 refine fnT hT6 hmx Tryz.func94 rfl rfl (ex:= []) ?_;conv=>whnf
 refine gZn h125 ?_;conv=>whnf
 refine gZc h78 ?_;conv=>whnf
 refine gZn h55 ?_;conv=>whnf
 exact⟨ab0 (by rw[hR]),leG⟩
end Go.Proofs.YtlocddfailmnpaaGreatDoor

namespace Go.Proofs.YtlocddfailmnpaaGreatDoor
open Go Go.Sx
set_option maxRecDepth 100000
set_option maxHeartbeats 8000000
theorem zq2 {P:Program} {T:Tab} {res:List ResultVar} {ex:List Nat} {r:AV} {H':Hp} {c b:Code} {σ:St} (e:c= .scope b) (h:SemOK P T res ex r H' b σ):SemOK P T res ex r H' c σ:=
 ⟨fun c0 a w Q hr hq=>by
  subst e
  exact wpIn_wide.2 (wp_scope_straight (wpIn_wide.1 (h.sem c0 a w (Exit.noGoto Q) hr fun x τ a w hr hf=>by
   cases x with
   |normal=>exact hq _ τ a w hr hf
   |ret=>exact hq _ τ a w hr hf
   |exit _=>exact hf.elim
   |goto _=>exact hf.elim
   |panic _=>exact hf.elim
   |outgrown=>exact hf.elim)))⟩
theorem zq3 {P:Program} {T:Tab} {res:List ResultVar} {ex:List Nat} {r:AV} {H':Hp} {c b:Code} {l:Nat} {σ:St} (e:c= .seq (.label l) b) (h:SemOK P T res ex r H' b σ):SemOK P T res ex r H' c σ:=
 ⟨fun c0 a w Q hr hq=>by
  subst e
  exact wpIn_seq (wpIn_label (h.sem c0 a w Q hr hq))⟩
def zx1:Code→Code
 | .scope b=>b
 | _=> .skip
def zx2:Code→Code
 | .seq (.label _) b=>b
 | _=> .skip
def exG (y:Iv) (p:Int):Nat→Nat→Iv→Iv→Iv×Iv
 |0,_,t,s=>(t,s)
 |f+1,n,t,s=>if smB (xc (zam t y p) (whI n) p) p=true then(xc (zam t y p) (whI n) p,ux s (xc (zam t y p) (whI n) p) p)else exG y p f (n+1) (xc (zam t y p) (whI n) p) (ux s (xc (zam t y p) (whI n) p) p)
def exI (y:Iv) (p:Int):Iv:=ux (exG y p (p.toNat+2) 1 (whI 1) (whI 1)).2 (arI (exG y p (p.toNat+2) 1 (whI 1) (whI 1)).1) p
theorem qef:bI (pw 0) (whI 1):=by
 refine⟨.inl (yp (by decide)),.inr ?_⟩
 have e:dv (whI 1).lo =1:=zaw 1
 have e':dv (whI 1).hi =1:=zaw 1
 have e2:pw 0=1:=rfl
 rw[e,e',e2]
 constructor<;>decide
noncomputable def zth:Code:=Tryz.f179.body.getD .skip
noncomputable def qdb:Code:=zx1 (zkk 1 zth)
noncomputable def qds:Code:=zx2 (zkk 1 qdb)
theorem x199 (y:Iv) (hy:bI (pw (-1)) y) (p:Int) (hp:pcB p=true):Fn 179 G0 [.agg [.int .i64 p],.agg (ivC y)] (.agg (ivC (exI y p))) G0:=by
 have hp8:8≤p∧p≤512:=by unfold pcB at hp;simpa using hp
 have hR:exI y p=ux (exG y p (p.toNat+2) 1 (whI 1) (whI 1)).2 (arI (exG y p (p.toNat+2) 1 (whI 1) (whI 1)).1) p:=rfl
 generalize exI y p=R at*
 obtain⟨E,hE⟩: ∃E,exG y p (p.toNat+2) 1 (whI 1) (whI 1)=E:=⟨_,rfl⟩
 rw[hE]at hR
 have hw1:=zt9 1 (by decide)
 have cw:CI (whI 1):= .inr ⟨rfl,(yp (n:=1) (by decide)).lo,(yp (n:=1) (by decide)).hi⟩
 have bw:=qef
 have hst: ∃w:Iv,w=whI 1:=⟨_,rfl⟩
 obtain⟨w,hw⟩:=hst
 rw[←hw]at hw1 cw bw hE
 clear hw
 obtain⟨⟨y1,y2,y3⟩,⟨y4,y5,y6⟩,y7⟩:=y
 obtain⟨⟨w1,w2,w3⟩,⟨w4,w5,w6⟩,w7⟩:=w
 show Fn 179 G0 [.agg [.int .i64 p],.agg [.bool y1,.sl .u32 y2,.int .i64 y3,.bool y4,.sl .u32 y5,.int .i64 y6,.bool y7]] _ G0
 have hw1:Fn 134 G0 [.int .i64 1] (.agg [.bool w1,.sl .u32 w2,.int .i64 w3,.bool w4,.sl .u32 w5,.int .i64 w6,.bool w7]) G0:=hw1
 refine wl (code:=zth) hT6 hmx Tryz.func179 rfl rfl (ex:= []) ?_;conv=>whnf
 refine kf hT6 hmx 1 (fun _:Unit=>⟨[.any,.any,.ptr 2 0,.ptr 3 0,.ptr 4 0]++zd0 27,[(2,.cells [.int .i64 p]),(3,.cells [.bool y1,.sl .u32 y2,.int .i64 y3,.bool y4,.sl .u32 y5,.int .i64 y6,.bool y7]),(4,.cells [.any,.any,.any,.any,.any,.any,.any]),(5,.free),(6,.free),(qr,.gst JT)]⟩) (fun _=>by kernel_rfl) ?_ (fun _=>?_)
 ·conv=>whnf
  refine⟨(),?_⟩
  ((conv=>whnf);refine And.intro ?_ ?_;repeat' first|refine lc ?_ ?_|exact la0|exact lr rfl|exact ln0|refine lh1 ?_ ?_|exact lh0|exact bf0|exact bd0|refine bc0 ?_|exact bm0 rfl|exact bb0 rfl|exact bg0 rfl|exact li0 rfl|refine lg0 ?_|refine lt0 ?_|fail)
 refine zq2 (b:=qdb) (by kernel_rfl) ?_
 refine kf hT6 hmx 1 (fun _:Unit=>⟨[.any,.any,.ptr 2 0,.ptr 3 0,.ptr 4 0,.ptr 5 0,.ptr 6 0]++zd0 25,[(2,.cells [.int .i64 p]),(3,.cells [.bool y1,.sl .u32 y2,.int .i64 y3,.bool y4,.sl .u32 y5,.int .i64 y6,.bool y7]),(4,.cells [.any,.any,.any,.any,.any,.any,.any]),(5,.cells [.bool w1,.sl .u32 w2,.int .i64 w3,.bool w4,.sl .u32 w5,.int .i64 w6,.bool w7]),(6,.cells [.bool w1,.sl .u32 w2,.int .i64 w3,.bool w4,.sl .u32 w5,.int .i64 w6,.bool w7]),(qr,.gst JT)]⟩) (fun _=>by kernel_rfl) ?_ (fun _=>?_)
 ·conv=>whnf
  refine gZc hw1 ?_;conv=>whnf
  refine gZc hw1 ?_;conv=>whnf
  refine⟨(),?_⟩
  ((conv=>whnf);refine And.intro ?_ ?_;repeat' first|refine lc ?_ ?_|exact la0|exact lr rfl|exact ln0|refine lh1 ?_ ?_|exact lh0|exact bf0|exact bd0|refine bc0 ?_|exact bm0 rfl|exact bb0 rfl|exact bg0 rfl|exact li0 rfl|refine lg0 ?_|refine lt0 ?_|fail)
 refine zq3 (l:=0) (b:=qds) (by kernel_rfl) ?_
 refine wj hT6 hmx ?_;conv=>whnf
 refine⟨Nat×Nat×Iv×Iv,fun x=>1≤x.2.1∧(x.2.1:Int)≤p+1∧(x.2.1:Int)+x.1=p+3∧bI (pw (1-x.2.1)) x.2.2.1∧CI x.2.2.2∧exG ⟨⟨y1,y2,y3⟩,⟨y4,y5,y6⟩,y7⟩ p x.1 x.2.1 x.2.2.1 x.2.2.2=E,fun x=> [(7,.int .i64 x.2.1)],fun x=> [(5,.cells (ivC x.2.2.1)),(6,.cells (ivC x.2.2.2))],fun x=>x.1,
  (p.toNat+2,1,⟨⟨w1,w2,w3⟩,⟨w4,w5,w6⟩,w7⟩,⟨⟨w1,w2,w3⟩,⟨w4,w5,w6⟩,w7⟩),⟨Nat.le_refl 1,by simp only;omega,by simp only;omega,bw,cw,hE⟩,?_,fun x hx=>?_⟩
 ·((conv=>whnf);refine And.intro ?_ ?_;repeat' first|refine lc ?_ ?_|exact la0|exact lr rfl|exact ln0|refine lh1 ?_ ?_|exact lh0|exact bf0|exact bd0|refine bc0 ?_|exact bm0 rfl|exact bb0 rfl|exact bg0 rfl|exact li0 rfl|refine lg0 ?_|refine lt0 ?_|fail)
 (refine⟨by kernel_rfl,?_⟩;(conv=>whnf))
 obtain⟨f,n,t,s⟩:=x
 obtain⟨hx1,hx0,hx2,hx3,hx4,hx5⟩:=hx
 simp only at hx0 hx1 hx2 hx3 hx4 hx5
 cases f with
 |zero=>omega
 |succ f=>
  simp only[exG]at hx5
  have b1:=zxj hx3 hy hp (by rw[ze6];exact pwF (by omega) (by omega))
  rw[ze6]at b1
  have b2:=ztj b1 (n:=n) (by omega) (by omega) hp (pwF (by omega) (by omega))
  have c1:=x135 t ⟨⟨y1,y2,y3⟩,⟨y4,y5,y6⟩,y7⟩ hx3.1.ri hy.1.ri p
  have c2:=zt9 n (by omega)
  have c3:=x132 _ _ b1.1.ri (yp (n:=n) (by omega)).ri p
  have c4:=zxx s _ hx4.ri b2.1.ri p
  have S4:=zd4 s (xc (zam t ⟨⟨y1,y2,y3⟩,⟨y4,y5,y6⟩,y7⟩ p) (whI n) p) p
  have c5:=x202 _ b2.1.ri p (by omega)
  have c6:=x203 _ b2.1.ri
  have c7:=zxx _ _ S4.ri (qe2 b2.1.ri).ri p
  have hs:smB (xc (zam t ⟨⟨y1,y2,y3⟩,⟨y4,y5,y6⟩,y7⟩ p) (whI n) p) p=false→(n:Int)≤p:=fun h=>by have:=qb2 b2 h;omega
  generalize zam t ⟨⟨y1,y2,y3⟩,⟨y4,y5,y6⟩,y7⟩ p=M at*
  generalize whI n=W at*
  generalize xc M W p=D at*
  generalize ux s D p=S at*
  generalize smB D p=B at*
  have hb3:bI (pw (1-((n+1:Nat):Int))) D:=by
   have e:(1:Int)-n-1=1-((n+1:Nat):Int):=by omega
   rwa [e]at b2
  clear b1 b2 hx3 hx4 hy
  cases B with
  |true=>
   rw[if_pos rfl]at hx5
   rw[←hx5]at hR
   simp only at hR
   rw[←hR]at c7
   clear hR hx5 hE
   generalize arI D=A at*
   obtain⟨⟨t1,t2,t3⟩,⟨t4,t5,t6⟩,t7⟩:=t
   obtain⟨⟨s1,s2,s3⟩,⟨s4,s5,s6⟩,s7⟩:=s
   obtain⟨⟨m1,m2,m3⟩,⟨m4,m5,m6⟩,m7⟩:=M
   obtain⟨⟨v1,v2,v3⟩,⟨v4,v5,v6⟩,v7⟩:=W
   obtain⟨⟨d1,d2,d3⟩,⟨d4,d5,d6⟩,d7⟩:=D
   obtain⟨⟨z1,z2,z3⟩,⟨z4,z5,z6⟩,z7⟩:=S
   obtain⟨⟨a1,a2,a3⟩,⟨a4,a5,a6⟩,a7⟩:=A
   obtain⟨⟨r1,r2,r3⟩,⟨r4,r5,r6⟩,r7⟩:=R
   have c1:Fn 143 G0 [.agg [.int .i64 p],.agg [.bool t1,.sl .u32 t2,.int .i64 t3,.bool t4,.sl .u32 t5,.int .i64 t6,.bool t7],.agg [.bool y1,.sl .u32 y2,.int .i64 y3,.bool y4,.sl .u32 y5,.int .i64 y6,.bool y7]] (.agg [.bool m1,.sl .u32 m2,.int .i64 m3,.bool m4,.sl .u32 m5,.int .i64 m6,.bool m7]) G0:=c1
   have c2:Fn 134 G0 [.int .i64 n] (.agg [.bool v1,.sl .u32 v2,.int .i64 v3,.bool v4,.sl .u32 v5,.int .i64 v6,.bool v7]) G0:=c2
   have c3:Fn 140 G0 [.agg [.int .i64 p],.agg [.bool m1,.sl .u32 m2,.int .i64 m3,.bool m4,.sl .u32 m5,.int .i64 m6,.bool m7],.agg [.bool v1,.sl .u32 v2,.int .i64 v3,.bool v4,.sl .u32 v5,.int .i64 v6,.bool v7]] (.agg [.bool d1,.sl .u32 d2,.int .i64 d3,.bool d4,.sl .u32 d5,.int .i64 d6,.bool d7]) G0:=c3
   have c4:Fn 141 G0 [.agg [.int .i64 p],.agg [.bool s1,.sl .u32 s2,.int .i64 s3,.bool s4,.sl .u32 s5,.int .i64 s6,.bool s7],.agg [.bool d1,.sl .u32 d2,.int .i64 d3,.bool d4,.sl .u32 d5,.int .i64 d6,.bool d7]] (.agg [.bool z1,.sl .u32 z2,.int .i64 z3,.bool z4,.sl .u32 z5,.int .i64 z6,.bool z7]) G0:=c4
   have c5:Fn 182 [] [.agg [.int .i64 p],.agg [.bool d1,.sl .u32 d2,.int .i64 d3,.bool d4,.sl .u32 d5,.int .i64 d6,.bool d7]] (.bool true) []:=c5
   have c6:Fn 183 [] [.agg [.bool d1,.sl .u32 d2,.int .i64 d3,.bool d4,.sl .u32 d5,.int .i64 d6,.bool d7]] (.agg [.bool a1,.sl .u32 a2,.int .i64 a3,.bool a4,.sl .u32 a5,.int .i64 a6,.bool a7]) []:=c6
   have c7:Fn 141 G0 [.agg [.int .i64 p],.agg [.bool z1,.sl .u32 z2,.int .i64 z3,.bool z4,.sl .u32 z5,.int .i64 z6,.bool z7],.agg [.bool a1,.sl .u32 a2,.int .i64 a3,.bool a4,.sl .u32 a5,.int .i64 a6,.bool a7]] (.agg [.bool r1,.sl .u32 r2,.int .i64 r3,.bool r4,.sl .u32 r5,.int .i64 r6,.bool r7]) G0:=c7
   refine gZc c1 ?_;conv=>whnf
   refine gZc c2 ?_;conv=>whnf
   refine gZc c3 ?_;conv=>whnf
   (refine⟨by kernel_rfl,by kernel_rfl,?_⟩;(conv=>whnf))
   refine gZc c4 ?_;conv=>whnf
   refine gZn c5 ?_;conv=>whnf
   refine gZn c6 ?_;conv=>whnf
   refine gZc c7 ?_;conv=>whnf
   (refine⟨by kernel_rfl,by kernel_rfl,?_⟩;(conv=>whnf))
   exact⟨lr rfl,leG⟩
  |false=>
   rw[if_neg (by decide)]at hx5
   have hn:=hs rfl
   clear hR c6 c7 hE
   obtain⟨⟨t1,t2,t3⟩,⟨t4,t5,t6⟩,t7⟩:=t
   obtain⟨⟨s1,s2,s3⟩,⟨s4,s5,s6⟩,s7⟩:=s
   obtain⟨⟨m1,m2,m3⟩,⟨m4,m5,m6⟩,m7⟩:=M
   obtain⟨⟨v1,v2,v3⟩,⟨v4,v5,v6⟩,v7⟩:=W
   obtain⟨⟨d1,d2,d3⟩,⟨d4,d5,d6⟩,d7⟩:=D
   obtain⟨⟨z1,z2,z3⟩,⟨z4,z5,z6⟩,z7⟩:=S
   have c1:Fn 143 G0 [.agg [.int .i64 p],.agg [.bool t1,.sl .u32 t2,.int .i64 t3,.bool t4,.sl .u32 t5,.int .i64 t6,.bool t7],.agg [.bool y1,.sl .u32 y2,.int .i64 y3,.bool y4,.sl .u32 y5,.int .i64 y6,.bool y7]] (.agg [.bool m1,.sl .u32 m2,.int .i64 m3,.bool m4,.sl .u32 m5,.int .i64 m6,.bool m7]) G0:=c1
   have c2:Fn 134 G0 [.int .i64 n] (.agg [.bool v1,.sl .u32 v2,.int .i64 v3,.bool v4,.sl .u32 v5,.int .i64 v6,.bool v7]) G0:=c2
   have c3:Fn 140 G0 [.agg [.int .i64 p],.agg [.bool m1,.sl .u32 m2,.int .i64 m3,.bool m4,.sl .u32 m5,.int .i64 m6,.bool m7],.agg [.bool v1,.sl .u32 v2,.int .i64 v3,.bool v4,.sl .u32 v5,.int .i64 v6,.bool v7]] (.agg [.bool d1,.sl .u32 d2,.int .i64 d3,.bool d4,.sl .u32 d5,.int .i64 d6,.bool d7]) G0:=c3
   have c4:Fn 141 G0 [.agg [.int .i64 p],.agg [.bool s1,.sl .u32 s2,.int .i64 s3,.bool s4,.sl .u32 s5,.int .i64 s6,.bool s7],.agg [.bool d1,.sl .u32 d2,.int .i64 d3,.bool d4,.sl .u32 d5,.int .i64 d6,.bool d7]] (.agg [.bool z1,.sl .u32 z2,.int .i64 z3,.bool z4,.sl .u32 z5,.int .i64 z6,.bool z7]) G0:=c4
   have c5:Fn 182 [] [.agg [.int .i64 p],.agg [.bool d1,.sl .u32 d2,.int .i64 d3,.bool d4,.sl .u32 d5,.int .i64 d6,.bool d7]] (.bool false) []:=c5
   refine gZc c1 ?_;conv=>whnf
   refine gZc c2 ?_;conv=>whnf
   refine gZc c3 ?_;conv=>whnf
   (refine⟨by kernel_rfl,by kernel_rfl,?_⟩;(conv=>whnf))
   refine gZc c4 ?_;conv=>whnf
   refine gZn c5 ?_;conv=>whnf
   refine⟨(f,n+1,⟨⟨d1,d2,d3⟩,⟨d4,d5,d6⟩,d7⟩,⟨⟨z1,z2,z3⟩,⟨z4,z5,z6⟩,z7⟩),⟨by simp only;omega,by simp only;omega,by simp only;omega,hb3,S4,hx5⟩,by show f<f+1;omega,?_⟩
   ((conv=>whnf);refine And.intro ?_ ?_;repeat' first|refine lc ?_ ?_|exact la0|exact lr rfl|exact ln0|refine lh1 ?_ ?_|exact lh0|exact bf0|exact bd0|refine bc0 ?_|exact bm0 rfl|exact bb0 rfl|exact bg0 rfl|exact li0 rfl|refine lg0 ?_|refine lt0 ?_|fail)
   exact ai0 (by rw[wI (by simp only;omega)];simp only;omega)
end Go.Proofs.YtlocddfailmnpaaGreatDoor

namespace Go.Proofs.YtlocddfailmnpaaGreatDoor
open Go Go.Sx
set_option maxRecDepth 100000
set_option maxHeartbeats 8000000
theorem zym {a b c:Rat} (h:a≤b) (g:b<c):a<c:=Rat.not_le.1 fun k=>Rat.not_le.2 g (Rat.le_trans k h)
theorem CI_ex (y:Iv) (p:Int):CI (exI y p):=zd4 _ _ _
def haI (p:Int):Nat→Iv→Iv
 |0,y=>exI y p
 |n+1,y=>sqI (haI p n (wh y (-1))) p
theorem qey (p:Int): ∀(n:Nat) (y:Iv),CI (haI p n y)
 |0,y=>CI_ex y p
 | _+1,_=>CI_sq p
theorem x130 (p:Int) (hp:pcB p=true): ∀(n:Nat) (y:Iv),n≤100→bI (pw ((n:Int)-1)) y→Fn 138 G0 [.agg [.int .i64 p],.agg (ivC y),.int .i64 (n:Int)] (.agg (ivC (haI p n y))) G0:=by
 intro n
 induction n with
 |zero=>
  intro y _ hy
  have h:=x199 y hy p hp
  show Fn 138 G0 [.agg [.int .i64 p],.agg (ivC y),.int .i64 0] (.agg (ivC (exI y p))) G0
  generalize exI y p=R at*
  clear hy
  obtain⟨⟨y1,y2,y3⟩,⟨y4,y5,y6⟩,y7⟩:=y
  obtain⟨⟨r1,r2,r3⟩,⟨r4,r5,r6⟩,r7⟩:=R
  have h:Fn 179 G0 [.agg [.int .i64 p],.agg [.bool y1,.sl .u32 y2,.int .i64 y3,.bool y4,.sl .u32 y5,.int .i64 y6,.bool y7]] (.agg [.bool r1,.sl .u32 r2,.int .i64 r3,.bool r4,.sl .u32 r5,.int .i64 r6,.bool r7]) G0:=h
  show Fn 138 G0 [.agg [.int .i64 p],.agg [.bool y1,.sl .u32 y2,.int .i64 y3,.bool y4,.sl .u32 y5,.int .i64 y6,.bool y7],.int .i64 0] _ G0
  refine fnT hT6 hmx Tryz.func138 rfl rfl (ex:= []) ?_;conv=>whnf
  refine gZc h ?_;conv=>whnf
  exact⟨lr rfl,leG⟩
 |succ n ih0=>
  intro y hn hy
  have hs:=i191 y hy.1.ri (-1)
  have hb:=zv3 hy (-1)
  rw[ze6]at hb
  have ih:=ih0 (wh y (-1)) (by omega) (by
   have e:(((n+1:Nat):Int)-1-1)=(n:Int)-1:=by omega
   rwa [e]at hb)
  have hq:=x200 _ (qey p n (wh y (-1))).ri p
  show Fn 138 G0 [.agg [.int .i64 p],.agg (ivC y),.int .i64 ((n+1:Nat):Int)] (.agg (ivC (sqI (haI p n (wh y (-1))) p))) G0
  have hw:IntKind.i64.wrap (((n+1:Nat):Int)-1)=n:=by rw[wI (by omega)];omega
  generalize sqI (haI p n (wh y (-1))) p=R at*
  generalize haI p n (wh y (-1))=V at*
  generalize wh y (-1)=Z at*
  clear hy hb ih0
  generalize hN:((n+1:Nat):Int)=N at*
  obtain⟨⟨y1,y2,y3⟩,⟨y4,y5,y6⟩,y7⟩:=y
  obtain⟨⟨z1,z2,z3⟩,⟨z4,z5,z6⟩,z7⟩:=Z
  obtain⟨⟨v1,v2,v3⟩,⟨v4,v5,v6⟩,v7⟩:=V
  obtain⟨⟨r1,r2,r3⟩,⟨r4,r5,r6⟩,r7⟩:=R
  have hs:Fn 139 G0 [.agg [.bool y1,.sl .u32 y2,.int .i64 y3,.bool y4,.sl .u32 y5,.int .i64 y6,.bool y7],.int .i64 (-1)] (.agg [.bool z1,.sl .u32 z2,.int .i64 z3,.bool z4,.sl .u32 z5,.int .i64 z6,.bool z7]) G0:=hs
  have ih:Fn 138 G0 [.agg [.int .i64 p],.agg [.bool z1,.sl .u32 z2,.int .i64 z3,.bool z4,.sl .u32 z5,.int .i64 z6,.bool z7],.int .i64 n] (.agg [.bool v1,.sl .u32 v2,.int .i64 v3,.bool v4,.sl .u32 v5,.int .i64 v6,.bool v7]) G0:=ih
  have hq:Fn 180 G0 [.agg [.bool v1,.sl .u32 v2,.int .i64 v3,.bool v4,.sl .u32 v5,.int .i64 v6,.bool v7],.int .i64 p] (.agg [.bool r1,.sl .u32 r2,.int .i64 r3,.bool r4,.sl .u32 r5,.int .i64 r6,.bool r7]) G0:=hq
  show Fn 138 G0 [.agg [.int .i64 p],.agg [.bool y1,.sl .u32 y2,.int .i64 y3,.bool y4,.sl .u32 y5,.int .i64 y6,.bool y7],.int .i64 N] _ G0
  refine fnT hT6 hmx Tryz.func138 rfl rfl (ex:= []) ?_;conv=>whnf
  refine brI (fun h1=>?_) (fun _=>?_)
  ·have h1:(N==0)=true:=h1
   have h1:N=0:=by simpa using h1
   omega
  conv=>whnf
  refine gZc hs ?_;conv=>whnf
  rw[hw]
  refine gZc ih ?_;conv=>whnf
  refine gZc hq ?_;conv=>whnf
  (refine⟨by kernel_rfl,by kernel_rfl,?_⟩;(conv=>whnf))
  exact⟨lr rfl,leG⟩
def hvN (d:Dy):Nat:=(zk d+1).toNat
def poI (d:Dy) (p:Int):Iv:=if vu d=0 then whI 1 else ve (haI (guP p (hvN d+24)) (hvN d) (ve (vi d) (guP p (hvN d+24)))) p
theorem qdu {d:Dy} (h0:nm d≠0): -(pw (zk d))≤dv d∧dv d≤pw (zk d):=by
 have ht:zk d=bl (nm d)+d.e:=by unfold zk;rw[if_neg h0]
 have h1:=zcd (n:=nm d) (e:=d.e) (t:=zk d) (by omega)
 have h2:=zk5 (nm d) d.e
 unfold dv
 split<;>constructor<;>grind
theorem qcz {d:Dy} (hm:mdB d=true) (h0:nm d≠0):zk d≤10:=by
 have hm:qo (zah d) (kc 1000)≤0:=of_decide_eq_true hm
 have h1:=zdz.1 hm
 rw[zaw]at h1
 have h2:dv (zah d)=vN (nm d) d.e:=rfl
 rw[h2]at h1
 have ht:zk d=bl (nm d)+d.e:=by unfold zk;rw[if_neg h0]
 have h3:=ud (n:=nm d) (e:=d.e) (t:=zk d-1) (by omega) h0
 have h4:((1000:Int):Rat)<pw 10:=by
  rw[show pw 10=((2^10:Nat):Rat)from zrk 10]
  decide
 have h5:=zym (Rat.le_trans h3 h1) h4
 have: ¬(10:Int)≤zk d-1:=fun c=>Rat.not_le.2 h5 (zh5.2 c)
 omega
theorem zzp {p m:Int} (hp:8≤p∧p≤512) (hm:0≤m):pcB (guP p m)=true:=by
 unfold pcB guP
 simp
 omega
theorem zer {x:Iv} (p:Int):CI (ve x p):=by
 unfold ve
 split
 ·rename_i h
  exact kw (jg _ _ _ (wm h.2)) (jg _ _ _ (wm h.2))
 ·exact zgf
theorem qet (d:Dy) (p:Int):CI (poI d p):=by
 unfold poI
 split
 ·exact .inr ⟨rfl,kb 1 (by decide),kb 1 (by decide)⟩
 ·exact zer p
theorem x87 {d:Dy} (hd:VD d) (hm:mdB d=true) (p:Int) (hp:8≤p∧p≤512):Fn 96 G0 [.agg (dyC d),.int .i64 p] (.agg (ivC (poI d p))) G0:=by
 have h81:=zp6 hd
 have h126:=zt9 1 (by decide)
 have h127:=zmm hd
 have h77:=qa4 hd
 have hR:poI d p=if vu d=0 then whI 1 else ve (haI (guP p (hvN d+24)) (hvN d) (ve (vi d) (guP p (hvN d+24)))) p:=rfl
 generalize poI d p=R at*
 by_cases h0:nm d=0
 ·have hs:vu d=0:=by unfold vu;rw[if_pos h0]
  rw[if_pos hs]at hR
  rw[hs]at h81
  rw[←hR]at h126
  clear hd hm h127 h77 hR h0 hs
  refine fnT hT6 hmx Tryz.func96 rfl rfl (ex:= []) ?_;conv=>whnf
  refine gZn h81 ?_;conv=>whnf
  refine gZc h126 ?_;conv=>whnf
  exact⟨lr rfl,leG⟩
 have hs:vu d≠0:=by unfold vu;rw[if_neg h0];split<;>decide
 have htop:=qcz hm h0
 have hlow: -100000≤zk d:=by
  have:=hd.exp
  unfold zk;rw[if_neg h0];omega
 rw[if_neg hs]at hR
 have hn:hvN d≤11:=by unfold hvN;omega
 have hn2:zk d≤(hvN d:Int)-1:=by unfold hvN;omega
 have hg:=zzp hp (m:=(hvN d:Int)+24) (by omega)
 have hg8:8≤guP p ((hvN d:Int)+24)∧guP p ((hvN d:Int)+24)≤512:=by unfold pcB at hg;simpa using hg
 have hpt:bI (pw ((hvN d:Int)-1)) (vi d):=by
  have:=qdu h0
  have hle:pw (zk d)≤pw ((hvN d:Int)-1):=zh5.2 hn2
  refine⟨.inl (zwa hd),.inr ⟨?_,Rat.le_trans this.2 hle⟩⟩
  have h1:=this.1
  show-(pw ((hvN d:Int)-1))≤dv d
  grind
 have hr1:=zv4 hpt (p:=guP p ((hvN d:Int)+24)) (pwF (by omega) (by omega))
 have c1:=x128 p ((hvN d:Int)+24) (by omega) (by omega)
 have c2:=qdd _ hpt.1.ri (guP p ((hvN d:Int)+24))
 have c3:=x130 _ hg (hvN d) _ (by omega) hr1
 have c4:=qdd _ (qey (guP p ((hvN d:Int)+24)) (hvN d) (ve (vi d) (guP p ((hvN d:Int)+24)))).ri p
 rw[←hR]at c4
 have hmax:(if(0:Int)>IntKind.i64.wrap (zk d+1)then 0 else IntKind.i64.wrap (zk d+1))=(hvN d:Int):=by
  rw[wI (by omega)]
  unfold hvN
  split<;>omega
 have hw:IntKind.i64.wrap ((hvN d:Int)+24)=(hvN d:Int)+24:=wI (by omega)
 have hw2:IntKind.i64.wrap (zk d+1)=zk d+1:=wI (by omega)
 clear hR hr1 hpt hg hm
 generalize haI (guP p ((hvN d:Int)+24)) (hvN d) (ve (vi d) (guP p ((hvN d:Int)+24)))=V at*
 generalize ve (vi d) (guP p ((hvN d:Int)+24))=Z at*
 generalize vi d=P at*
 generalize guP p ((hvN d:Int)+24)=g at*
 generalize (hvN d:Int)=N at*
 generalize zk d=t at*
 generalize vu d=S at*
 clear hd h0
 refine fnT hT6 hmx Tryz.func96 rfl rfl (ex:= []) ?_;conv=>whnf
 refine gZn h81 ?_;conv=>whnf
 refine brI (fun k1=>?_) (fun _=>?_)
 ·have k1:(S==0)=true:=k1
  exact absurd (by simpa using k1) hs
 conv=>whnf
 refine gZn h127 ?_;conv=>whnf
 rw[hmax,hw]
 refine gZn c1 ?_;conv=>whnf
 refine gZn h77 ?_;conv=>whnf
 refine gZc c2 ?_;conv=>whnf
 refine gZc c3 ?_;conv=>whnf
 refine gZc c4 ?_;conv=>whnf
 (refine⟨by kernel_rfl,by kernel_rfl,?_⟩;(conv=>whnf))
 exact⟨lr rfl,leG⟩
def zxa (x:Iv) (p:Int):Iv:=if ftB x p=true∧mdB x.lo=true∧mdB x.hi=true then edI (poI x.lo p) (poI x.hi p)else wI0
theorem qez (x:Iv) (p:Int):CI (zxa x p):=by
 unfold zxa
 split
 ·exact qe0 (qet _ _) (qet _ _)
 ·exact zgf
theorem x33 (x:Iv) (hx:RI x) (p:Int):Fn 44 G0 [.agg (ivC x),.int .i64 p] (.agg (ivC (zxa x p))) G0:=by
 have h84:=x84 x hx p
 have h25:=i25
 rw[e25]at h25
 have hR:zxa x p=if ftB x p=true∧mdB x.lo=true∧mdB x.hi=true then edI (poI x.lo p) (poI x.hi p)else wI0:=rfl
 generalize zxa x p=R at*
 by_cases hf:ftB x p=true
 rotate_left
 ·rw[if_neg fun c=>hf c.1]at hR
  subst hR
  rw[show ftB x p=false by simpa using hf]at h84
  clear hf hx
  refine fnT hT6 hmx Tryz.func44 rfl rfl (ex:= []) ?_;conv=>whnf
  refine gZn h84 ?_;conv=>whnf
  refine gZn h25 ?_;conv=>whnf
  exact⟨lr rfl,leG⟩
 rw[hf]at h84
 have hf':=hf
 unfold ftB at hf'
 rw[Bool.and_eq_true]at hf'
 have k:=(qc hx).1 hf'.1
 have hp8:8≤p∧p≤512:=by have:=hf'.2;unfold pcB at this;simpa using this
 have m1:=x85 k.lo
 have m2:=x85 k.hi
 by_cases h1:mdB x.lo=true
 rotate_left
 ·rw[if_neg fun c=>h1 c.2.1]at hR
  subst hR
  rw[show mdB x.lo=false by simpa using h1]at m1
  clear hf hf' k hx m2 h1
  refine fnT hT6 hmx Tryz.func44 rfl rfl (ex:= []) ?_;conv=>whnf
  refine gZn h84 ?_;conv=>whnf
  refine gZc m1 ?_;conv=>whnf
  refine gZn h25 ?_;conv=>whnf
  exact⟨lr rfl,leG⟩
 rw[h1]at m1
 by_cases h2:mdB x.hi=true
 rotate_left
 ·rw[if_neg fun c=>h2 c.2.2]at hR
  subst hR
  rw[show mdB x.hi=false by simpa using h2]at m2
  clear hf hf' k hx h1 h2
  refine fnT hT6 hmx Tryz.func44 rfl rfl (ex:= []) ?_;conv=>whnf
  refine gZn h84 ?_;conv=>whnf
  refine gZc m1 ?_;conv=>whnf
  refine gZc m2 ?_;conv=>whnf
  refine gZn h25 ?_;conv=>whnf
  exact⟨lr rfl,leG⟩
 rw[h2]at m2
 rw[if_pos ⟨hf,h1,h2⟩]at hR
 have c1:=x87 k.lo h1 p hp8
 have c2:=x87 k.hi h2 p hp8
 have c3:=x86 (poI x.lo p) (poI x.hi p)
 rw[←hR]at c3
 clear hR
 generalize poI x.lo p=A at*
 generalize poI x.hi p=B at*
 clear hf hf' k hx h1 h2
 refine fnT hT6 hmx Tryz.func44 rfl rfl (ex:= []) ?_;conv=>whnf
 refine gZn h84 ?_;conv=>whnf
 refine gZc m1 ?_;conv=>whnf
 refine gZc m2 ?_;conv=>whnf
 refine gZc c1 ?_;conv=>whnf
 refine gZc c2 ?_;conv=>whnf
 refine gZn c3 ?_;conv=>whnf
 (refine⟨by kernel_rfl,by kernel_rfl,?_⟩;(conv=>whnf))
 exact⟨lr rfl,leG⟩
end Go.Proofs.YtlocddfailmnpaaGreatDoor

namespace Go.Proofs.YtlocddfailmnpaaGreatDoor
open Go Go.Sx
set_option maxRecDepth 100000
set_option maxHeartbeats 8000000
def inB (a b:Rat) (x:Iv):Prop:=VI x∧(x.all=true∨(a≤dv x.lo∧dv x.hi≤b))
theorem zre {a b:Rat} {x:Iv} (hx:inB a b x) {p:Int} (ha:Fp p.toNat a) (hb:Fp p.toNat b∨pw 16384≤b):inB a b (ve x p):=by
 unfold ve
 split
 ·rename_i c
  obtain⟨c1,hp⟩:=c
  have k:=(qc hx.1.ri).1 c1
  have R1:=za3 k.lo (wm hp)
  have R2:=za3 k.hi (wm hp)
  obtain⟨a1,a2⟩:=hx.2.resolve_left (by rw[k.all];decide)
  refine⟨zus R1 R2 (kw (jg _ _ _ (wm hp)) (jg _ _ _ (wm hp))) k.dle,?_⟩
  cases h:(wg (ql x.lo p.toNat false) (ql x.hi p.toNat true)).all with
  |true=>exact .inl rfl
  |false=>
   right
   rw[zbw h]
   refine⟨(R1.1.2 a ha a1).2,?_⟩
   rcases hb with hb|hb
   ·exact(R2.2.2 b hb a2).2
   ·rcases(R2.2.1 (zcq.1 h).2).2 with ⟨_,_,_,_,_,c⟩|c
    ·exact Rat.le_trans (Rat.le_of_lt c) hb
    ·have h1:=zha c
     have h2:=zlk 16384
     exact Rat.le_trans (show dv (ql x.hi p.toNat true).1≤pw 16384 by grind) hb
 ·exact⟨.inr rfl,.inl rfl⟩
theorem zq6 {a b:Rat} {x:Iv} (hx:inB a b x) (k:Int):inB (a*pw k) (b*pw k) (wh x k):=by
 unfold wh
 split
 ·rename_i c1
  have kx:=(qc hx.1.ri).1 c1
  obtain⟨a1,a2⟩:=hx.2.resolve_left (by rw[kx.all];decide)
  have hc:=kw (zbj x.lo k) (zbj x.hi k)
  cases ha:(wg (vr x.lo k) (vr x.hi k)).all with
  |true=>exact⟨zwf hc (fun c=>by rw[ha]at c;cases c),.inl ha⟩
  |false=>
   have e:=zbw ha
   obtain⟨o1,o2⟩:=zcq.1 ha
   have e1:dv (wg (vr x.lo k) (vr x.hi k)).lo =dv x.lo*pw k:=by rw[e];exact zed o1
   have e2:dv (wg (vr x.lo k) (vr x.hi k)).hi =dv x.hi*pw k:=by rw[e];exact zed o2
   refine⟨zwf hc fun _=>by rw[e1,e2];exact wa kx.dle (zlk k),.inr ?_⟩
   rw[e1,e2]
   exact⟨wa a1 (zlk k),wa a2 (zlk k)⟩
 ·exact⟨.inr rfl,.inl rfl⟩
theorem zto {a b c d e f:Rat} {x y:Iv} (hx:inB a b x) (hy:inB c d y) {p:Int} (hp:pcB p=true) (h1:e≤a+c) (h2:b+d≤f) (he:Fp p.toNat e) (hf:Fp p.toNat f):inB e f (ux x y p):=by
 refine⟨qej hx.1 hy.1 hp,?_⟩
 cases ha:(ux x y p).all with
 |true=>exact .inl rfl
 |false=>
  right
  by_cases hk:KI x∧KI y
  ·rw[ztp hk.1 hk.2 hp]at ha⊢
   obtain⟨a1,a2⟩:=hx.2.resolve_left (by rw[hk.1.all];decide)
   obtain⟨b1,b2⟩:=hy.2.resolve_left (by rw[hk.2.all];decide)
   have R1:=zoq hk.1.lo hk.2.lo (wm hp)
   have R2:=zoq hk.1.hi hk.2.hi (wm hp)
   rw[zbw ha]
   exact⟨(R1.1.2 e he (by grind)).2,(R2.2.2 f hf (by grind)).2⟩
  ·rw[qei hx.1.ri hy.1.ri hk]at ha;cases ha
theorem qai {B c:Rat} {x y:Iv} (hx:bI B x) (hy:inB 1 c y) {p:Int} (hp:pcB p=true) (hF:inF p.toNat B):bI B (xc x y p):=by
 refine⟨zl7 hx.1 hy.1 hp,?_⟩
 cases ha:(xc x y p).all with
 |true=>exact .inl rfl
 |false=>
  right
  by_cases hk:KI x∧KI y
  ·obtain⟨b1,b2⟩:=hy.2.resolve_left (by rw[hk.2.all];decide)
   have b3:=Rat.le_trans b1 hk.2.dle
   have hs:0<dv y.lo∨dv y.hi<0:= .inl (by grind)
   rw[ziu hk.1 hk.2 hs hp]at ha⊢
   obtain⟨⟨a1,a2⟩,⟨a3,a4⟩⟩:=hx.ends hk.1
   have q: ∀a n:Rat,-B≤a→a≤B→1≤n→ -B≤a/n∧a/n≤B:=fun a n c1 c2 c3=>by
    obtain⟨i1,i2⟩:=zg9 c3
    have:=zdp c1 c2 i1 i2
    rwa [Rat.mul_one,←Rat.div_def]at this
   refine zwc (zob hk.1 hk.2 hs (wm hp)) hF ?_ ha
   exact⟨q _ _ a1 a2 b1,q _ _ a1 a2 b3,q _ _ a3 a4 b1,q _ _ a3 a4 b3⟩
  ·rw[zs3 hx.1.ri hy.1.ri fun c=>hk ⟨c.1,c.2.1⟩]at ha;cases ha
theorem vg {p:Int} (hp:pcB p=true):bI (pw (-1)) (xc (whI 1) (whI 3) p):=by
 have k1:=yp (n:=1) (by decide)
 have k3:=yp (n:=3) (by decide)
 have e1:dv (whI 1).lo =1:=zaw 1
 have e1':dv (whI 1).hi =1:=zaw 1
 have e3:dv (whI 3).lo =3:=zaw 3
 have e3':dv (whI 3).hi =3:=zaw 3
 have hs:0<dv (whI 3).lo ∨dv (whI 3).hi <0:= .inl (by rw[e3];decide)
 have ph:pw (-1)=1/2:=by decide+kernel
 refine⟨zl7 (.inl k1) (.inl k3) hp,?_⟩
 cases ha:(xc (whI 1) (whI 3) p).all with
 |true=>exact .inl rfl
 |false=>
  right
  rw[ziu k1 k3 hs hp]at ha⊢
  refine zwc (zob k1 k3 hs (wm hp)) (pwF (by decide) (by decide)) ?_ ha
  unfold zzu
  rw[e1,e1',e3,e3',ph]
  decide+kernel
def lgG (q:Iv) (p:Int):Nat→Nat→Iv→Iv→Iv×Iv
 |0,_,w,s=>(w,s)
 |f+1,n,w,s=>if smB w p=true then(w,s)else lgG q p f (n+2) (zam w q p) (ux s (xc (zam w q p) (whI n) p) p)
def loI (z:Iv) (p:Int):Iv:=wh (ux (lgG (sqI z p) p (p.toNat+2) 3 z z).2 (arI (lgG (sqI z p) p (p.toNat+2) 3 z z).1) p) 1
theorem zwe (x:Iv) (k:Int):CI (wh x k):=by
 unfold wh
 split
 ·exact kw (zbj _ _) (zbj _ _)
 ·exact zgf
theorem qew (z:Iv) (p:Int):CI (loI z p):=zwe _ _
theorem VI_CI {x:Iv} (h:VI x):CI x:=by
 rcases h with k|rfl
 ·exact .inr ⟨k.all,k.lo,k.hi⟩
 ·exact zgf
theorem x134 (z:Iv) (hz:bI (pw (-1)) z) (p:Int) (hp:pcB p=true):Fn 142 G0 [.agg [.int .i64 p],.agg (ivC z)] (.agg (ivC (loI z p))) G0:=by
 have hp8:8≤p∧p≤512:=by unfold pcB at hp;simpa using hp
 have hR:loI z p=wh (ux (lgG (sqI z p) p (p.toNat+2) 3 z z).2 (arI (lgG (sqI z p) p (p.toNat+2) 3 z z).1) p) 1:=rfl
 generalize loI z p=R at*
 have hq:=x200 z hz.1.ri p
 have bq:=bI_sq hz (p:=p) (by rw[ze6];exact pwF (by omega) (by omega))
 rw[ze6]at bq
 generalize sqI z p=Q at*
 obtain⟨E,hE⟩: ∃E,lgG Q p (p.toNat+2) 3 z z=E:=⟨_,rfl⟩
 rw[hE]at hR
 have cz:=VI_CI hz.1
 obtain⟨⟨z1,z2,z3⟩,⟨z4,z5,z6⟩,z7⟩:=z
 obtain⟨⟨q1,q2,q3⟩,⟨q4,q5,q6⟩,q7⟩:=Q
 have hq:Fn 180 G0 [.agg [.bool z1,.sl .u32 z2,.int .i64 z3,.bool z4,.sl .u32 z5,.int .i64 z6,.bool z7],.int .i64 p] (.agg [.bool q1,.sl .u32 q2,.int .i64 q3,.bool q4,.sl .u32 q5,.int .i64 q6,.bool q7]) G0:=hq
 show Fn 142 G0 [.agg [.int .i64 p],.agg [.bool z1,.sl .u32 z2,.int .i64 z3,.bool z4,.sl .u32 z5,.int .i64 z6,.bool z7]] _ G0
 refine fnT hT6 hmx Tryz.func142 rfl rfl (ex:= []) ?_;conv=>whnf
 refine gZc hq ?_;conv=>whnf
 (refine⟨by kernel_rfl,by kernel_rfl,?_⟩;(conv=>whnf))
 refine⟨Nat×Nat×Iv×Iv,fun x=>3≤x.2.1∧(x.2.1:Int)≤p+4∧(x.2.1:Int)+2*x.1=2*p+7∧bI (pw (2-x.2.1)) x.2.2.1∧CI x.2.2.2∧lgG ⟨⟨q1,q2,q3⟩,⟨q4,q5,q6⟩,q7⟩ p x.1 x.2.1 x.2.2.1 x.2.2.2=E,fun x=> [(8,.int .i64 x.2.1)],fun x=> [(6,.cells (ivC x.2.2.1)),(7,.cells (ivC x.2.2.2))],fun x=>x.1,
  (p.toNat+2,3,⟨⟨z1,z2,z3⟩,⟨z4,z5,z6⟩,z7⟩,⟨⟨z1,z2,z3⟩,⟨z4,z5,z6⟩,z7⟩),⟨Nat.le_refl 3,by simp only;omega,by simp only;omega,hz,cz,hE⟩,?_,fun x hx=>?_⟩
 ·((conv=>whnf);refine And.intro ?_ ?_;repeat' first|refine lc ?_ ?_|exact la0|exact lr rfl|exact ln0|refine lh1 ?_ ?_|exact lh0|exact bf0|exact bd0|refine bc0 ?_|exact bm0 rfl|exact bb0 rfl|exact bg0 rfl|exact li0 rfl|refine lg0 ?_|refine lt0 ?_|fail)
 (refine⟨by kernel_rfl,?_⟩;(conv=>whnf))
 obtain⟨f,n,w,s⟩:=x
 obtain⟨hx1,hx0,hx2,hx3,hx4,hx5⟩:=hx
 simp only at hx0 hx1 hx2 hx3 hx4 hx5
 cases f with
 |zero=>omega
 |succ f=>
  simp only[lgG]at hx5
  have c5:=x202 w hx3.1.ri p (by omega)
  have hs:smB w p=false→(n:Int)≤p+2:=fun h=>by have:=qb2 hx3 h;omega
  generalize smB w p=B at*
  cases B with
  |true=>
   rw[if_pos rfl]at hx5
   have c6:=x203 _ hx3.1.ri
   have c7:=zxx _ _ hx4.ri (qe2 hx3.1.ri).ri p
   have c8:=i191 _ (zd4 s (arI w) p).ri 1
   rw[←hx5]at hR
   simp only at hR
   rw[←hR]at c8
   clear hR hx5 hE hx3 hx4 hz bq cz hs
   generalize ux s (arI w) p=D at*
   generalize arI w=A at*
   obtain⟨⟨w1,w2,w3⟩,⟨w4,w5,w6⟩,w7⟩:=w
   obtain⟨⟨s1,s2,s3⟩,⟨s4,s5,s6⟩,s7⟩:=s
   obtain⟨⟨d1,d2,d3⟩,⟨d4,d5,d6⟩,d7⟩:=D
   obtain⟨⟨a1,a2,a3⟩,⟨a4,a5,a6⟩,a7⟩:=A
   obtain⟨⟨r1,r2,r3⟩,⟨r4,r5,r6⟩,r7⟩:=R
   have c5:Fn 182 [] [.agg [.int .i64 p],.agg [.bool w1,.sl .u32 w2,.int .i64 w3,.bool w4,.sl .u32 w5,.int .i64 w6,.bool w7]] (.bool true) []:=c5
   have c6:Fn 183 [] [.agg [.bool w1,.sl .u32 w2,.int .i64 w3,.bool w4,.sl .u32 w5,.int .i64 w6,.bool w7]] (.agg [.bool a1,.sl .u32 a2,.int .i64 a3,.bool a4,.sl .u32 a5,.int .i64 a6,.bool a7]) []:=c6
   have c7:Fn 141 G0 [.agg [.int .i64 p],.agg [.bool s1,.sl .u32 s2,.int .i64 s3,.bool s4,.sl .u32 s5,.int .i64 s6,.bool s7],.agg [.bool a1,.sl .u32 a2,.int .i64 a3,.bool a4,.sl .u32 a5,.int .i64 a6,.bool a7]] (.agg [.bool d1,.sl .u32 d2,.int .i64 d3,.bool d4,.sl .u32 d5,.int .i64 d6,.bool d7]) G0:=c7
   have c8:Fn 139 G0 [.agg [.bool d1,.sl .u32 d2,.int .i64 d3,.bool d4,.sl .u32 d5,.int .i64 d6,.bool d7],.int .i64 1] (.agg [.bool r1,.sl .u32 r2,.int .i64 r3,.bool r4,.sl .u32 r5,.int .i64 r6,.bool r7]) G0:=c8
   refine gZn c5 ?_;conv=>whnf
   refine gZn c6 ?_;conv=>whnf
   refine gZc c7 ?_;conv=>whnf
   refine gZc c8 ?_;conv=>whnf
   (refine⟨by kernel_rfl,by kernel_rfl,?_⟩;(conv=>whnf))
   exact⟨lr rfl,leG⟩
  |false=>
   rw[if_neg (by decide)]at hx5
   have hn:=hs rfl
   have b1:=zxj hx3 bq hp (by rw[←pwA];exact pwF (by omega) (by omega))
   rw[←pwA]at b1
   have b2:=ztj b1 (n:=n) (by omega) (by omega) hp (pwF (by omega) (by omega))
   have c1:=x135 w ⟨⟨q1,q2,q3⟩,⟨q4,q5,q6⟩,q7⟩ hx3.1.ri bq.1.ri p
   have c2:=zt9 n (by omega)
   have c3:=x132 _ _ b1.1.ri (yp (n:=n) (by omega)).ri p
   have c4:=zxx s _ hx4.ri b2.1.ri p
   have S4:=zd4 s (xc (zam w ⟨⟨q1,q2,q3⟩,⟨q4,q5,q6⟩,q7⟩ p) (whI n) p) p
   generalize zam w ⟨⟨q1,q2,q3⟩,⟨q4,q5,q6⟩,q7⟩ p=M at*
   generalize whI n=W at*
   generalize xc M W p=D at*
   generalize ux s D p=S at*
   have hb3:bI (pw (2-((n+2:Nat):Int))) M:=by
    have e:(2:Int)-n+(-1-1)=2-((n+2:Nat):Int):=by omega
    rwa [e]at b1
   clear b1 b2 hx3 hx4 hz hR hE cz
   obtain⟨⟨w1,w2,w3⟩,⟨w4,w5,w6⟩,w7⟩:=w
   obtain⟨⟨s1,s2,s3⟩,⟨s4,s5,s6⟩,s7⟩:=s
   obtain⟨⟨m1,m2,m3⟩,⟨m4,m5,m6⟩,m7⟩:=M
   obtain⟨⟨v1,v2,v3⟩,⟨v4,v5,v6⟩,v7⟩:=W
   obtain⟨⟨d1,d2,d3⟩,⟨d4,d5,d6⟩,d7⟩:=D
   obtain⟨⟨u1,u2,u3⟩,⟨u4,u5,u6⟩,u7⟩:=S
   have c5:Fn 182 [] [.agg [.int .i64 p],.agg [.bool w1,.sl .u32 w2,.int .i64 w3,.bool w4,.sl .u32 w5,.int .i64 w6,.bool w7]] (.bool false) []:=c5
   have c1:Fn 143 G0 [.agg [.int .i64 p],.agg [.bool w1,.sl .u32 w2,.int .i64 w3,.bool w4,.sl .u32 w5,.int .i64 w6,.bool w7],.agg [.bool q1,.sl .u32 q2,.int .i64 q3,.bool q4,.sl .u32 q5,.int .i64 q6,.bool q7]] (.agg [.bool m1,.sl .u32 m2,.int .i64 m3,.bool m4,.sl .u32 m5,.int .i64 m6,.bool m7]) G0:=c1
   have c2:Fn 134 G0 [.int .i64 n] (.agg [.bool v1,.sl .u32 v2,.int .i64 v3,.bool v4,.sl .u32 v5,.int .i64 v6,.bool v7]) G0:=c2
   have c3:Fn 140 G0 [.agg [.int .i64 p],.agg [.bool m1,.sl .u32 m2,.int .i64 m3,.bool m4,.sl .u32 m5,.int .i64 m6,.bool m7],.agg [.bool v1,.sl .u32 v2,.int .i64 v3,.bool v4,.sl .u32 v5,.int .i64 v6,.bool v7]] (.agg [.bool d1,.sl .u32 d2,.int .i64 d3,.bool d4,.sl .u32 d5,.int .i64 d6,.bool d7]) G0:=c3
   have c4:Fn 141 G0 [.agg [.int .i64 p],.agg [.bool s1,.sl .u32 s2,.int .i64 s3,.bool s4,.sl .u32 s5,.int .i64 s6,.bool s7],.agg [.bool d1,.sl .u32 d2,.int .i64 d3,.bool d4,.sl .u32 d5,.int .i64 d6,.bool d7]] (.agg [.bool u1,.sl .u32 u2,.int .i64 u3,.bool u4,.sl .u32 u5,.int .i64 u6,.bool u7]) G0:=c4
   refine gZn c5 ?_;conv=>whnf
   refine gZc c1 ?_;conv=>whnf
   refine gZc c2 ?_;conv=>whnf
   refine gZc c3 ?_;conv=>whnf
   refine gZc c4 ?_;conv=>whnf
   (refine⟨by kernel_rfl,by kernel_rfl,?_⟩;(conv=>whnf))
   refine⟨(f,n+2,⟨⟨m1,m2,m3⟩,⟨m4,m5,m6⟩,m7⟩,⟨⟨u1,u2,u3⟩,⟨u4,u5,u6⟩,u7⟩),⟨by simp only;omega,by simp only;omega,by simp only;omega,hb3,S4,hx5⟩,by show f<f+1;omega,?_⟩
   ((conv=>whnf);refine And.intro ?_ ?_;repeat' first|refine lc ?_ ?_|exact la0|exact lr rfl|exact ln0|refine lh1 ?_ ?_|exact lh0|exact bf0|exact bd0|refine bc0 ?_|exact bm0 rfl|exact bb0 rfl|exact bg0 rfl|exact li0 rfl|refine lg0 ?_|refine lt0 ?_|fail)
   exact ai0 (by rw[wI (by simp only;omega)];simp only;omega)
def l2I (p:Int):Iv:=ve (loI (xc (whI 1) (whI 3) (guP p 16)) (guP p 16)) p
theorem x136 (p:Int) (hp:8≤p∧p≤512):Fn 144 G0 [.int .i64 p] (.agg (ivC (l2I p))) G0:=by
 have hg:=zzp hp (m:=16) (by decide)
 have c0:=x128 p 16 (by omega) (by decide)
 have c1:=zt9 1 (by decide)
 have c2:=zt9 3 (by decide)
 have c3:=x132 _ _ (yp (n:=1) (by decide)).ri (yp (n:=3) (by decide)).ri (guP p 16)
 have c4:=x134 _ (vg hg) _ hg
 have c5:=qdd _ (qew (xc (whI 1) (whI 3) (guP p 16)) (guP p 16)).ri p
 show Fn 144 G0 [.int .i64 p] (.agg (ivC (ve (loI (xc (whI 1) (whI 3) (guP p 16)) (guP p 16)) p))) G0
 generalize ve (loI (xc (whI 1) (whI 3) (guP p 16)) (guP p 16)) p=R at*
 generalize loI (xc (whI 1) (whI 3) (guP p 16)) (guP p 16)=L at*
 generalize xc (whI 1) (whI 3) (guP p 16)=D at*
 generalize guP p 16=g at*
 generalize whI 1=V at*
 generalize whI 3=W at*
 obtain⟨⟨v1,v2,v3⟩,⟨v4,v5,v6⟩,v7⟩:=V
 obtain⟨⟨w1,w2,w3⟩,⟨w4,w5,w6⟩,w7⟩:=W
 obtain⟨⟨d1,d2,d3⟩,⟨d4,d5,d6⟩,d7⟩:=D
 obtain⟨⟨l1,l2,l3⟩,⟨l4,l5,l6⟩,l7⟩:=L
 obtain⟨⟨r1,r2,r3⟩,⟨r4,r5,r6⟩,r7⟩:=R
 have c1:Fn 134 G0 [.int .i64 1] (.agg [.bool v1,.sl .u32 v2,.int .i64 v3,.bool v4,.sl .u32 v5,.int .i64 v6,.bool v7]) G0:=c1
 have c2:Fn 134 G0 [.int .i64 3] (.agg [.bool w1,.sl .u32 w2,.int .i64 w3,.bool w4,.sl .u32 w5,.int .i64 w6,.bool w7]) G0:=c2
 have c3:Fn 140 G0 [.agg [.int .i64 g],.agg [.bool v1,.sl .u32 v2,.int .i64 v3,.bool v4,.sl .u32 v5,.int .i64 v6,.bool v7],.agg [.bool w1,.sl .u32 w2,.int .i64 w3,.bool w4,.sl .u32 w5,.int .i64 w6,.bool w7]] (.agg [.bool d1,.sl .u32 d2,.int .i64 d3,.bool d4,.sl .u32 d5,.int .i64 d6,.bool d7]) G0:=c3
 have c4:Fn 142 G0 [.agg [.int .i64 g],.agg [.bool d1,.sl .u32 d2,.int .i64 d3,.bool d4,.sl .u32 d5,.int .i64 d6,.bool d7]] (.agg [.bool l1,.sl .u32 l2,.int .i64 l3,.bool l4,.sl .u32 l5,.int .i64 l6,.bool l7]) G0:=c4
 have c5:Fn 137 G0 [.agg [.bool l1,.sl .u32 l2,.int .i64 l3,.bool l4,.sl .u32 l5,.int .i64 l6,.bool l7],.int .i64 p] (.agg [.bool r1,.sl .u32 r2,.int .i64 r3,.bool r4,.sl .u32 r5,.int .i64 r6,.bool r7]) G0:=c5
 refine fnT hT6 hmx Tryz.func144 rfl rfl (ex:= []) ?_;conv=>whnf
 refine brI (fun h=>?_) (fun h=>?_)
 ·have h:=of_decide_eq_true h;omega
 conv=>whnf
 refine brI (fun h=>?_) (fun h=>?_)
 ·have h:=of_decide_eq_true h;omega
 conv=>whnf
 refine gZn c0 ?_;conv=>whnf
 refine gZc c1 ?_;conv=>whnf
 refine gZc c2 ?_;conv=>whnf
 refine gZc c3 ?_;conv=>whnf
 refine gZc c4 ?_;conv=>whnf
 refine gZc c5 ?_;conv=>whnf
 (refine⟨by kernel_rfl,by kernel_rfl,?_⟩;(conv=>whnf))
 exact⟨lr rfl,leG⟩
def lmI (d:Dy) (g:Int):Iv:=wh (ve (vi d) g) (-(zk d))
def lzI (d:Dy) (g:Int):Iv:=xc (ux (lmI d g) (whI (-1)) g) (ux (lmI d g) (whI 1) g) g
def lnI (d:Dy) (p:Int):Iv:=if qo d (kc 1)=0 then⟨d0,d0,false⟩else
 ve (ux (loI (lzI d (guP p 40)) (guP p 40)) (zam (whI (zk d)) (l2I (guP p 40)) (guP p 40)) (guP p 40)) p
theorem qex (d:Dy) (p:Int):CI (lnI d p):=by
 unfold lnI
 split
 ·exact .inr ⟨rfl,qq,qq⟩
 ·exact zer p
theorem qc1 {d:Dy} (hd:VD d) (hs:0<vu d) (g:Int):inB (pw (-1)) (pw 0) (lmI d g):=by
 have hn:nm d≠0:=fun c=>by unfold vu at hs;rw[if_pos c]at hs;omega
 have hneg:d.neg=false:=by
  unfold vu at hs
  rw[if_neg hn]at hs
  cases h:d.neg with
  |true=>rw[h]at hs;simp at hs
  |false=>rfl
 have ht:zk d=bl (nm d)+d.e:=by unfold zk;rw[if_neg hn]
 have hv:dv d=vN (nm d) d.e:=by unfold dv;rw[hneg];rfl
 have h1:=zcd (n:=nm d) (e:=d.e) (t:=zk d) (by omega)
 have h2:=ud (n:=nm d) (e:=d.e) (t:=zk d-1) (by omega) hn
 rw[←hv]at h1 h2
 have he:=hd.exp
 have hbl:1≤bl (nm d):=by
  have:bl (nm d)≠0:=fun c=>hn (yk.1 c)
  omega
 have hpt:inB (pw (zk d-1)) (pw (zk d)) (vi d):=⟨.inl (zwa hd),.inr ⟨h2,Rat.le_of_lt h1⟩⟩
 have hr:=zre hpt (p:=g) (.inl (pwF (by omega) (by omega))) (by
  by_cases hbig:zk d<16384
  ·exact .inl (.inl (pwF (by omega) hbig))
  ·exact .inr (zh5.2 (by omega)))
 have:=zq6 hr (-(zk d))
 rw[←pwA,←pwA,show zk d-1+ -(zk d)= -1 by omega,show zk d+ -(zk d)=0 by omega]at this
 exact this
theorem qbe (n:Int) (h: -4611686018427387904≤n∧n≤4611686018427387904):inB (n:Rat) (n:Rat) (whI n):=by
 have e:dv (whI n).lo =(n:Rat):=zaw n
 have e':dv (whI n).hi =(n:Rat):=zaw n
 exact⟨.inl (yp h),.inr (by rw[e,e'];exact⟨Rat.le_refl,Rat.le_refl⟩)⟩
theorem lz_in {d:Dy} (hd:VD d) (hs:0<vu d) {g:Int} (hg:pcB g=true):bI (pw (-1)) (ux (lmI d g) (whI (-1)) g)∧inB 1 (pw 1) (ux (lmI d g) (whI 1) g):=by
 have h:=qc1 hd hs g
 have ph:pw (-1)=1/2:=by decide+kernel
 have p0:pw 0=1:=rfl
 have p1:pw 1=2:=by decide+kernel
 have F1:inF g.toNat (pw (-1)):=pwF (by decide) (by decide)
 have F0:inF g.toNat (pw 0):=pwF (by decide) (by decide)
 have F2:inF g.toNat (pw 1):=pwF (by decide) (by decide)
 have n1:((-1:Int):Rat)= -1:=rfl
 have n2:((1:Int):Rat)=1:=rfl
 have w1:=qbe (-1) (by decide)
 have w2:=qbe 1 (by decide)
 rw[n1]at w1
 rw[n2]at w2
 exact⟨zto h w1 hg (by rw[ph];decide+kernel) (by rw[ph,p0];decide+kernel) (.inr (by rw[Rat.neg_neg];exact F1)) (.inl F1),
  zto h w2 hg (by rw[ph];decide+kernel) (by rw[p0,p1];decide+kernel) (.inl (by rw[←p0];exact F0)) (.inl F2)⟩
theorem x88 {d:Dy} (hd:VD d) (hs:0<vu d) (p:Int) (hp:8≤p∧p≤512):Fn 98 G0 [.agg (dyC d),.int .i64 p] (.agg (ivC (lnI d p))) G0:=by
 have c78:=v77 1 (by decide)
 have c55:=v81 hd (kb 1 (by decide))
 have hR:lnI d p=if qo d (kc 1)=0 then⟨d0,d0,false⟩else ve (ux (loI (lzI d (guP p 40)) (guP p 40)) (zam (whI (zk d)) (l2I (guP p 40)) (guP p 40)) (guP p 40)) p:=rfl
 generalize lnI d p=R at*
 by_cases h0:qo d (kc 1)=0
 ·rw[if_pos h0]at hR
  subst hR
  rw[h0]at c55
  generalize kc 1=o at*
  clear hd hs h0
  refine fnT hT6 hmx Tryz.func98 rfl rfl (ex:= []) ?_;conv=>whnf
  refine gZc c78 ?_;conv=>whnf
  refine gZn c55 ?_;conv=>whnf
  (refine⟨by kernel_rfl,by kernel_rfl,?_⟩;(conv=>whnf))
  exact⟨lg0 (lc (lr rfl) (lc (li0 rfl) (lc (lr rfl) (lc (lr rfl) (lc (li0 rfl) (lc (lr rfl) (lc (lr rfl) ln0))))))),leG⟩
 rw[if_neg h0]at hR
 have hn:nm d≠0:=fun c=>by unfold vu at hs;rw[if_pos c]at hs;omega
 have htb: -100000≤zk d∧zk d≤100000:=by
  have:=hd.exp
  have:=hd.bits
  unfold zk;rw[if_neg hn];omega
 have hg:=zzp hp (m:=40) (by decide)
 have hg8:8≤guP p 40∧guP p 40≤512:=by unfold pcB at hg;simpa using hg
 obtain⟨b1,b2⟩:=lz_in hd hs hg
 have b3:=qai b1 b2 hg (pwF (by decide) (by decide))
 have hlm:=qc1 hd hs (guP p 40)
 have c0:=x128 p 40 (by omega) (by decide)
 have c1:=zmm hd
 have c2:=qa4 hd
 have c3:=qdd (vi d) (zwa hd).ri (guP p 40)
 have c4:=i191 (ve (vi d) (guP p 40)) (zer _).ri (-(zk d))
 have c5:=zt9 (-1) (by decide)
 have c6:=zxx (lmI d (guP p 40)) (whI (-1)) hlm.1.ri (yp (n:= -1) (by decide)).ri (guP p 40)
 have c7:=zt9 1 (by decide)
 have c8:=zxx (lmI d (guP p 40)) (whI 1) hlm.1.ri (yp (n:=1) (by decide)).ri (guP p 40)
 have c9:=x132 _ _ b1.1.ri b2.1.ri (guP p 40)
 have c10:=x134 _ b3 _ hg
 have c11:=zt9 (zk d) (by omega)
 have c12:=x136 (guP p 40) hg8
 have c13:=x135 (whI (zk d)) (l2I (guP p 40)) (yp (n:=zk d) (by omega)).ri (zer _).ri (guP p 40)
 have c14:=zxx _ _ (qew (lzI d (guP p 40)) (guP p 40)).ri (zt1 (whI (zk d)) (l2I (guP p 40)) (guP p 40)).ri (guP p 40)
 have c15:=qdd _ (zd4 (loI (lzI d (guP p 40)) (guP p 40)) (zam (whI (zk d)) (l2I (guP p 40)) (guP p 40)) (guP p 40)).ri p
 rw[←hR]at c15
 have hw:IntKind.i64.wrap (0-zk d)= -(zk d):=by rw[wI (by omega)];omega
 clear hR b1 b2 b3 hlm
 unfold lzI lmI at*
 generalize ux (loI (xc (ux (wh (ve (vi d) (guP p 40)) (-(zk d))) (whI (-1)) (guP p 40)) (ux (wh (ve (vi d) (guP p 40)) (-(zk d))) (whI 1) (guP p 40)) (guP p 40)) (guP p 40)) (zam (whI (zk d)) (l2I (guP p 40)) (guP p 40)) (guP p 40)=I15 at*
 generalize loI (xc (ux (wh (ve (vi d) (guP p 40)) (-(zk d))) (whI (-1)) (guP p 40)) (ux (wh (ve (vi d) (guP p 40)) (-(zk d))) (whI 1) (guP p 40)) (guP p 40)) (guP p 40)=I14 at*
 generalize xc (ux (wh (ve (vi d) (guP p 40)) (-(zk d))) (whI (-1)) (guP p 40)) (ux (wh (ve (vi d) (guP p 40)) (-(zk d))) (whI 1) (guP p 40)) (guP p 40)=I13 at*
 generalize zam (whI (zk d)) (l2I (guP p 40)) (guP p 40)=I12 at*
 generalize ux (wh (ve (vi d) (guP p 40)) (-(zk d))) (whI (-1)) (guP p 40)=I11 at*
 generalize ux (wh (ve (vi d) (guP p 40)) (-(zk d))) (whI 1) (guP p 40)=I10 at*
 generalize wh (ve (vi d) (guP p 40)) (-(zk d))=I9 at*
 generalize ve (vi d) (guP p 40)=I8 at*
 generalize vi d=I7 at*
 generalize whI (-1)=I6 at*
 generalize whI 1=I5 at*
 generalize whI (zk d)=I4 at*
 generalize l2I (guP p 40)=I3 at*
 generalize guP p 40=g at*
 generalize zk d=t at*
 generalize kc 1=o at*
 generalize qo d o=C at*
 clear hd hs hn
 refine fnT hT6 hmx Tryz.func98 rfl rfl (ex:= []) ?_;conv=>whnf
 refine gZc c78 ?_;conv=>whnf
 refine gZn c55 ?_;conv=>whnf
 (refine⟨by kernel_rfl,by kernel_rfl,?_⟩;(conv=>whnf))
 refine brI (fun k1=>?_) (fun _=>?_)
 ·have k1:(C==0)=true:=k1
  exact absurd (by simpa using k1) h0
 conv=>whnf
 refine gZn c0 ?_;conv=>whnf
 refine gZn c1 ?_;conv=>whnf
 refine gZn c2 ?_;conv=>whnf
 refine gZc c3 ?_;conv=>whnf
 rw[hw]
 refine gZc c4 ?_;conv=>whnf
 (refine⟨by kernel_rfl,by kernel_rfl,?_⟩;(conv=>whnf))
 refine gZc c5 ?_;conv=>whnf
 refine gZc c6 ?_;conv=>whnf
 refine gZc c7 ?_;conv=>whnf
 refine gZc c8 ?_;conv=>whnf
 refine gZc c9 ?_;conv=>whnf
 (refine⟨by kernel_rfl,by kernel_rfl,?_⟩;(conv=>whnf))
 refine gZc c10 ?_;conv=>whnf
 refine gZc c11 ?_;conv=>whnf
 refine gZc c12 ?_;conv=>whnf
 refine gZc c13 ?_;conv=>whnf
 refine gZc c14 ?_;conv=>whnf
 refine gZc c15 ?_;conv=>whnf
 (refine⟨by kernel_rfl,by kernel_rfl,?_⟩;(conv=>whnf))
 exact⟨lr rfl,leG⟩
def zw7 (x:Iv) (p:Int):Iv:=if ftB x p=true∧0<vu x.lo then edI (lnI x.lo p) (lnI x.hi p)else wI0
theorem qev (x:Iv) (p:Int):CI (zw7 x p):=by
 unfold zw7
 split
 ·exact qe0 (qex _ _) (qex _ _)
 ·exact zgf
theorem x34 (x:Iv) (hx:RI x) (p:Int):Fn 45 G0 [.agg (ivC x),.int .i64 p] (.agg (ivC (zw7 x p))) G0:=by
 have h84:=x84 x hx p
 have h25:=i25
 rw[e25]at h25
 have hR:zw7 x p=if ftB x p=true∧0<vu x.lo then edI (lnI x.lo p) (lnI x.hi p)else wI0:=rfl
 generalize zw7 x p=R at*
 by_cases hf:ftB x p=true
 rotate_left
 ·rw[if_neg fun c=>hf c.1]at hR
  subst hR
  rw[show ftB x p=false by simpa using hf]at h84
  clear hf hx
  refine fnT hT6 hmx Tryz.func45 rfl rfl (ex:= []) ?_;conv=>whnf
  refine gZn h84 ?_;conv=>whnf
  refine gZn h25 ?_;conv=>whnf
  exact⟨lr rfl,leG⟩
 rw[hf]at h84
 have hf':=hf
 unfold ftB at hf'
 rw[Bool.and_eq_true]at hf'
 have k:=(qc hx).1 hf'.1
 have hp8:8≤p∧p≤512:=by have:=hf'.2;unfold pcB at this;simpa using this
 have m1:=zp6 k.lo
 by_cases h1:0<vu x.lo
 rotate_left
 ·rw[if_neg fun c=>h1 c.2]at hR
  subst hR
  generalize vu x.lo=S at*
  clear hf hf' k hx
  refine fnT hT6 hmx Tryz.func45 rfl rfl (ex:= []) ?_;conv=>whnf
  refine gZn h84 ?_;conv=>whnf
  refine gZn m1 ?_;conv=>whnf
  refine brI (fun k1=>?_) (fun k1=>?_)
  ·conv=>whnf
   refine gZn h25 ?_;conv=>whnf
   exact⟨lr rfl,leG⟩
  ·have k1: ¬S≤0:=of_decide_eq_false k1
   omega
 have h2:0<vu x.hi:=(zeb x.hi).2.1.2 (by
  have:=(zeb x.lo).2.1.1 h1
  have:=k.dle
  grind)
 rw[if_pos ⟨hf,h1⟩]at hR
 have c1:=x88 k.lo h1 p hp8
 have c2:=x88 k.hi h2 p hp8
 have c3:=x86 (lnI x.lo p) (lnI x.hi p)
 rw[←hR]at c3
 clear hR
 generalize lnI x.lo p=A at*
 generalize lnI x.hi p=B at*
 generalize vu x.lo=S at*
 clear hf hf' k hx h2
 refine fnT hT6 hmx Tryz.func45 rfl rfl (ex:= []) ?_;conv=>whnf
 refine gZn h84 ?_;conv=>whnf
 refine gZn m1 ?_;conv=>whnf
 refine brI (fun k1=>?_) (fun _=>?_)
 ·have k1:S≤0:=of_decide_eq_true k1
  omega
 conv=>whnf
 refine gZc c1 ?_;conv=>whnf
 refine gZc c2 ?_;conv=>whnf
 refine gZn c3 ?_;conv=>whnf
 (refine⟨by kernel_rfl,by kernel_rfl,?_⟩;(conv=>whnf))
 exact⟨lr rfl,leG⟩
end Go.Proofs.YtlocddfailmnpaaGreatDoor
