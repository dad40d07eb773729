/-
  Intervals that lie within a bound: products, quotients, squares, halves, roundings; small ones.
-/
import Derived.Test.YtlocddfailmnpaaGreatDoorQXa
import Derived.Scope
import Derived.ControlIn
set_option linter.unusedVariables false
set_option linter.unusedSimpArgs false
namespace Go.Proofs.YtlocddfailmnpaaGreatDoor
open Go Go.Sx
set_option maxHeartbeats 2000000
def bI (B:Rat) (x:Iv):Prop:=VI x∧(x.all=true∨(-B≤dv x.lo∧dv x.hi≤B))
theorem bI_w (B:Rat):bI B wI0:=⟨.inr rfl,.inl rfl⟩
theorem qc1 {a b:Int} (h:a<b):pw a<pw b:=Rat.not_le.1 fun c=>by have:=zih.1 c;omega
theorem pwF {p:Nat} {t:Int} (h1: -16384≤t) (h2:t<16384):inF p (pw t):=⟨1,t,(zm0 t).symm,Nat.one_le_two_pow,h1,qc1 h2⟩
theorem zlw (t:Int):0≤pw t:=Rat.le_of_lt (zby t)
theorem zfm (t:Int):pw t*pw (-1)=pw (t-1):=by rw[←pwA];rfl
theorem zwx {d:Dy} (h:VD d):KI (vl d):=⟨rfl,h,h,zed.2 Rat.le_refl⟩
theorem zd4 {a b B C:Rat} (h1: -B≤a) (h2:a≤B) (h3: -C≤b) (h4:b≤C): -(B*C)≤a*b∧a*b≤B*C:=by
 have m1:=Rat.mul_nonneg (show 0≤B-a by grind) (show 0≤C+b by grind)
 have m2:=Rat.mul_nonneg (show 0≤B+a by grind) (show 0≤C-b by grind)
 have m3:=Rat.mul_nonneg (show 0≤B-a by grind) (show 0≤C-b by grind)
 have m4:=Rat.mul_nonneg (show 0≤B+a by grind) (show 0≤C+b by grind)
 constructor<;>grind
theorem zwz {p:Nat} {op:Rat→Rat→Rat} {dn up:Dy→Dy→Dy×Int} {x y:Iv} (f:F4 p op dn up x y) {b:Rat} (hb:inF p b) (h:qak op x y (fun z=> -b≤z∧z≤b)) (ha:(jv dn up x y).all =false):
 -b≤dv (jv dn up x y).lo ∧dv (jv dn up x y).hi ≤b:=by
 obtain⟨_,_,h3,h4,_,_⟩:=zkk ha
 obtain⟨a1,a2,a3,a4⟩:=h
 have hn:Fp p (-b):= .inr (by rw[Rat.neg_neg];exact hb)
 have hp:Fp p b:= .inl hb
 exact⟨h3 (-b) (f.rt1.1.2 (-b) hn a1.1).2 (f.rt2.1.2 (-b) hn a2.1).2 (f.rt3.1.2 (-b) hn a3.1).2 (f.rt4.1.2 (-b) hn a4.1).2,
  h4 b (f.rt1.2.2 b hp a1.2).2 (f.rt2.2.2 b hp a2.2).2 (f.rt3.2.2 b hp a3.2).2 (f.rt4.2.2 b hp a4.2).2⟩
theorem bI.ends {B:Rat} {x:Iv} (h:bI B x) (k:KI x):(-B≤dv x.lo∧dv x.lo≤B)∧(-B≤dv x.hi∧dv x.hi≤B):=by
 rcases h.2 with c|⟨c1,c2⟩
 ·rw[k.all]at c;cases c
 ·have:=k.dle
  exact⟨⟨c1,Rat.le_trans this c2⟩,⟨Rat.le_trans c1 this,c2⟩⟩
theorem zx4 {B C:Rat} {x y:Iv} (hx:bI B x) (hy:bI C y) {p:Int} (hp:pcB p=true) (hF:inF p.toNat (B*C)):bI (B*C) (zau x y p):=by
 refine⟨qdl hx.1 hy.1 hp,?_⟩
 cases ha:(zau x y p).all with
 |true=>exact .inl rfl
 |false=>
  right
  by_cases hk:KI x∧KI y
  ·rw[zxo hk.1 hk.2 hp]at ha⊢
   obtain⟨⟨a1,a2⟩,⟨a3,a4⟩⟩:=hx.ends hk.1
   obtain⟨⟨b1,b2⟩,⟨b3,b4⟩⟩:=hy.ends hk.2
   exact zwz (zxp hk.1 hk.2 (wm hp)) hF ⟨zd4 a1 a2 b1 b2,zd4 a1 a2 b3 b4,zd4 a3 a4 b1 b2,zd4 a3 a4 b3 b4⟩ ha
  ·rw[qdi hx.1.ri hy.1.ri hk]at ha;cases ha
def whI (n:Int):Iv:=vl (ke n)
theorem yw {n:Int} (h: -4611686018427387904≤n∧n≤4611686018427387904):KI (whI n):=zwx (kd n h)
theorem zpz {n:Int} (h:1≤n):(1:Rat)≤(n:Rat):=by
 have:=(Rat.intCast_le_intCast (a:=1) (b:=n)).2 h
 simpa using this
theorem zhj {n:Rat} (h:1≤n): -1≤n⁻¹ ∧n⁻¹ ≤1:=by
 have h0:0<n:=by grind
 have hi:0<n⁻¹ :=Rat.inv_pos.2 h0
 have hm:=Rat.mul_inv_cancel n (by grind)
 have:=Rat.mul_nonneg (show 0≤n-1 by grind) (Rat.le_of_lt hi)
 constructor<;>grind
theorem zt5 {B:Rat} {x:Iv} (hx:bI B x) {n:Int} (h1:1≤n) (h2:n≤4611686018427387904) {p:Int} (hp:pcB p=true) (hF:inF p.toNat B):bI B (xi x (whI n) p):=by
 have kn:=yw (n:=n) (by omega)
 have hn:=zpz h1
 have e:dv (whI n).lo =(n:Rat):=za3 n
 have e':dv (whI n).hi =(n:Rat):=za3 n
 have hs:0<dv (whI n).lo ∨dv (whI n).hi <0:= .inl (by rw[e];grind)
 refine⟨zml hx.1 (.inl kn) hp,?_⟩
 cases ha:(xi x (whI n) p).all with
 |true=>exact .inl rfl
 |false=>
  right
  by_cases hk:KI x
  ·rw[zi9 hk kn hs hp]at ha⊢
   obtain⟨⟨a1,a2⟩,⟨a3,a4⟩⟩:=hx.ends hk
   obtain⟨i1,i2⟩:=zhj hn
   have q: ∀a:Rat,-B≤a→a≤B→ -B≤a/(n:Rat)∧a/(n:Rat)≤B:=fun a c1 c2=>by
    have:=zd4 c1 c2 i1 i2
    rwa [Rat.mul_one,←Rat.div_def]at this
   refine zwz (zow hk kn hs (wm hp)) hF ?_ ha
   unfold qak
   rw[e,e']
   exact⟨q _ a1 a2,q _ a1 a2,q _ a3 a4,q _ a3 a4⟩
  ·rw[ztp hx.1.ri kn.ri fun c=>hk c.1]at ha;cases ha
theorem zw2 {x:Iv} (h:CI x) (hd:x.all=false→dv x.lo≤dv x.hi):VI x:=by
 cases ha:x.all with
 |true=>
  rcases h with rfl|⟨c,_⟩
  ·exact .inr rfl
  ·rw[ha]at c;cases c
 |false=>exact .inl (qbe h ha (hd ha))
theorem zwr {B:Rat} {x:Iv} (hx:bI B x) {p:Int} (hF:inF p.toNat B):bI B (vg x p):=by
 unfold vg
 split
 ·rename_i c
  obtain⟨c1,hp⟩:=c
  have k:=(qc hx.1.ri).1 c1
  have R1:=zba k.lo (wm hp)
  have R2:=zba k.hi (wm hp)
  obtain⟨⟨a1,a2⟩,⟨a3,a4⟩⟩:=hx.ends k
  refine⟨zvf R1 R2 (ua (jh _ _ _ (wm hp)) (jh _ _ _ (wm hp))) k.dle,?_⟩
  cases ha:(wj (qm x.lo p.toNat false) (qm x.hi p.toNat true)).all with
  |true=>exact .inl rfl
  |false=>
   right
   rw[zb9 ha]
   exact⟨(R1.1.2 (-B) (.inr (by rw[Rat.neg_neg];exact hF)) a1).2,(R2.2.2 B (.inl hF) a4).2⟩
 ·exact bI_w B
theorem zes {d:Dy} {k:Int} (h:(vw d k).2=0):dv (vw d k).1=dv d*pw k:=by
 unfold vw at h⊢
 split at h
 ·cases h
 ·rename_i c
  rw[if_neg c]
  unfold ckN at h⊢
  split at h
  ·rename_i c2
   rw[if_pos c2,zks]
   have e:vN (nm d) (d.e+k)=vN (nm d) d.e*pw k:=by unfold vN;rw[pwA,Rat.mul_assoc]
   rw[e]
   unfold dv
   split
   ·grind
   ·rfl
  ·cases h
theorem zwq {B:Rat} {x:Iv} (hx:bI B x) (k:Int):bI (B*pw k) (wk x k):=by
 unfold wk
 split
 ·rename_i c1
  have kx:=(qc hx.1.ri).1 c1
  obtain⟨⟨a1,a2⟩,⟨a3,a4⟩⟩:=hx.ends kx
  have hc:=ua (zbs x.lo k) (zbs x.hi k)
  cases ha:(wj (vw x.lo k) (vw x.hi k)).all with
  |true=>exact⟨zw2 hc (fun c=>by rw[ha]at c;cases c),.inl ha⟩
  |false=>
   have e:=zb9 ha
   obtain⟨o1,o2⟩:=zc4.1 ha
   have e1:dv (wj (vw x.lo k) (vw x.hi k)).lo =dv x.lo*pw k:=by rw[e];exact zes o1
   have e2:dv (wj (vw x.lo k) (vw x.hi k)).hi =dv x.hi*pw k:=by rw[e];exact zes o2
   refine⟨zw2 hc fun _=>by rw[e1,e2];exact wc kx.dle (zlw k),.inr ?_⟩
   rw[e1,e2]
   exact⟨by rw[←Rat.neg_mul];exact wc a1 (zlw k),wc a4 (zlw k)⟩
 ·exact bI_w _
def sqI (x:Iv) (p:Int):Iv:=if kB x=true∧pcB p=true then wj (jk (zb7 x) (zb7 x) p.toNat false) (jk (kp x) (kp x) p.toNat true)else wI0
theorem zxq {B:Rat} {x:Iv} (hx:bI B x) (k:KI x):0≤dv (kp x)∧dv (kp x)≤B∧(kp x).neg =false:=by
 obtain⟨⟨a1,a2⟩,⟨a3,a4⟩⟩:=hx.ends k
 have hm:kp x=yg (zap x.lo) (zap x.hi):=rfl
 obtain⟨_,_,h3⟩:=zj3 (zap x.lo) (zap x.hi)
 rw[hm]
 rcases h3 with e|e<;>rw[e,zor]
 ·exact⟨zfj _,by unfold zgp;split<;>grind,rfl⟩
 ·exact⟨zfj _,by unfold zgp;split<;>grind,rfl⟩
theorem CI_sq {x:Iv} (p:Int):CI (sqI x p):=by
 unfold sqI
 split
 ·rename_i h
  exact ua (ui _ _ _ _ (wm h.2)) (ui _ _ _ _ (wm h.2))
 ·exact zgq
theorem bI_sq {B:Rat} {x:Iv} (hx:bI B x) {p:Int} (hF:inF p.toNat (B*B)):bI (B*B) (sqI x p):=by
 unfold sqI
 split
 ·rename_i c
  obtain⟨c1,hp⟩:=c
  have k:=(qc hx.1.ri).1 c1
  obtain⟨g1,g2,_⟩:=zxq hx k
  obtain⟨l1,l2,l3⟩:=qfd k Rat.le_refl k.dle
  have l4:=Rat.le_trans l2 l3
  have R1:=zhc (zk7 k) (zk7 k) (wm hp)
  have R2:=zhc (zdj k) (zdj k) (wm hp)
  have s1:dv (zb7 x)*dv (zb7 x)≤dv (kp x)*dv (kp x):=zq9 l1 l4
  have s2:dv (kp x)*dv (kp x)≤B*B:=zq9 g1 g2
  have s0:0≤dv (zb7 x)*dv (zb7 x):=Rat.mul_nonneg l1 l1
  refine⟨zvf R1 R2 (ua (ui _ _ _ _ (wm hp)) (ui _ _ _ _ (wm hp))) s1,?_⟩
  cases ha:(wj (jk (zb7 x) (zb7 x) p.toNat false) (jk (kp x) (kp x) p.toNat true)).all with
  |true=>exact .inl rfl
  |false=>
   right
   rw[zb9 ha]
   refine⟨?_,(R2.2.2 (B*B) (.inl hF) s2).2⟩
   exact(R1.1.2 (-(B*B)) (.inr (by rw[Rat.neg_neg];exact hF)) (by grind)).2
 ·exact bI_w _
def smB (x:Iv) (p:Int):Bool:= !kB x||(decide (vz (kp x)=0)||decide (zk (kp x)≤ -p))
theorem qcs {x:Iv} {p t:Int} (hx:bI (pw t) x) (h:smB x p=false): -p≤t:=by
 unfold smB at h
 rw[Bool.or_eq_false_iff,Bool.or_eq_false_iff]at h
 obtain⟨h1,h2,h3⟩:=h
 have k:=(qc hx.1.ri).1 (by simpa using h1)
 have h2:=of_decide_eq_false h2
 have h3:=of_decide_eq_false h3
 obtain⟨g1,g2,g3⟩:=zxq hx k
 have hn:nm (kp x)≠0:=fun c=>h2 (by unfold vz;rw[if_pos c])
 unfold zk at h3
 rw[if_neg hn]at h3
 have hv:dv (kp x)=vN (nm (kp x)) (kp x).e :=by unfold dv;rw[g3];rfl
 have ht:=uf (n:=nm (kp x)) (e:=(kp x).e) (t:=(bl (nm (kp x)):Int)+(kp x).e -1) (by omega) hn
 rw[←hv]at ht
 have:=zih.1 (Rat.le_trans ht g2)
 omega
end Go.Proofs.YtlocddfailmnpaaGreatDoor

namespace Go.Proofs.YtlocddfailmnpaaGreatDoor
open Go Go.Sx
set_option maxRecDepth 100000
set_option maxHeartbeats 8000000
theorem zuv (n:Int) (h: -4611686018427387904≤n∧n≤4611686018427387904):Fn 134 G0 [.int .i64 n] (.agg (ivC (whI n))) G0:=by
 have h78:=v77 n h
 have h77:=qbu (kd n h)
 show Fn 134 G0 [.int .i64 n] (.agg (ivC (vl (ke n)))) G0
 generalize ke n=d at*
 obtain⟨d1,d2,d3⟩:=d
 have h78:Fn 74 G0 [.int .i64 n] (.agg [.bool d1,.sl .u32 d2,.int .i64 d3]) G0:=h78
 have h77:Fn 90 [] [.agg [.bool d1,.sl .u32 d2,.int .i64 d3]] (.agg [.bool d1,.sl .u32 d2,.int .i64 d3,.bool d1,.sl .u32 d2,.int .i64 d3,.bool false]) []:=h77
 refine fnT hT6 hmx Tryz.func134 rfl rfl (ex:= []) ?_;conv=>whnf
 refine gZc h78 ?_;conv=>whnf
 refine gZn h77 ?_;conv=>whnf
 exact⟨lr rfl,leG⟩
def guP (p m:Int):Int:=min (p+m) 512
theorem x128 (p m:Int) (hp:0≤p∧p≤1000) (hm:0≤m∧m≤1000):Fn 136 [] [.int .i64 p,.int .i64 m] (.agg [.int .i64 (guP p m)]) []:=by
 refine fnT hT6 hmx Tryz.func136 rfl rfl (ex:= []) ?_;conv=>whnf
 exact⟨lg0 (lc (ai0 (by rw[wI (by omega)];unfold guP;rw[Int.min_def];split<;>split<;>omega)) ln0),lh0⟩
theorem x132 (x y:Iv) (hx:RI x) (hy:RI y) (p:Int):Fn 140 G0 [.agg [.int .i64 p],.agg (ivC x),.agg (ivC y)] (.agg (ivC (xi x y p))) G0:=by
 have h:=i85 x y hx hy p
 generalize xi x y p=R at*
 clear hx hy
 refine fnT hT6 hmx Tryz.func140 rfl rfl (ex:= []) ?_;conv=>whnf
 refine gZc h ?_;conv=>whnf
 exact⟨lr rfl,leG⟩
theorem zyk (x y:Iv) (hx:RI x) (hy:RI y) (p:Int):Fn 141 G0 [.agg [.int .i64 p],.agg (ivC x),.agg (ivC y)] (.agg (ivC (uz x y p))) G0:=by
 have h:=i82 x y hx hy p
 generalize uz x y p=R at*
 clear hx hy
 refine fnT hT6 hmx Tryz.func141 rfl rfl (ex:= []) ?_;conv=>whnf
 refine gZc h ?_;conv=>whnf
 exact⟨lr rfl,leG⟩
theorem x135 (x y:Iv) (hx:RI x) (hy:RI y) (p:Int):Fn 143 G0 [.agg [.int .i64 p],.agg (ivC x),.agg (ivC y)] (.agg (ivC (zau x y p))) G0:=by
 have h:=i84 x y hx hy p
 generalize zau x y p=R at*
 clear hx hy
 refine fnT hT6 hmx Tryz.func143 rfl rfl (ex:= []) ?_;conv=>whnf
 refine gZc h ?_;conv=>whnf
 exact⟨lr rfl,leG⟩
theorem zrn (d:Dy):vz d=0∨vz d=1∨vz d= -1:=by
 unfold vz
 split
 ·exact .inl rfl
 ·split
  ·exact .inr (.inr rfl)
  ·exact .inr (.inl rfl)
theorem x202 (x:Iv) (hx:RI x) (p:Int) (hp:0≤p∧p≤1000):Fn 182 [] [.agg [.int .i64 p],.agg (ivC x)] (.bool (smB x p)) []:=by
 have h120:=i182 x hx
 have hw:IntKind.i64.wrap (0-p)= -p:=by rw[wI (by omega)];omega
 have hR:smB x p=(!kB x||(decide (vz (kp x)=0)||decide (zk (kp x)≤ -p))):=rfl
 generalize smB x p=R at*
 by_cases hk:kB x=true
 ·have k:=(qc hx).1 hk
  rw[if_pos hk,hk]at h120
  rw[hk,Bool.not_true,Bool.false_or]at hR
  have vm:=zdj k
  have h81:=zqt vm
  have h127:=zm1 vm
  have hs:=zrn (kp x)
  generalize kp x=M at*
  generalize vz M=S at*
  generalize zk M=t at*
  clear hk k hx vm
  rcases hs with rfl|rfl|rfl
  ·subst hR
   refine fnT hT6 hmx Tryz.func182 rfl rfl (ex:= []) ?_;conv=>whnf
   refine gZn h120 ?_;conv=>whnf
   refine gZn h81 ?_;conv=>whnf
   (refine⟨by kernel_rfl,by kernel_rfl,?_⟩;(conv=>whnf))
   exact⟨lr rfl,lh0⟩
  ·refine fnT hT6 hmx Tryz.func182 rfl rfl (ex:= []) ?_;conv=>whnf
   refine gZn h120 ?_;conv=>whnf
   refine gZn h81 ?_;conv=>whnf
   refine gZn h127 ?_;conv=>whnf
   (refine⟨by kernel_rfl,by kernel_rfl,?_⟩;(conv=>whnf))
   exact⟨ab0 (by rw[hw,hR];rfl),lh0⟩
  ·refine fnT hT6 hmx Tryz.func182 rfl rfl (ex:= []) ?_;conv=>whnf
   refine gZn h120 ?_;conv=>whnf
   refine gZn h81 ?_;conv=>whnf
   refine gZn h127 ?_;conv=>whnf
   (refine⟨by kernel_rfl,by kernel_rfl,?_⟩;(conv=>whnf))
   exact⟨ab0 (by rw[hw,hR];rfl),lh0⟩
 ·have hk:kB x=false:=by simpa using hk
  rw[hk,if_neg (by simp)]at h120
  rw[hk]at hR
  subst hR
  clear hk hx
  refine fnT hT6 hmx Tryz.func182 rfl rfl (ex:= []) ?_;conv=>whnf
  refine gZn h120 ?_;conv=>whnf
  (refine⟨by kernel_rfl,by kernel_rfl,?_⟩;(conv=>whnf))
  exact⟨lr rfl,lh0⟩
def arI (x:Iv):Iv:=if kB x=true then⟨xq (kp x),kp x,false⟩else wI0
theorem qfz {x:Iv} (hx:RI x):CI (arI x):=by
 unfold arI
 split
 ·rename_i h
  have k:=(qc hx).1 h
  exact .inr ⟨rfl,zdi (zdj k),zdj k⟩
 ·exact zgq
theorem x203 (x:Iv) (hx:RI x):Fn 183 [] [.agg (ivC x)] (.agg (ivC (arI x))) []:=by
 have h120:=i182 x hx
 have h25:=i25
 rw[e25]at h25
 have hR:arI x=if kB x=true then⟨xq (kp x),kp x,false⟩else wI0:=rfl
 generalize arI x=R at*
 by_cases hk:kB x=true
 ·have k:=(qc hx).1 hk
  rw[if_pos hk,hk]at h120
  rw[if_pos hk]at hR
  have vm:=zdj k
  have h76:=zyn vm
  rw[show(if nm (kp x)=0 then d0 else⟨!(kp x).neg,(kp x).m,(kp x).e⟩)=xq (kp x)from rfl]at h76
  generalize xq (kp x)=N at*
  generalize kp x=M at*
  subst hR
  clear hk k hx vm
  refine fnT hT6 hmx Tryz.func183 rfl rfl (ex:= []) ?_;conv=>whnf
  refine gZn h120 ?_;conv=>whnf
  refine gZn h76 ?_;conv=>whnf
  (refine⟨by kernel_rfl,by kernel_rfl,?_⟩;(conv=>whnf))
  exact⟨lr rfl,lh0⟩
 ·have hk:kB x=false:=by simpa using hk
  rw[hk,if_neg (by simp)]at h120
  rw[if_neg (by rw[hk];simp)]at hR
  subst hR
  clear hk hx
  refine fnT hT6 hmx Tryz.func183 rfl rfl (ex:= []) ?_;conv=>whnf
  refine gZn h120 ?_;conv=>whnf
  refine gZn h25 ?_;conv=>whnf
  exact⟨lr rfl,lh0⟩
theorem x200 (x:Iv) (h:RI x) (p:Int):Fn 180 G0 [.agg (ivC x),.int .i64 p] (.agg (ivC (sqI x p))) G0:=by
 have h79:=i137 x h
 have h127:=zxu p
 have h25:=i25
 rw[e25]at h25
 have hR:sqI x p=if kB x=true∧pcB p=true then wj (jk (zb7 x) (zb7 x) p.toNat false) (jk (kp x) (kp x) p.toNat true)else wI0:=rfl
 generalize sqI x p=R at*
 have hA:zx7 x=if kB x=true then⟨zb7 x,kp x,false⟩else wI0:=rfl
 by_cases hk:kB x=true
 ·rw[hA,if_pos hk]at h79
  by_cases hp:pcB p=true
  ·rw[hp]at h127
   rw[if_pos ⟨hk,hp⟩]at hR
   have kx:=(qc h).1 hk
   obtain⟨q,rfl,hq⟩:=xf.1 hp
   rw[Int.toNat_natCast]at hR
   have n1:=qbo (zk7 kx) (zk7 kx) q hq
   have n2:=qbn (zdj kx) (zdj kx) q hq
   have n3:=qbv (jk (zb7 x) (zb7 x) q false) (jk (kp x) (kp x) q true)
   rw[←hR]at n3
   generalize jk (zb7 x) (zb7 x) q false=a at*
   generalize jk (kp x) (kp x) q true=b at*
   generalize zb7 x=g at*
   generalize kp x=m at*
   clear kx h hk hR hA
   obtain⟨⟨a1,a2,a3⟩,e⟩:=a
   obtain⟨⟨b1,b2,b3⟩,f⟩:=b
   refine fnT hT6 hmx Tryz.func180 rfl rfl (ex:= []) ?_;conv=>whnf
   refine gZn h79 ?_;conv=>whnf
   refine gZn h127 ?_;conv=>whnf
   refine gZc n1 ?_;conv=>whnf
   refine gZc n2 ?_;conv=>whnf
   refine gZn n3 ?_;conv=>whnf
   exact⟨lr rfl,leG⟩
  ·rw[if_neg fun c=>hp c.2]at hR
   rw[show pcB p=false by simpa using hp]at h127
   subst hR
   generalize zb7 x=g at*
   generalize kp x=m at*
   clear h hk hp hA
   refine fnT hT6 hmx Tryz.func180 rfl rfl (ex:= []) ?_;conv=>whnf
   refine gZn h79 ?_;conv=>whnf
   refine gZn h127 ?_;conv=>whnf
   refine gZn h25 ?_;conv=>whnf
   exact⟨lr rfl,leG⟩
 ·rw[hA,if_neg hk]at h79
  rw[if_neg fun c=>hk c.1]at hR
  subst hR
  clear h hk hA
  refine fnT hT6 hmx Tryz.func180 rfl rfl (ex:= []) ?_;conv=>whnf
  refine gZn h79 ?_;conv=>whnf
  refine gZn h25 ?_;conv=>whnf
  exact⟨lr rfl,leG⟩
def edI (a b:Iv):Iv:=if a.all=true∨b.all=true then wI0 else⟨a.lo,b.hi,false⟩
theorem qfx {a b:Iv} (ha:CI a) (hb:CI b):CI (edI a b):=by
 unfold edI
 split
 ·exact zgq
 ·rename_i h
  rcases ha with rfl|⟨_,a1,_⟩
  ·exact absurd (.inl rfl) h
  ·rcases hb with rfl|⟨_,_,b1⟩
   ·exact absurd (.inr rfl) h
   ·exact .inr ⟨rfl,a1,b1⟩
theorem x86 (a b:Iv):Fn 95 [] [.agg (ivC a),.agg (ivC b)] (.agg (ivC (edI a b))) []:=by
 have h25:=i25
 rw[e25]at h25
 obtain⟨⟨a1,a2,a3⟩,⟨a4,a5,a6⟩,a7⟩:=a
 obtain⟨⟨b1,b2,b3⟩,⟨b4,b5,b6⟩,b7⟩:=b
 show Fn 95 [] [.agg [.bool a1,.sl .u32 a2,.int .i64 a3,.bool a4,.sl .u32 a5,.int .i64 a6,.bool a7],.agg [.bool b1,.sl .u32 b2,.int .i64 b3,.bool b4,.sl .u32 b5,.int .i64 b6,.bool b7]] _ []
 cases a7 with
 |true=>
  refine fnT hT6 hmx Tryz.func95 rfl rfl (ex:= []) ?_;conv=>whnf
  refine gZn h25 ?_;conv=>whnf
  exact⟨lr rfl,lh0⟩
 |false=>
  cases b7 with
  |true=>
   refine fnT hT6 hmx Tryz.func95 rfl rfl (ex:= []) ?_;conv=>whnf
   refine gZn h25 ?_;conv=>whnf
   exact⟨lr rfl,lh0⟩
  |false=>
   refine fnT hT6 hmx Tryz.func95 rfl rfl (ex:= []) ?_;conv=>whnf
   exact⟨lr rfl,lh0⟩
def ftB (x:Iv) (p:Int):Bool:=kB x&&pcB p
theorem kB_vi {x:Iv} (hx:RI x) (vx:VI x):kB x= !x.all:=by
 rcases vx with k|rfl
 ·rw[(qc hx).2 k,k.all];rfl
 ·rfl
theorem x84 (x:Iv) (hx:RI x) (p:Int):Fn 93 [] [.agg (ivC x),.int .i64 p] (.bool (ftB x p)) []:=by
 have h17:=i51 x hx
 have hR:ftB x p=(kB x&&pcB p):=rfl
 have hp:pcB p=true↔8≤p∧p≤512:=by unfold pcB;simp
 generalize ftB x p=R at*
 by_cases ha:x.all=true
 ·have hk:kB x=false:=by
   by_cases c:kB x=true
   ·have:=(qc hx).1 c
    rw[this.all]at ha;cases ha
   ·simpa using c
  rw[hk,Bool.false_and]at hR
  subst hR
  clear h17 hx hk
  obtain⟨⟨x1,x2,x3⟩,⟨x4,x5,x6⟩,x7⟩:=x
  obtain rfl:x7=true:=ha
  show Fn 93 [] [.agg [.bool x1,.sl .u32 x2,.int .i64 x3,.bool x4,.sl .u32 x5,.int .i64 x6,.bool true],.int .i64 p] _ []
  refine fnT hT6 hmx Tryz.func93 rfl rfl (ex:= []) ?_;conv=>whnf
  exact⟨lr rfl,lh0⟩
 have ha:x.all=false:=by simpa using ha
 by_cases hv:viB x=true
 ·have vx:=(ze7 hx).1 hv
  rw[hv]at h17
  rw[kB_vi hx vx,ha,Bool.not_false,Bool.true_and]at hR
  clear hv vx hx
  obtain⟨⟨x1,x2,x3⟩,⟨x4,x5,x6⟩,x7⟩:=x
  obtain rfl:x7=false:=ha
  have h17:Fn 18 [] [.agg [.bool x1,.sl .u32 x2,.int .i64 x3,.bool x4,.sl .u32 x5,.int .i64 x6,.bool false]] (.bool true) []:=h17
  show Fn 93 [] [.agg [.bool x1,.sl .u32 x2,.int .i64 x3,.bool x4,.sl .u32 x5,.int .i64 x6,.bool false],.int .i64 p] _ []
  refine fnT hT6 hmx Tryz.func93 rfl rfl (ex:= []) ?_;conv=>whnf
  refine gZn h17 ?_;conv=>whnf
  refine brI (fun k1=>?_) (fun k1=>?_)
  ·have k1:8≤p:=of_decide_eq_true k1
   conv=>whnf
   refine⟨ab0 ?_,lh0⟩
   rw[hR,Bool.eq_iff_iff,decide_eq_true_eq,hp]
   exact⟨fun h=>⟨k1,h⟩,fun h=>h.2⟩
  ·have k1: ¬8≤p:=of_decide_eq_false k1
   rw[show pcB p=false by rw[←Bool.not_eq_true,hp];omega]at hR
   subst hR
   conv=>whnf
   exact⟨lr rfl,lh0⟩
 ·have hk:kB x=false:=by
   by_cases c:kB x=true
   ·exact absurd ((ze7 hx).2 (.inl ((qc hx).1 c))) hv
   ·simpa using c
  rw[hk,Bool.false_and]at hR
  subst hR
  rw[show viB x=false by simpa using hv]at h17
  clear hv hx hk
  obtain⟨⟨x1,x2,x3⟩,⟨x4,x5,x6⟩,x7⟩:=x
  obtain rfl:x7=false:=ha
  have h17:Fn 18 [] [.agg [.bool x1,.sl .u32 x2,.int .i64 x3,.bool x4,.sl .u32 x5,.int .i64 x6,.bool false]] (.bool false) []:=h17
  show Fn 93 [] [.agg [.bool x1,.sl .u32 x2,.int .i64 x3,.bool x4,.sl .u32 x5,.int .i64 x6,.bool false],.int .i64 p] _ []
  refine fnT hT6 hmx Tryz.func93 rfl rfl (ex:= []) ?_;conv=>whnf
  refine gZn h17 ?_;conv=>whnf
  exact⟨lr rfl,lh0⟩
def mdB (d:Dy):Bool:=decide (qq (zap d) (ke 1000)≤0)
theorem x85 {d:Dy} (hd:VD d):Fn 94 G0 [.agg (dyC d)] (.bool (mdB d)) G0:=by
 have h125:=qcc hd
 have h78:=v77 1000 (by decide)
 have h55:=v81 (zdk hd) (kd 1000 (by decide))
 have hR:mdB d=decide (qq (zap d) (ke 1000)≤0):=rfl
 generalize mdB d=R at*
 generalize qq (zap d) (ke 1000)=C at*
 generalize zap d=a at*
 generalize ke 1000=t at*
 clear hd
 refine fnT hT6 hmx Tryz.func94 rfl rfl (ex:= []) ?_;conv=>whnf
 refine gZn h125 ?_;conv=>whnf
 refine gZc h78 ?_;conv=>whnf
 refine gZn h55 ?_;conv=>whnf
 exact⟨ab0 (by rw[hR]),leG⟩
end Go.Proofs.YtlocddfailmnpaaGreatDoor

namespace Go.Proofs.YtlocddfailmnpaaGreatDoor
open Go Go.Sx
set_option maxRecDepth 100000
set_option maxHeartbeats 8000000
theorem zro {P:Program} {T:Tab} {res:List ResultVar} {ex:List Nat} {r:AV} {H':Hp} {c b:Code} {σ:St} (e:c= .scope b) (h:SemOK P T res ex r H' b σ):SemOK P T res ex r H' c σ:=
 ⟨fun c0 a w Q hr hq=>by
  subst e
  exact wpIn_wide.2 (wp_scope_straight (wpIn_wide.1 (h.sem c0 a w (Exit.noGoto Q) hr fun x τ a w hr hf=>by
   cases x with
   |normal=>exact hq _ τ a w hr hf
   |ret=>exact hq _ τ a w hr hf
   |exit _=>exact hf.elim
   |goto _=>exact hf.elim
   |panic _=>exact hf.elim
   |outgrown=>exact hf.elim)))⟩
theorem zrp {P:Program} {T:Tab} {res:List ResultVar} {ex:List Nat} {r:AV} {H':Hp} {c b:Code} {l:Nat} {σ:St} (e:c= .seq (.label l) b) (h:SemOK P T res ex r H' b σ):SemOK P T res ex r H' c σ:=
 ⟨fun c0 a w Q hr hq=>by
  subst e
  exact wpIn_seq (wpIn_label (h.sem c0 a w Q hr hq))⟩
def zyo:Code→Code
 | .scope b=>b
 | _=> .skip
def zyp:Code→Code
 | .seq (.label _) b=>b
 | _=> .skip
def exG (y:Iv) (p:Int):Nat→Nat→Iv→Iv→Iv×Iv
 |0,_,t,s=>(t,s)
 |f+1,n,t,s=>if smB (xi (zau t y p) (whI n) p) p=true then(xi (zau t y p) (whI n) p,uz s (xi (zau t y p) (whI n) p) p)else exG y p f (n+1) (xi (zau t y p) (whI n) p) (uz s (xi (zau t y p) (whI n) p) p)
def exI (y:Iv) (p:Int):Iv:=uz (exG y p (p.toNat+2) 1 (whI 1) (whI 1)).2 (arI (exG y p (p.toNat+2) 1 (whI 1) (whI 1)).1) p
theorem qe7:bI (pw 0) (whI 1):=by
 refine⟨.inl (yw (by decide)),.inr ?_⟩
 have e:dv (whI 1).lo =1:=za3 1
 have e':dv (whI 1).hi =1:=za3 1
 have e2:pw 0=1:=rfl
 rw[e,e',e2]
 constructor<;>decide
noncomputable def zt3:Code:=Tryz.f179.body.getD .skip
noncomputable def qd3:Code:=zyo (zkt 1 zt3)
noncomputable def qej:Code:=zyp (zkt 1 qd3)
theorem x199 (y:Iv) (hy:bI (pw (-1)) y) (p:Int) (hp:pcB p=true):Fn 179 G0 [.agg [.int .i64 p],.agg (ivC y)] (.agg (ivC (exI y p))) G0:=by
 have hp8:8≤p∧p≤512:=by unfold pcB at hp;simpa using hp
 have hR:exI y p=uz (exG y p (p.toNat+2) 1 (whI 1) (whI 1)).2 (arI (exG y p (p.toNat+2) 1 (whI 1) (whI 1)).1) p:=rfl
 generalize exI y p=R at*
 obtain⟨E,hE⟩: ∃E,exG y p (p.toNat+2) 1 (whI 1) (whI 1)=E:=⟨_,rfl⟩
 rw[hE]at hR
 have hw1:=zuv 1 (by decide)
 have cw:CI (whI 1):= .inr ⟨rfl,(yw (n:=1) (by decide)).lo,(yw (n:=1) (by decide)).hi⟩
 have bw:=qe7
 have hst: ∃w:Iv,w=whI 1:=⟨_,rfl⟩
 obtain⟨w,hw⟩:=hst
 rw[←hw]at hw1 cw bw hE
 clear hw
 obtain⟨⟨y1,y2,y3⟩,⟨y4,y5,y6⟩,y7⟩:=y
 obtain⟨⟨w1,w2,w3⟩,⟨w4,w5,w6⟩,w7⟩:=w
 show Fn 179 G0 [.agg [.int .i64 p],.agg [.bool y1,.sl .u32 y2,.int .i64 y3,.bool y4,.sl .u32 y5,.int .i64 y6,.bool y7]] _ G0
 have hw1:Fn 134 G0 [.int .i64 1] (.agg [.bool w1,.sl .u32 w2,.int .i64 w3,.bool w4,.sl .u32 w5,.int .i64 w6,.bool w7]) G0:=hw1
 refine wv (code:=zt3) hT6 hmx Tryz.func179 rfl rfl (ex:= []) ?_;conv=>whnf
 refine ku hT6 hmx 1 (fun _:Unit=>⟨[.any,.any,.ptr 2 0,.ptr 3 0,.ptr 4 0]++zen 27,[(2,.cells [.int .i64 p]),(3,.cells [.bool y1,.sl .u32 y2,.int .i64 y3,.bool y4,.sl .u32 y5,.int .i64 y6,.bool y7]),(4,.cells [.any,.any,.any,.any,.any,.any,.any]),(5,.free),(6,.free),(qt,.gst JT)]⟩) (fun _=>by kernel_rfl) ?_ (fun _=>?_)
 ·conv=>whnf
  refine⟨(),?_⟩
  ((conv=>whnf);refine And.intro ?_ ?_;repeat' first|refine lc ?_ ?_|exact la0|exact lr rfl|exact ln0|refine lh1 ?_ ?_|exact lh0|exact bf0|exact bd0|refine bc0 ?_|exact bm0 rfl|exact bb0 rfl|exact bg0 rfl|exact li0 rfl|refine lg0 ?_|refine lt0 ?_|fail)
 refine zro (b:=qd3) (by kernel_rfl) ?_
 refine ku hT6 hmx 1 (fun _:Unit=>⟨[.any,.any,.ptr 2 0,.ptr 3 0,.ptr 4 0,.ptr 5 0,.ptr 6 0]++zen 25,[(2,.cells [.int .i64 p]),(3,.cells [.bool y1,.sl .u32 y2,.int .i64 y3,.bool y4,.sl .u32 y5,.int .i64 y6,.bool y7]),(4,.cells [.any,.any,.any,.any,.any,.any,.any]),(5,.cells [.bool w1,.sl .u32 w2,.int .i64 w3,.bool w4,.sl .u32 w5,.int .i64 w6,.bool w7]),(6,.cells [.bool w1,.sl .u32 w2,.int .i64 w3,.bool w4,.sl .u32 w5,.int .i64 w6,.bool w7]),(qt,.gst JT)]⟩) (fun _=>by kernel_rfl) ?_ (fun _=>?_)
 ·conv=>whnf
  refine gZc hw1 ?_;conv=>whnf
  refine gZc hw1 ?_;conv=>whnf
  refine⟨(),?_⟩
  ((conv=>whnf);refine And.intro ?_ ?_;repeat' first|refine lc ?_ ?_|exact la0|exact lr rfl|exact ln0|refine lh1 ?_ ?_|exact lh0|exact bf0|exact bd0|refine bc0 ?_|exact bm0 rfl|exact bb0 rfl|exact bg0 rfl|exact li0 rfl|refine lg0 ?_|refine lt0 ?_|fail)
 refine zrp (l:=0) (b:=qej) (by kernel_rfl) ?_
 refine jr hT6 hmx ?_;conv=>whnf
 refine⟨Nat×Nat×Iv×Iv,fun x=>1≤x.2.1∧(x.2.1:Int)≤p+1∧(x.2.1:Int)+x.1=p+3∧bI (pw (1-x.2.1)) x.2.2.1∧CI x.2.2.2∧exG ⟨⟨y1,y2,y3⟩,⟨y4,y5,y6⟩,y7⟩ p x.1 x.2.1 x.2.2.1 x.2.2.2=E,fun x=> [(7,.int .i64 x.2.1)],fun x=> [(5,.cells (ivC x.2.2.1)),(6,.cells (ivC x.2.2.2))],fun x=>x.1,
  (p.toNat+2,1,⟨⟨w1,w2,w3⟩,⟨w4,w5,w6⟩,w7⟩,⟨⟨w1,w2,w3⟩,⟨w4,w5,w6⟩,w7⟩),⟨Nat.le_refl 1,by simp only;omega,by simp only;omega,bw,cw,hE⟩,?_,fun x hx=>?_⟩
 ·((conv=>whnf);refine And.intro ?_ ?_;repeat' first|refine lc ?_ ?_|exact la0|exact lr rfl|exact ln0|refine lh1 ?_ ?_|exact lh0|exact bf0|exact bd0|refine bc0 ?_|exact bm0 rfl|exact bb0 rfl|exact bg0 rfl|exact li0 rfl|refine lg0 ?_|refine lt0 ?_|fail)
 (refine⟨by kernel_rfl,?_⟩;(conv=>whnf))
 obtain⟨f,n,t,s⟩:=x
 obtain⟨hx1,hx0,hx2,hx3,hx4,hx5⟩:=hx
 simp only at hx0 hx1 hx2 hx3 hx4 hx5
 cases f with
 |zero=>omega
 |succ f=>
  simp only[exG]at hx5
  have b1:=zx4 hx3 hy hp (by rw[zfm];exact pwF (by omega) (by omega))
  rw[zfm]at b1
  have b2:=zt5 b1 (n:=n) (by omega) (by omega) hp (pwF (by omega) (by omega))
  have c1:=x135 t ⟨⟨y1,y2,y3⟩,⟨y4,y5,y6⟩,y7⟩ hx3.1.ri hy.1.ri p
  have c2:=zuv n (by omega)
  have c3:=x132 _ _ b1.1.ri (yw (n:=n) (by omega)).ri p
  have c4:=zyk s _ hx4.ri b2.1.ri p
  have S4:=zeh s (xi (zau t ⟨⟨y1,y2,y3⟩,⟨y4,y5,y6⟩,y7⟩ p) (whI n) p) p
  have c5:=x202 _ b2.1.ri p (by omega)
  have c6:=x203 _ b2.1.ri
  have c7:=zyk _ _ S4.ri (qfz b2.1.ri).ri p
  have hs:smB (xi (zau t ⟨⟨y1,y2,y3⟩,⟨y4,y5,y6⟩,y7⟩ p) (whI n) p) p=false→(n:Int)≤p:=fun h=>by have:=qcs b2 h;omega
  generalize zau t ⟨⟨y1,y2,y3⟩,⟨y4,y5,y6⟩,y7⟩ p=M at*
  generalize whI n=W at*
  generalize xi M W p=D at*
  generalize uz s D p=S at*
  generalize smB D p=B at*
  have hb3:bI (pw (1-((n+1:Nat):Int))) D:=by
   have e:(1:Int)-n-1=1-((n+1:Nat):Int):=by omega
   rwa [e]at b2
  clear b1 b2 hx3 hx4 hy
  cases B with
  |true=>
   rw[if_pos rfl]at hx5
   rw[←hx5]at hR
   simp only at hR
   rw[←hR]at c7
   clear hR hx5 hE
   generalize arI D=A at*
   obtain⟨⟨t1,t2,t3⟩,⟨t4,t5,t6⟩,t7⟩:=t
   obtain⟨⟨s1,s2,s3⟩,⟨s4,s5,s6⟩,s7⟩:=s
   obtain⟨⟨m1,m2,m3⟩,⟨m4,m5,m6⟩,m7⟩:=M
   obtain⟨⟨v1,v2,v3⟩,⟨v4,v5,v6⟩,v7⟩:=W
   obtain⟨⟨d1,d2,d3⟩,⟨d4,d5,d6⟩,d7⟩:=D
   obtain⟨⟨z1,z2,z3⟩,⟨z4,z5,z6⟩,z7⟩:=S
   obtain⟨⟨a1,a2,a3⟩,⟨a4,a5,a6⟩,a7⟩:=A
   obtain⟨⟨r1,r2,r3⟩,⟨r4,r5,r6⟩,r7⟩:=R
   have c1:Fn 143 G0 [.agg [.int .i64 p],.agg [.bool t1,.sl .u32 t2,.int .i64 t3,.bool t4,.sl .u32 t5,.int .i64 t6,.bool t7],.agg [.bool y1,.sl .u32 y2,.int .i64 y3,.bool y4,.sl .u32 y5,.int .i64 y6,.bool y7]] (.agg [.bool m1,.sl .u32 m2,.int .i64 m3,.bool m4,.sl .u32 m5,.int .i64 m6,.bool m7]) G0:=c1
   have c2:Fn 134 G0 [.int .i64 n] (.agg [.bool v1,.sl .u32 v2,.int .i64 v3,.bool v4,.sl .u32 v5,.int .i64 v6,.bool v7]) G0:=c2
   have c3:Fn 140 G0 [.agg [.int .i64 p],.agg [.bool m1,.sl .u32 m2,.int .i64 m3,.bool m4,.sl .u32 m5,.int .i64 m6,.bool m7],.agg [.bool v1,.sl .u32 v2,.int .i64 v3,.bool v4,.sl .u32 v5,.int .i64 v6,.bool v7]] (.agg [.bool d1,.sl .u32 d2,.int .i64 d3,.bool d4,.sl .u32 d5,.int .i64 d6,.bool d7]) G0:=c3
   have c4:Fn 141 G0 [.agg [.int .i64 p],.agg [.bool s1,.sl .u32 s2,.int .i64 s3,.bool s4,.sl .u32 s5,.int .i64 s6,.bool s7],.agg [.bool d1,.sl .u32 d2,.int .i64 d3,.bool d4,.sl .u32 d5,.int .i64 d6,.bool d7]] (.agg [.bool z1,.sl .u32 z2,.int .i64 z3,.bool z4,.sl .u32 z5,.int .i64 z6,.bool z7]) G0:=c4
   have c5:Fn 182 [] [.agg [.int .i64 p],.agg [.bool d1,.sl .u32 d2,.int .i64 d3,.bool d4,.sl .u32 d5,.int .i64 d6,.bool d7]] (.bool true) []:=c5
   have c6:Fn 183 [] [.agg [.bool d1,.sl .u32 d2,.int .i64 d3,.bool d4,.sl .u32 d5,.int .i64 d6,.bool d7]] (.agg [.bool a1,.sl .u32 a2,.int .i64 a3,.bool a4,.sl .u32 a5,.int .i64 a6,.bool a7]) []:=c6
   have c7:Fn 141 G0 [.agg [.int .i64 p],.agg [.bool z1,.sl .u32 z2,.int .i64 z3,.bool z4,.sl .u32 z5,.int .i64 z6,.bool z7],.agg [.bool a1,.sl .u32 a2,.int .i64 a3,.bool a4,.sl .u32 a5,.int .i64 a6,.bool a7]] (.agg [.bool r1,.sl .u32 r2,.int .i64 r3,.bool r4,.sl .u32 r5,.int .i64 r6,.bool r7]) G0:=c7
   refine gZc c1 ?_;conv=>whnf
   refine gZc c2 ?_;conv=>whnf
   refine gZc c3 ?_;conv=>whnf
   (refine⟨by kernel_rfl,by kernel_rfl,?_⟩;(conv=>whnf))
   refine gZc c4 ?_;conv=>whnf
   refine gZn c5 ?_;conv=>whnf
   refine gZn c6 ?_;conv=>whnf
   refine gZc c7 ?_;conv=>whnf
   (refine⟨by kernel_rfl,by kernel_rfl,?_⟩;(conv=>whnf))
   exact⟨lr rfl,leG⟩
  |false=>
   rw[if_neg (by decide)]at hx5
   have hn:=hs rfl
   clear hR c6 c7 hE
   obtain⟨⟨t1,t2,t3⟩,⟨t4,t5,t6⟩,t7⟩:=t
   obtain⟨⟨s1,s2,s3⟩,⟨s4,s5,s6⟩,s7⟩:=s
   obtain⟨⟨m1,m2,m3⟩,⟨m4,m5,m6⟩,m7⟩:=M
   obtain⟨⟨v1,v2,v3⟩,⟨v4,v5,v6⟩,v7⟩:=W
   obtain⟨⟨d1,d2,d3⟩,⟨d4,d5,d6⟩,d7⟩:=D
   obtain⟨⟨z1,z2,z3⟩,⟨z4,z5,z6⟩,z7⟩:=S
   have c1:Fn 143 G0 [.agg [.int .i64 p],.agg [.bool t1,.sl .u32 t2,.int .i64 t3,.bool t4,.sl .u32 t5,.int .i64 t6,.bool t7],.agg [.bool y1,.sl .u32 y2,.int .i64 y3,.bool y4,.sl .u32 y5,.int .i64 y6,.bool y7]] (.agg [.bool m1,.sl .u32 m2,.int .i64 m3,.bool m4,.sl .u32 m5,.int .i64 m6,.bool m7]) G0:=c1
   have c2:Fn 134 G0 [.int .i64 n] (.agg [.bool v1,.sl .u32 v2,.int .i64 v3,.bool v4,.sl .u32 v5,.int .i64 v6,.bool v7]) G0:=c2
   have c3:Fn 140 G0 [.agg [.int .i64 p],.agg [.bool m1,.sl .u32 m2,.int .i64 m3,.bool m4,.sl .u32 m5,.int .i64 m6,.bool m7],.agg [.bool v1,.sl .u32 v2,.int .i64 v3,.bool v4,.sl .u32 v5,.int .i64 v6,.bool v7]] (.agg [.bool d1,.sl .u32 d2,.int .i64 d3,.bool d4,.sl .u32 d5,.int .i64 d6,.bool d7]) G0:=c3
   have c4:Fn 141 G0 [.agg [.int .i64 p],.agg [.bool s1,.sl .u32 s2,.int .i64 s3,.bool s4,.sl .u32 s5,.int .i64 s6,.bool s7],.agg [.bool d1,.sl .u32 d2,.int .i64 d3,.bool d4,.sl .u32 d5,.int .i64 d6,.bool d7]] (.agg [.bool z1,.sl .u32 z2,.int .i64 z3,.bool z4,.sl .u32 z5,.int .i64 z6,.bool z7]) G0:=c4
   have c5:Fn 182 [] [.agg [.int .i64 p],.agg [.bool d1,.sl .u32 d2,.int .i64 d3,.bool d4,.sl .u32 d5,.int .i64 d6,.bool d7]] (.bool false) []:=c5
   refine gZc c1 ?_;conv=>whnf
   refine gZc c2 ?_;conv=>whnf
   refine gZc c3 ?_;conv=>whnf
   (refine⟨by kernel_rfl,by kernel_rfl,?_⟩;(conv=>whnf))
   refine gZc c4 ?_;conv=>whnf
   refine gZn c5 ?_;conv=>whnf
   refine⟨(f,n+1,⟨⟨d1,d2,d3⟩,⟨d4,d5,d6⟩,d7⟩,⟨⟨z1,z2,z3⟩,⟨z4,z5,z6⟩,z7⟩),⟨by simp only;omega,by simp only;omega,by simp only;omega,hb3,S4,hx5⟩,by show f<f+1;omega,?_⟩
   ((conv=>whnf);refine And.intro ?_ ?_;repeat' first|refine lc ?_ ?_|exact la0|exact lr rfl|exact ln0|refine lh1 ?_ ?_|exact lh0|exact bf0|exact bd0|refine bc0 ?_|exact bm0 rfl|exact bb0 rfl|exact bg0 rfl|exact li0 rfl|refine lg0 ?_|refine lt0 ?_|fail)
   exact ai0 (by rw[wI (by simp only;omega)];simp only;omega)
end Go.Proofs.YtlocddfailmnpaaGreatDoor

namespace Go.Proofs.YtlocddfailmnpaaGreatDoor
open Go Go.Sx
set_option maxRecDepth 100000
set_option maxHeartbeats 8000000
theorem zy9 {a b c:Rat} (h:a≤b) (g:b<c):a<c:=Rat.not_le.1 fun k=>Rat.not_le.2 g (Rat.le_trans k h)
theorem CI_ex (y:Iv) (p:Int):CI (exI y p):=zeh _ _ _
def haI (p:Int):Nat→Iv→Iv
 |0,y=>exI y p
 |n+1,y=>sqI (haI p n (wk y (-1))) p
theorem qfv (p:Int): ∀(n:Nat) (y:Iv),CI (haI p n y)
 |0,y=>CI_ex y p
 | _+1,_=>CI_sq p
theorem x130 (p:Int) (hp:pcB p=true): ∀(n:Nat) (y:Iv),n≤100→bI (pw ((n:Int)-1)) y→Fn 138 G0 [.agg [.int .i64 p],.agg (ivC y),.int .i64 (n:Int)] (.agg (ivC (haI p n y))) G0:=by
 intro n
 induction n with
 |zero=>
  intro y _ hy
  have h:=x199 y hy p hp
  show Fn 138 G0 [.agg [.int .i64 p],.agg (ivC y),.int .i64 0] (.agg (ivC (exI y p))) G0
  generalize exI y p=R at*
  clear hy
  obtain⟨⟨y1,y2,y3⟩,⟨y4,y5,y6⟩,y7⟩:=y
  obtain⟨⟨r1,r2,r3⟩,⟨r4,r5,r6⟩,r7⟩:=R
  have h:Fn 179 G0 [.agg [.int .i64 p],.agg [.bool y1,.sl .u32 y2,.int .i64 y3,.bool y4,.sl .u32 y5,.int .i64 y6,.bool y7]] (.agg [.bool r1,.sl .u32 r2,.int .i64 r3,.bool r4,.sl .u32 r5,.int .i64 r6,.bool r7]) G0:=h
  show Fn 138 G0 [.agg [.int .i64 p],.agg [.bool y1,.sl .u32 y2,.int .i64 y3,.bool y4,.sl .u32 y5,.int .i64 y6,.bool y7],.int .i64 0] _ G0
  refine fnT hT6 hmx Tryz.func138 rfl rfl (ex:= []) ?_;conv=>whnf
  refine gZc h ?_;conv=>whnf
  exact⟨lr rfl,leG⟩
 |succ n ih0=>
  intro y hn hy
  have hs:=i191 y hy.1.ri (-1)
  have hb:=zwq hy (-1)
  rw[zfm]at hb
  have ih:=ih0 (wk y (-1)) (by omega) (by
   have e:(((n+1:Nat):Int)-1-1)=(n:Int)-1:=by omega
   rwa [e]at hb)
  have hq:=x200 _ (qfv p n (wk y (-1))).ri p
  show Fn 138 G0 [.agg [.int .i64 p],.agg (ivC y),.int .i64 ((n+1:Nat):Int)] (.agg (ivC (sqI (haI p n (wk y (-1))) p))) G0
  have hw:IntKind.i64.wrap (((n+1:Nat):Int)-1)=n:=by rw[wI (by omega)];omega
  generalize sqI (haI p n (wk y (-1))) p=R at*
  generalize haI p n (wk y (-1))=V at*
  generalize wk y (-1)=Z at*
  clear hy hb ih0
  generalize hN:((n+1:Nat):Int)=N at*
  obtain⟨⟨y1,y2,y3⟩,⟨y4,y5,y6⟩,y7⟩:=y
  obtain⟨⟨z1,z2,z3⟩,⟨z4,z5,z6⟩,z7⟩:=Z
  obtain⟨⟨v1,v2,v3⟩,⟨v4,v5,v6⟩,v7⟩:=V
  obtain⟨⟨r1,r2,r3⟩,⟨r4,r5,r6⟩,r7⟩:=R
  have hs:Fn 139 G0 [.agg [.bool y1,.sl .u32 y2,.int .i64 y3,.bool y4,.sl .u32 y5,.int .i64 y6,.bool y7],.int .i64 (-1)] (.agg [.bool z1,.sl .u32 z2,.int .i64 z3,.bool z4,.sl .u32 z5,.int .i64 z6,.bool z7]) G0:=hs
  have ih:Fn 138 G0 [.agg [.int .i64 p],.agg [.bool z1,.sl .u32 z2,.int .i64 z3,.bool z4,.sl .u32 z5,.int .i64 z6,.bool z7],.int .i64 n] (.agg [.bool v1,.sl .u32 v2,.int .i64 v3,.bool v4,.sl .u32 v5,.int .i64 v6,.bool v7]) G0:=ih
  have hq:Fn 180 G0 [.agg [.bool v1,.sl .u32 v2,.int .i64 v3,.bool v4,.sl .u32 v5,.int .i64 v6,.bool v7],.int .i64 p] (.agg [.bool r1,.sl .u32 r2,.int .i64 r3,.bool r4,.sl .u32 r5,.int .i64 r6,.bool r7]) G0:=hq
  show Fn 138 G0 [.agg [.int .i64 p],.agg [.bool y1,.sl .u32 y2,.int .i64 y3,.bool y4,.sl .u32 y5,.int .i64 y6,.bool y7],.int .i64 N] _ G0
  refine fnT hT6 hmx Tryz.func138 rfl rfl (ex:= []) ?_;conv=>whnf
  refine brI (fun h1=>?_) (fun _=>?_)
  ·have h1:(N==0)=true:=h1
   have h1:N=0:=by simpa using h1
   omega
  conv=>whnf
  refine gZc hs ?_;conv=>whnf
  rw[hw]
  refine gZc ih ?_;conv=>whnf
  refine gZc hq ?_;conv=>whnf
  (refine⟨by kernel_rfl,by kernel_rfl,?_⟩;(conv=>whnf))
  exact⟨lr rfl,leG⟩
def hvN (d:Dy):Nat:=(zk d+1).toNat
def poI (d:Dy) (p:Int):Iv:=if vz d=0 then whI 1 else vg (haI (guP p (hvN d+24)) (hvN d) (vg (vl d) (guP p (hvN d+24)))) p
theorem qel {d:Dy} (h0:nm d≠0): -(pw (zk d))≤dv d∧dv d≤pw (zk d):=by
 have ht:zk d=bl (nm d)+d.e:=by unfold zk;rw[if_neg h0]
 have h1:=zcq (n:=nm d) (e:=d.e) (t:=zk d) (by omega)
 have h2:=zlg (nm d) d.e
 unfold dv
 split<;>constructor<;>grind
theorem qdr {d:Dy} (hm:mdB d=true) (h0:nm d≠0):zk d≤10:=by
 have hm:qq (zap d) (ke 1000)≤0:=of_decide_eq_true hm
 have h1:=zed.1 hm
 rw[za3]at h1
 have h2:dv (zap d)=vN (nm d) d.e:=rfl
 rw[h2]at h1
 have ht:zk d=bl (nm d)+d.e:=by unfold zk;rw[if_neg h0]
 have h3:=uf (n:=nm d) (e:=d.e) (t:=zk d-1) (by omega) h0
 have h4:((1000:Int):Rat)<pw 10:=by
  rw[show pw 10=((2^10:Nat):Rat)from zr5 10]
  decide
 have h5:=zy9 (Rat.le_trans h3 h1) h4
 have: ¬(10:Int)≤zk d-1:=fun c=>Rat.not_le.2 h5 (zih.2 c)
 omega
theorem qaf {p m:Int} (hp:8≤p∧p≤512) (hm:0≤m):pcB (guP p m)=true:=by
 unfold pcB guP
 simp
 omega
theorem ze6 {x:Iv} (p:Int):CI (vg x p):=by
 unfold vg
 split
 ·rename_i h
  exact ua (jh _ _ _ (wm h.2)) (jh _ _ _ (wm h.2))
 ·exact zgq
theorem qfq (d:Dy) (p:Int):CI (poI d p):=by
 unfold poI
 split
 ·exact .inr ⟨rfl,kd 1 (by decide),kd 1 (by decide)⟩
 ·exact ze6 p
theorem x87 {d:Dy} (hd:VD d) (hm:mdB d=true) (p:Int) (hp:8≤p∧p≤512):Fn 96 G0 [.agg (dyC d),.int .i64 p] (.agg (ivC (poI d p))) G0:=by
 have h81:=zqt hd
 have h126:=zuv 1 (by decide)
 have h127:=zm1 hd
 have h77:=qbu hd
 have hR:poI d p=if vz d=0 then whI 1 else vg (haI (guP p (hvN d+24)) (hvN d) (vg (vl d) (guP p (hvN d+24)))) p:=rfl
 generalize poI d p=R at*
 by_cases h0:nm d=0
 ·have hs:vz d=0:=by unfold vz;rw[if_pos h0]
  rw[if_pos hs]at hR
  rw[hs]at h81
  rw[←hR]at h126
  clear hd hm h127 h77 hR h0 hs
  refine fnT hT6 hmx Tryz.func96 rfl rfl (ex:= []) ?_;conv=>whnf
  refine gZn h81 ?_;conv=>whnf
  refine gZc h126 ?_;conv=>whnf
  exact⟨lr rfl,leG⟩
 have hs:vz d≠0:=by unfold vz;rw[if_neg h0];split<;>decide
 have htop:=qdr hm h0
 have hlow: -100000≤zk d:=by
  have:=hd.exp
  unfold zk;rw[if_neg h0];omega
 rw[if_neg hs]at hR
 have hn:hvN d≤11:=by unfold hvN;omega
 have hn2:zk d≤(hvN d:Int)-1:=by unfold hvN;omega
 have hg:=qaf hp (m:=(hvN d:Int)+24) (by omega)
 have hg8:8≤guP p ((hvN d:Int)+24)∧guP p ((hvN d:Int)+24)≤512:=by unfold pcB at hg;simpa using hg
 have hpt:bI (pw ((hvN d:Int)-1)) (vl d):=by
  have:=qel h0
  have hle:pw (zk d)≤pw ((hvN d:Int)-1):=zih.2 hn2
  refine⟨.inl (zwx hd),.inr ⟨?_,Rat.le_trans this.2 hle⟩⟩
  have h1:=this.1
  show-(pw ((hvN d:Int)-1))≤dv d
  grind
 have hr1:=zwr hpt (p:=guP p ((hvN d:Int)+24)) (pwF (by omega) (by omega))
 have c1:=x128 p ((hvN d:Int)+24) (by omega) (by omega)
 have c2:=qd5 _ hpt.1.ri (guP p ((hvN d:Int)+24))
 have c3:=x130 _ hg (hvN d) _ (by omega) hr1
 have c4:=qd5 _ (qfv (guP p ((hvN d:Int)+24)) (hvN d) (vg (vl d) (guP p ((hvN d:Int)+24)))).ri p
 rw[←hR]at c4
 have hmax:(if(0:Int)>IntKind.i64.wrap (zk d+1)then 0 else IntKind.i64.wrap (zk d+1))=(hvN d:Int):=by
  rw[wI (by omega)]
  unfold hvN
  split<;>omega
 have hw:IntKind.i64.wrap ((hvN d:Int)+24)=(hvN d:Int)+24:=wI (by omega)
 have hw2:IntKind.i64.wrap (zk d+1)=zk d+1:=wI (by omega)
 clear hR hr1 hpt hg hm
 generalize haI (guP p ((hvN d:Int)+24)) (hvN d) (vg (vl d) (guP p ((hvN d:Int)+24)))=V at*
 generalize vg (vl d) (guP p ((hvN d:Int)+24))=Z at*
 generalize vl d=P at*
 generalize guP p ((hvN d:Int)+24)=g at*
 generalize (hvN d:Int)=N at*
 generalize zk d=t at*
 generalize vz d=S at*
 clear hd h0
 refine fnT hT6 hmx Tryz.func96 rfl rfl (ex:= []) ?_;conv=>whnf
 refine gZn h81 ?_;conv=>whnf
 refine brI (fun k1=>?_) (fun _=>?_)
 ·have k1:(S==0)=true:=k1
  exact absurd (by simpa using k1) hs
 conv=>whnf
 refine gZn h127 ?_;conv=>whnf
 rw[hmax,hw]
 refine gZn c1 ?_;conv=>whnf
 refine gZn h77 ?_;conv=>whnf
 refine gZc c2 ?_;conv=>whnf
 refine gZc c3 ?_;conv=>whnf
 refine gZc c4 ?_;conv=>whnf
 (refine⟨by kernel_rfl,by kernel_rfl,?_⟩;(conv=>whnf))
 exact⟨lr rfl,leG⟩
def zxx (x:Iv) (p:Int):Iv:=if ftB x p=true∧mdB x.lo=true∧mdB x.hi=true then edI (poI x.lo p) (poI x.hi p)else wI0
theorem qfw (x:Iv) (p:Int):CI (zxx x p):=by
 unfold zxx
 split
 ·exact qfx (qfq _ _) (qfq _ _)
 ·exact zgq
theorem x33 (x:Iv) (hx:RI x) (p:Int):Fn 44 G0 [.agg (ivC x),.int .i64 p] (.agg (ivC (zxx x p))) G0:=by
 have h84:=x84 x hx p
 have h25:=i25
 rw[e25]at h25
 have hR:zxx x p=if ftB x p=true∧mdB x.lo=true∧mdB x.hi=true then edI (poI x.lo p) (poI x.hi p)else wI0:=rfl
 generalize zxx x p=R at*
 by_cases hf:ftB x p=true
 rotate_left
 ·rw[if_neg fun c=>hf c.1]at hR
  subst hR
  rw[show ftB x p=false by simpa using hf]at h84
  clear hf hx
  refine fnT hT6 hmx Tryz.func44 rfl rfl (ex:= []) ?_;conv=>whnf
  refine gZn h84 ?_;conv=>whnf
  refine gZn h25 ?_;conv=>whnf
  exact⟨lr rfl,leG⟩
 rw[hf]at h84
 have hf':=hf
 unfold ftB at hf'
 rw[Bool.and_eq_true]at hf'
 have k:=(qc hx).1 hf'.1
 have hp8:8≤p∧p≤512:=by have:=hf'.2;unfold pcB at this;simpa using this
 have m1:=x85 k.lo
 have m2:=x85 k.hi
 by_cases h1:mdB x.lo=true
 rotate_left
 ·rw[if_neg fun c=>h1 c.2.1]at hR
  subst hR
  rw[show mdB x.lo=false by simpa using h1]at m1
  clear hf hf' k hx m2 h1
  refine fnT hT6 hmx Tryz.func44 rfl rfl (ex:= []) ?_;conv=>whnf
  refine gZn h84 ?_;conv=>whnf
  refine gZc m1 ?_;conv=>whnf
  refine gZn h25 ?_;conv=>whnf
  exact⟨lr rfl,leG⟩
 rw[h1]at m1
 by_cases h2:mdB x.hi=true
 rotate_left
 ·rw[if_neg fun c=>h2 c.2.2]at hR
  subst hR
  rw[show mdB x.hi=false by simpa using h2]at m2
  clear hf hf' k hx h1 h2
  refine fnT hT6 hmx Tryz.func44 rfl rfl (ex:= []) ?_;conv=>whnf
  refine gZn h84 ?_;conv=>whnf
  refine gZc m1 ?_;conv=>whnf
  refine gZc m2 ?_;conv=>whnf
  refine gZn h25 ?_;conv=>whnf
  exact⟨lr rfl,leG⟩
 rw[h2]at m2
 rw[if_pos ⟨hf,h1,h2⟩]at hR
 have c1:=x87 k.lo h1 p hp8
 have c2:=x87 k.hi h2 p hp8
 have c3:=x86 (poI x.lo p) (poI x.hi p)
 rw[←hR]at c3
 clear hR
 generalize poI x.lo p=A at*
 generalize poI x.hi p=B at*
 clear hf hf' k hx h1 h2
 refine fnT hT6 hmx Tryz.func44 rfl rfl (ex:= []) ?_;conv=>whnf
 refine gZn h84 ?_;conv=>whnf
 refine gZc m1 ?_;conv=>whnf
 refine gZc m2 ?_;conv=>whnf
 refine gZc c1 ?_;conv=>whnf
 refine gZc c2 ?_;conv=>whnf
 refine gZn c3 ?_;conv=>whnf
 (refine⟨by kernel_rfl,by kernel_rfl,?_⟩;(conv=>whnf))
 exact⟨lr rfl,leG⟩
end Go.Proofs.YtlocddfailmnpaaGreatDoor

namespace Go.Proofs.YtlocddfailmnpaaGreatDoor
open Go Go.Sx
set_option maxRecDepth 100000
set_option maxHeartbeats 8000000
def inB (a b:Rat) (x:Iv):Prop:=VI x∧(x.all=true∨(a≤dv x.lo∧dv x.hi≤b))
theorem zrz {a b:Rat} {x:Iv} (hx:inB a b x) {p:Int} (ha:Fp p.toNat a) (hb:Fp p.toNat b∨pw 16384≤b):inB a b (vg x p):=by
 unfold vg
 split
 ·rename_i c
  obtain⟨c1,hp⟩:=c
  have k:=(qc hx.1.ri).1 c1
  have R1:=zba k.lo (wm hp)
  have R2:=zba k.hi (wm hp)
  obtain⟨a1,a2⟩:=hx.2.resolve_left (by rw[k.all];decide)
  refine⟨zvf R1 R2 (ua (jh _ _ _ (wm hp)) (jh _ _ _ (wm hp))) k.dle,?_⟩
  cases h:(wj (qm x.lo p.toNat false) (qm x.hi p.toNat true)).all with
  |true=>exact .inl rfl
  |false=>
   right
   rw[zb9 h]
   refine⟨(R1.1.2 a ha a1).2,?_⟩
   rcases hb with hb|hb
   ·exact(R2.2.2 b hb a2).2
   ·rcases(R2.2.1 (zc4.1 h).2).2 with ⟨_,_,_,_,_,c⟩|c
    ·exact Rat.le_trans (Rat.le_of_lt c) hb
    ·have h1:=zhk c
     have h2:=zlw 16384
     exact Rat.le_trans (show dv (qm x.hi p.toNat true).1≤pw 16384 by grind) hb
 ·exact⟨.inr rfl,.inl rfl⟩
theorem zrs {a b:Rat} {x:Iv} (hx:inB a b x) (k:Int):inB (a*pw k) (b*pw k) (wk x k):=by
 unfold wk
 split
 ·rename_i c1
  have kx:=(qc hx.1.ri).1 c1
  obtain⟨a1,a2⟩:=hx.2.resolve_left (by rw[kx.all];decide)
  have hc:=ua (zbs x.lo k) (zbs x.hi k)
  cases ha:(wj (vw x.lo k) (vw x.hi k)).all with
  |true=>exact⟨zw2 hc (fun c=>by rw[ha]at c;cases c),.inl ha⟩
  |false=>
   have e:=zb9 ha
   obtain⟨o1,o2⟩:=zc4.1 ha
   have e1:dv (wj (vw x.lo k) (vw x.hi k)).lo =dv x.lo*pw k:=by rw[e];exact zes o1
   have e2:dv (wj (vw x.lo k) (vw x.hi k)).hi =dv x.hi*pw k:=by rw[e];exact zes o2
   refine⟨zw2 hc fun _=>by rw[e1,e2];exact wc kx.dle (zlw k),.inr ?_⟩
   rw[e1,e2]
   exact⟨wc a1 (zlw k),wc a2 (zlw k)⟩
 ·exact⟨.inr rfl,.inl rfl⟩
theorem zua {a b c d e f:Rat} {x y:Iv} (hx:inB a b x) (hy:inB c d y) {p:Int} (hp:pcB p=true) (h1:e≤a+c) (h2:b+d≤f) (he:Fp p.toNat e) (hf:Fp p.toNat f):inB e f (uz x y p):=by
 refine⟨qfc hx.1 hy.1 hp,?_⟩
 cases ha:(uz x y p).all with
 |true=>exact .inl rfl
 |false=>
  right
  by_cases hk:KI x∧KI y
  ·rw[zub hk.1 hk.2 hp]at ha⊢
   obtain⟨a1,a2⟩:=hx.2.resolve_left (by rw[hk.1.all];decide)
   obtain⟨b1,b2⟩:=hy.2.resolve_left (by rw[hk.2.all];decide)
   have R1:=zpb hk.1.lo hk.2.lo (wm hp)
   have R2:=zpb hk.1.hi hk.2.hi (wm hp)
   rw[zb9 ha]
   exact⟨(R1.1.2 e he (by grind)).2,(R2.2.2 f hf (by grind)).2⟩
  ·rw[qfb hx.1.ri hy.1.ri hk]at ha;cases ha
theorem qa9 {B c:Rat} {x y:Iv} (hx:bI B x) (hy:inB 1 c y) {p:Int} (hp:pcB p=true) (hF:inF p.toNat B):bI B (xi x y p):=by
 refine⟨zml hx.1 hy.1 hp,?_⟩
 cases ha:(xi x y p).all with
 |true=>exact .inl rfl
 |false=>
  right
  by_cases hk:KI x∧KI y
  ·obtain⟨b1,b2⟩:=hy.2.resolve_left (by rw[hk.2.all];decide)
   have b3:=Rat.le_trans b1 hk.2.dle
   have hs:0<dv y.lo∨dv y.hi<0:= .inl (by grind)
   rw[zi9 hk.1 hk.2 hs hp]at ha⊢
   obtain⟨⟨a1,a2⟩,⟨a3,a4⟩⟩:=hx.ends hk.1
   have q: ∀a n:Rat,-B≤a→a≤B→1≤n→ -B≤a/n∧a/n≤B:=fun a n c1 c2 c3=>by
    obtain⟨i1,i2⟩:=zhj c3
    have:=zd4 c1 c2 i1 i2
    rwa [Rat.mul_one,←Rat.div_def]at this
   refine zwz (zow hk.1 hk.2 hs (wm hp)) hF ?_ ha
   exact⟨q _ _ a1 a2 b1,q _ _ a1 a2 b3,q _ _ a3 a4 b1,q _ _ a3 a4 b3⟩
  ·rw[ztp hx.1.ri hy.1.ri fun c=>hk ⟨c.1,c.2.1⟩]at ha;cases ha
theorem vi {p:Int} (hp:pcB p=true):bI (pw (-1)) (xi (whI 1) (whI 3) p):=by
 have k1:=yw (n:=1) (by decide)
 have k3:=yw (n:=3) (by decide)
 have e1:dv (whI 1).lo =1:=za3 1
 have e1':dv (whI 1).hi =1:=za3 1
 have e3:dv (whI 3).lo =3:=za3 3
 have e3':dv (whI 3).hi =3:=za3 3
 have hs:0<dv (whI 3).lo ∨dv (whI 3).hi <0:= .inl (by rw[e3];decide)
 have ph:pw (-1)=1/2:=by decide+kernel
 refine⟨zml (.inl k1) (.inl k3) hp,?_⟩
 cases ha:(xi (whI 1) (whI 3) p).all with
 |true=>exact .inl rfl
 |false=>
  right
  rw[zi9 k1 k3 hs hp]at ha⊢
  refine zwz (zow k1 k3 hs (wm hp)) (pwF (by decide) (by decide)) ?_ ha
  unfold qak
  rw[e1,e1',e3,e3',ph]
  decide+kernel
def lgG (q:Iv) (p:Int):Nat→Nat→Iv→Iv→Iv×Iv
 |0,_,w,s=>(w,s)
 |f+1,n,w,s=>if smB w p=true then(w,s)else lgG q p f (n+2) (zau w q p) (uz s (xi (zau w q p) (whI n) p) p)
def loI (z:Iv) (p:Int):Iv:=wk (uz (lgG (sqI z p) p (p.toNat+2) 3 z z).2 (arI (lgG (sqI z p) p (p.toNat+2) 3 z z).1) p) 1
theorem zw1 (x:Iv) (k:Int):CI (wk x k):=by
 unfold wk
 split
 ·exact ua (zbs _ _) (zbs _ _)
 ·exact zgq
theorem qft (z:Iv) (p:Int):CI (loI z p):=zw1 _ _
theorem VI_CI {x:Iv} (h:VI x):CI x:=by
 rcases h with k|rfl
 ·exact .inr ⟨k.all,k.lo,k.hi⟩
 ·exact zgq
theorem x134 (z:Iv) (hz:bI (pw (-1)) z) (p:Int) (hp:pcB p=true):Fn 142 G0 [.agg [.int .i64 p],.agg (ivC z)] (.agg (ivC (loI z p))) G0:=by
 have hp8:8≤p∧p≤512:=by unfold pcB at hp;simpa using hp
 have hR:loI z p=wk (uz (lgG (sqI z p) p (p.toNat+2) 3 z z).2 (arI (lgG (sqI z p) p (p.toNat+2) 3 z z).1) p) 1:=rfl
 generalize loI z p=R at*
 have hq:=x200 z hz.1.ri p
 have bq:=bI_sq hz (p:=p) (by rw[zfm];exact pwF (by omega) (by omega))
 rw[zfm]at bq
 generalize sqI z p=Q at*
 obtain⟨E,hE⟩: ∃E,lgG Q p (p.toNat+2) 3 z z=E:=⟨_,rfl⟩
 rw[hE]at hR
 have cz:=VI_CI hz.1
 obtain⟨⟨z1,z2,z3⟩,⟨z4,z5,z6⟩,z7⟩:=z
 obtain⟨⟨q1,q2,q3⟩,⟨q4,q5,q6⟩,q7⟩:=Q
 have hq:Fn 180 G0 [.agg [.bool z1,.sl .u32 z2,.int .i64 z3,.bool z4,.sl .u32 z5,.int .i64 z6,.bool z7],.int .i64 p] (.agg [.bool q1,.sl .u32 q2,.int .i64 q3,.bool q4,.sl .u32 q5,.int .i64 q6,.bool q7]) G0:=hq
 show Fn 142 G0 [.agg [.int .i64 p],.agg [.bool z1,.sl .u32 z2,.int .i64 z3,.bool z4,.sl .u32 z5,.int .i64 z6,.bool z7]] _ G0
 refine fnT hT6 hmx Tryz.func142 rfl rfl (ex:= []) ?_;conv=>whnf
 refine gZc hq ?_;conv=>whnf
 (refine⟨by kernel_rfl,by kernel_rfl,?_⟩;(conv=>whnf))
 refine⟨Nat×Nat×Iv×Iv,fun x=>3≤x.2.1∧(x.2.1:Int)≤p+4∧(x.2.1:Int)+2*x.1=2*p+7∧bI (pw (2-x.2.1)) x.2.2.1∧CI x.2.2.2∧lgG ⟨⟨q1,q2,q3⟩,⟨q4,q5,q6⟩,q7⟩ p x.1 x.2.1 x.2.2.1 x.2.2.2=E,fun x=> [(8,.int .i64 x.2.1)],fun x=> [(6,.cells (ivC x.2.2.1)),(7,.cells (ivC x.2.2.2))],fun x=>x.1,
  (p.toNat+2,3,⟨⟨z1,z2,z3⟩,⟨z4,z5,z6⟩,z7⟩,⟨⟨z1,z2,z3⟩,⟨z4,z5,z6⟩,z7⟩),⟨Nat.le_refl 3,by simp only;omega,by simp only;omega,hz,cz,hE⟩,?_,fun x hx=>?_⟩
 ·((conv=>whnf);refine And.intro ?_ ?_;repeat' first|refine lc ?_ ?_|exact la0|exact lr rfl|exact ln0|refine lh1 ?_ ?_|exact lh0|exact bf0|exact bd0|refine bc0 ?_|exact bm0 rfl|exact bb0 rfl|exact bg0 rfl|exact li0 rfl|refine lg0 ?_|refine lt0 ?_|fail)
 (refine⟨by kernel_rfl,?_⟩;(conv=>whnf))
 obtain⟨f,n,w,s⟩:=x
 obtain⟨hx1,hx0,hx2,hx3,hx4,hx5⟩:=hx
 simp only at hx0 hx1 hx2 hx3 hx4 hx5
 cases f with
 |zero=>omega
 |succ f=>
  simp only[lgG]at hx5
  have c5:=x202 w hx3.1.ri p (by omega)
  have hs:smB w p=false→(n:Int)≤p+2:=fun h=>by have:=qcs hx3 h;omega
  generalize smB w p=B at*
  cases B with
  |true=>
   rw[if_pos rfl]at hx5
   have c6:=x203 _ hx3.1.ri
   have c7:=zyk _ _ hx4.ri (qfz hx3.1.ri).ri p
   have c8:=i191 _ (zeh s (arI w) p).ri 1
   rw[←hx5]at hR
   simp only at hR
   rw[←hR]at c8
   clear hR hx5 hE hx3 hx4 hz bq cz hs
   generalize uz s (arI w) p=D at*
   generalize arI w=A at*
   obtain⟨⟨w1,w2,w3⟩,⟨w4,w5,w6⟩,w7⟩:=w
   obtain⟨⟨s1,s2,s3⟩,⟨s4,s5,s6⟩,s7⟩:=s
   obtain⟨⟨d1,d2,d3⟩,⟨d4,d5,d6⟩,d7⟩:=D
   obtain⟨⟨a1,a2,a3⟩,⟨a4,a5,a6⟩,a7⟩:=A
   obtain⟨⟨r1,r2,r3⟩,⟨r4,r5,r6⟩,r7⟩:=R
   have c5:Fn 182 [] [.agg [.int .i64 p],.agg [.bool w1,.sl .u32 w2,.int .i64 w3,.bool w4,.sl .u32 w5,.int .i64 w6,.bool w7]] (.bool true) []:=c5
   have c6:Fn 183 [] [.agg [.bool w1,.sl .u32 w2,.int .i64 w3,.bool w4,.sl .u32 w5,.int .i64 w6,.bool w7]] (.agg [.bool a1,.sl .u32 a2,.int .i64 a3,.bool a4,.sl .u32 a5,.int .i64 a6,.bool a7]) []:=c6
   have c7:Fn 141 G0 [.agg [.int .i64 p],.agg [.bool s1,.sl .u32 s2,.int .i64 s3,.bool s4,.sl .u32 s5,.int .i64 s6,.bool s7],.agg [.bool a1,.sl .u32 a2,.int .i64 a3,.bool a4,.sl .u32 a5,.int .i64 a6,.bool a7]] (.agg [.bool d1,.sl .u32 d2,.int .i64 d3,.bool d4,.sl .u32 d5,.int .i64 d6,.bool d7]) G0:=c7
   have c8:Fn 139 G0 [.agg [.bool d1,.sl .u32 d2,.int .i64 d3,.bool d4,.sl .u32 d5,.int .i64 d6,.bool d7],.int .i64 1] (.agg [.bool r1,.sl .u32 r2,.int .i64 r3,.bool r4,.sl .u32 r5,.int .i64 r6,.bool r7]) G0:=c8
   refine gZn c5 ?_;conv=>whnf
   refine gZn c6 ?_;conv=>whnf
   refine gZc c7 ?_;conv=>whnf
   refine gZc c8 ?_;conv=>whnf
   (refine⟨by kernel_rfl,by kernel_rfl,?_⟩;(conv=>whnf))
   exact⟨lr rfl,leG⟩
  |false=>
   rw[if_neg (by decide)]at hx5
   have hn:=hs rfl
   have b1:=zx4 hx3 bq hp (by rw[←pwA];exact pwF (by omega) (by omega))
   rw[←pwA]at b1
   have b2:=zt5 b1 (n:=n) (by omega) (by omega) hp (pwF (by omega) (by omega))
   have c1:=x135 w ⟨⟨q1,q2,q3⟩,⟨q4,q5,q6⟩,q7⟩ hx3.1.ri bq.1.ri p
   have c2:=zuv n (by omega)
   have c3:=x132 _ _ b1.1.ri (yw (n:=n) (by omega)).ri p
   have c4:=zyk s _ hx4.ri b2.1.ri p
   have S4:=zeh s (xi (zau w ⟨⟨q1,q2,q3⟩,⟨q4,q5,q6⟩,q7⟩ p) (whI n) p) p
   generalize zau w ⟨⟨q1,q2,q3⟩,⟨q4,q5,q6⟩,q7⟩ p=M at*
   generalize whI n=W at*
   generalize xi M W p=D at*
   generalize uz s D p=S at*
   have hb3:bI (pw (2-((n+2:Nat):Int))) M:=by
    have e:(2:Int)-n+(-1-1)=2-((n+2:Nat):Int):=by omega
    rwa [e]at b1
   clear b1 b2 hx3 hx4 hz hR hE cz
   obtain⟨⟨w1,w2,w3⟩,⟨w4,w5,w6⟩,w7⟩:=w
   obtain⟨⟨s1,s2,s3⟩,⟨s4,s5,s6⟩,s7⟩:=s
   obtain⟨⟨m1,m2,m3⟩,⟨m4,m5,m6⟩,m7⟩:=M
   obtain⟨⟨v1,v2,v3⟩,⟨v4,v5,v6⟩,v7⟩:=W
   obtain⟨⟨d1,d2,d3⟩,⟨d4,d5,d6⟩,d7⟩:=D
   obtain⟨⟨u1,u2,u3⟩,⟨u4,u5,u6⟩,u7⟩:=S
   have c5:Fn 182 [] [.agg [.int .i64 p],.agg [.bool w1,.sl .u32 w2,.int .i64 w3,.bool w4,.sl .u32 w5,.int .i64 w6,.bool w7]] (.bool false) []:=c5
   have c1:Fn 143 G0 [.agg [.int .i64 p],.agg [.bool w1,.sl .u32 w2,.int .i64 w3,.bool w4,.sl .u32 w5,.int .i64 w6,.bool w7],.agg [.bool q1,.sl .u32 q2,.int .i64 q3,.bool q4,.sl .u32 q5,.int .i64 q6,.bool q7]] (.agg [.bool m1,.sl .u32 m2,.int .i64 m3,.bool m4,.sl .u32 m5,.int .i64 m6,.bool m7]) G0:=c1
   have c2:Fn 134 G0 [.int .i64 n] (.agg [.bool v1,.sl .u32 v2,.int .i64 v3,.bool v4,.sl .u32 v5,.int .i64 v6,.bool v7]) G0:=c2
   have c3:Fn 140 G0 [.agg [.int .i64 p],.agg [.bool m1,.sl .u32 m2,.int .i64 m3,.bool m4,.sl .u32 m5,.int .i64 m6,.bool m7],.agg [.bool v1,.sl .u32 v2,.int .i64 v3,.bool v4,.sl .u32 v5,.int .i64 v6,.bool v7]] (.agg [.bool d1,.sl .u32 d2,.int .i64 d3,.bool d4,.sl .u32 d5,.int .i64 d6,.bool d7]) G0:=c3
   have c4:Fn 141 G0 [.agg [.int .i64 p],.agg [.bool s1,.sl .u32 s2,.int .i64 s3,.bool s4,.sl .u32 s5,.int .i64 s6,.bool s7],.agg [.bool d1,.sl .u32 d2,.int .i64 d3,.bool d4,.sl .u32 d5,.int .i64 d6,.bool d7]] (.agg [.bool u1,.sl .u32 u2,.int .i64 u3,.bool u4,.sl .u32 u5,.int .i64 u6,.bool u7]) G0:=c4
   refine gZn c5 ?_;conv=>whnf
   refine gZc c1 ?_;conv=>whnf
   refine gZc c2 ?_;conv=>whnf
   refine gZc c3 ?_;conv=>whnf
   refine gZc c4 ?_;conv=>whnf
   (refine⟨by kernel_rfl,by kernel_rfl,?_⟩;(conv=>whnf))
   refine⟨(f,n+2,⟨⟨m1,m2,m3⟩,⟨m4,m5,m6⟩,m7⟩,⟨⟨u1,u2,u3⟩,⟨u4,u5,u6⟩,u7⟩),⟨by simp only;omega,by simp only;omega,by simp only;omega,hb3,S4,hx5⟩,by show f<f+1;omega,?_⟩
   ((conv=>whnf);refine And.intro ?_ ?_;repeat' first|refine lc ?_ ?_|exact la0|exact lr rfl|exact ln0|refine lh1 ?_ ?_|exact lh0|exact bf0|exact bd0|refine bc0 ?_|exact bm0 rfl|exact bb0 rfl|exact bg0 rfl|exact li0 rfl|refine lg0 ?_|refine lt0 ?_|fail)
   exact ai0 (by rw[wI (by simp only;omega)];simp only;omega)
def l2I (p:Int):Iv:=vg (loI (xi (whI 1) (whI 3) (guP p 16)) (guP p 16)) p
theorem x136 (p:Int) (hp:8≤p∧p≤512):Fn 144 G0 [.int .i64 p] (.agg (ivC (l2I p))) G0:=by
 have hg:=qaf hp (m:=16) (by decide)
 have c0:=x128 p 16 (by omega) (by decide)
 have c1:=zuv 1 (by decide)
 have c2:=zuv 3 (by decide)
 have c3:=x132 _ _ (yw (n:=1) (by decide)).ri (yw (n:=3) (by decide)).ri (guP p 16)
 have c4:=x134 _ (vi hg) _ hg
 have c5:=qd5 _ (qft (xi (whI 1) (whI 3) (guP p 16)) (guP p 16)).ri p
 show Fn 144 G0 [.int .i64 p] (.agg (ivC (vg (loI (xi (whI 1) (whI 3) (guP p 16)) (guP p 16)) p))) G0
 generalize vg (loI (xi (whI 1) (whI 3) (guP p 16)) (guP p 16)) p=R at*
 generalize loI (xi (whI 1) (whI 3) (guP p 16)) (guP p 16)=L at*
 generalize xi (whI 1) (whI 3) (guP p 16)=D at*
 generalize guP p 16=g at*
 generalize whI 1=V at*
 generalize whI 3=W at*
 obtain⟨⟨v1,v2,v3⟩,⟨v4,v5,v6⟩,v7⟩:=V
 obtain⟨⟨w1,w2,w3⟩,⟨w4,w5,w6⟩,w7⟩:=W
 obtain⟨⟨d1,d2,d3⟩,⟨d4,d5,d6⟩,d7⟩:=D
 obtain⟨⟨l1,l2,l3⟩,⟨l4,l5,l6⟩,l7⟩:=L
 obtain⟨⟨r1,r2,r3⟩,⟨r4,r5,r6⟩,r7⟩:=R
 have c1:Fn 134 G0 [.int .i64 1] (.agg [.bool v1,.sl .u32 v2,.int .i64 v3,.bool v4,.sl .u32 v5,.int .i64 v6,.bool v7]) G0:=c1
 have c2:Fn 134 G0 [.int .i64 3] (.agg [.bool w1,.sl .u32 w2,.int .i64 w3,.bool w4,.sl .u32 w5,.int .i64 w6,.bool w7]) G0:=c2
 have c3:Fn 140 G0 [.agg [.int .i64 g],.agg [.bool v1,.sl .u32 v2,.int .i64 v3,.bool v4,.sl .u32 v5,.int .i64 v6,.bool v7],.agg [.bool w1,.sl .u32 w2,.int .i64 w3,.bool w4,.sl .u32 w5,.int .i64 w6,.bool w7]] (.agg [.bool d1,.sl .u32 d2,.int .i64 d3,.bool d4,.sl .u32 d5,.int .i64 d6,.bool d7]) G0:=c3
 have c4:Fn 142 G0 [.agg [.int .i64 g],.agg [.bool d1,.sl .u32 d2,.int .i64 d3,.bool d4,.sl .u32 d5,.int .i64 d6,.bool d7]] (.agg [.bool l1,.sl .u32 l2,.int .i64 l3,.bool l4,.sl .u32 l5,.int .i64 l6,.bool l7]) G0:=c4
 have c5:Fn 137 G0 [.agg [.bool l1,.sl .u32 l2,.int .i64 l3,.bool l4,.sl .u32 l5,.int .i64 l6,.bool l7],.int .i64 p] (.agg [.bool r1,.sl .u32 r2,.int .i64 r3,.bool r4,.sl .u32 r5,.int .i64 r6,.bool r7]) G0:=c5
 refine fnT hT6 hmx Tryz.func144 rfl rfl (ex:= []) ?_;conv=>whnf
 refine brI (fun h=>?_) (fun h=>?_)
 ·have h:=of_decide_eq_true h;omega
 conv=>whnf
 refine brI (fun h=>?_) (fun h=>?_)
 ·have h:=of_decide_eq_true h;omega
 conv=>whnf
 refine gZn c0 ?_;conv=>whnf
 refine gZc c1 ?_;conv=>whnf
 refine gZc c2 ?_;conv=>whnf
 refine gZc c3 ?_;conv=>whnf
 refine gZc c4 ?_;conv=>whnf
 refine gZc c5 ?_;conv=>whnf
 (refine⟨by kernel_rfl,by kernel_rfl,?_⟩;(conv=>whnf))
 exact⟨lr rfl,leG⟩
def lmI (d:Dy) (g:Int):Iv:=wk (vg (vl d) g) (-(zk d))
def lzI (d:Dy) (g:Int):Iv:=xi (uz (lmI d g) (whI (-1)) g) (uz (lmI d g) (whI 1) g) g
def lnI (d:Dy) (p:Int):Iv:=if qq d (ke 1)=0 then⟨d0,d0,false⟩else
 vg (uz (loI (lzI d (guP p 40)) (guP p 40)) (zau (whI (zk d)) (l2I (guP p 40)) (guP p 40)) (guP p 40)) p
theorem qfu (d:Dy) (p:Int):CI (lnI d p):=by
 unfold lnI
 split
 ·exact .inr ⟨rfl,qs,qs⟩
 ·exact ze6 p
theorem qdt {d:Dy} (hd:VD d) (hs:0<vz d) (g:Int):inB (pw (-1)) (pw 0) (lmI d g):=by
 have hn:nm d≠0:=fun c=>by unfold vz at hs;rw[if_pos c]at hs;omega
 have hneg:d.neg=false:=by
  unfold vz at hs
  rw[if_neg hn]at hs
  cases h:d.neg with
  |true=>rw[h]at hs;simp at hs
  |false=>rfl
 have ht:zk d=bl (nm d)+d.e:=by unfold zk;rw[if_neg hn]
 have hv:dv d=vN (nm d) d.e:=by unfold dv;rw[hneg];rfl
 have h1:=zcq (n:=nm d) (e:=d.e) (t:=zk d) (by omega)
 have h2:=uf (n:=nm d) (e:=d.e) (t:=zk d-1) (by omega) hn
 rw[←hv]at h1 h2
 have he:=hd.exp
 have hbl:1≤bl (nm d):=by
  have:bl (nm d)≠0:=fun c=>hn (yo.1 c)
  omega
 have hpt:inB (pw (zk d-1)) (pw (zk d)) (vl d):=⟨.inl (zwx hd),.inr ⟨h2,Rat.le_of_lt h1⟩⟩
 have hr:=zrz hpt (p:=g) (.inl (pwF (by omega) (by omega))) (by
  by_cases hbig:zk d<16384
  ·exact .inl (.inl (pwF (by omega) hbig))
  ·exact .inr (zih.2 (by omega)))
 have:=zrs hr (-(zk d))
 rw[←pwA,←pwA,show zk d-1+ -(zk d)= -1 by omega,show zk d+ -(zk d)=0 by omega]at this
 exact this
theorem qb5 (n:Int) (h: -4611686018427387904≤n∧n≤4611686018427387904):inB (n:Rat) (n:Rat) (whI n):=by
 have e:dv (whI n).lo =(n:Rat):=za3 n
 have e':dv (whI n).hi =(n:Rat):=za3 n
 exact⟨.inl (yw h),.inr (by rw[e,e'];exact⟨Rat.le_refl,Rat.le_refl⟩)⟩
theorem lz_in {d:Dy} (hd:VD d) (hs:0<vz d) {g:Int} (hg:pcB g=true):bI (pw (-1)) (uz (lmI d g) (whI (-1)) g)∧inB 1 (pw 1) (uz (lmI d g) (whI 1) g):=by
 have h:=qdt hd hs g
 have ph:pw (-1)=1/2:=by decide+kernel
 have p0:pw 0=1:=rfl
 have p1:pw 1=2:=by decide+kernel
 have F1:inF g.toNat (pw (-1)):=pwF (by decide) (by decide)
 have F0:inF g.toNat (pw 0):=pwF (by decide) (by decide)
 have F2:inF g.toNat (pw 1):=pwF (by decide) (by decide)
 have n1:((-1:Int):Rat)= -1:=rfl
 have n2:((1:Int):Rat)=1:=rfl
 have w1:=qb5 (-1) (by decide)
 have w2:=qb5 1 (by decide)
 rw[n1]at w1
 rw[n2]at w2
 exact⟨zua h w1 hg (by rw[ph];decide+kernel) (by rw[ph,p0];decide+kernel) (.inr (by rw[Rat.neg_neg];exact F1)) (.inl F1),
  zua h w2 hg (by rw[ph];decide+kernel) (by rw[p0,p1];decide+kernel) (.inl (by rw[←p0];exact F0)) (.inl F2)⟩
theorem x88 {d:Dy} (hd:VD d) (hs:0<vz d) (p:Int) (hp:8≤p∧p≤512):Fn 98 G0 [.agg (dyC d),.int .i64 p] (.agg (ivC (lnI d p))) G0:=by
 have c78:=v77 1 (by decide)
 have c55:=v81 hd (kd 1 (by decide))
 have hR:lnI d p=if qq d (ke 1)=0 then⟨d0,d0,false⟩else vg (uz (loI (lzI d (guP p 40)) (guP p 40)) (zau (whI (zk d)) (l2I (guP p 40)) (guP p 40)) (guP p 40)) p:=rfl
 generalize lnI d p=R at*
 by_cases h0:qq d (ke 1)=0
 ·rw[if_pos h0]at hR
  subst hR
  rw[h0]at c55
  generalize ke 1=o at*
  clear hd hs h0
  refine fnT hT6 hmx Tryz.func98 rfl rfl (ex:= []) ?_;conv=>whnf
  refine gZc c78 ?_;conv=>whnf
  refine gZn c55 ?_;conv=>whnf
  (refine⟨by kernel_rfl,by kernel_rfl,?_⟩;(conv=>whnf))
  exact⟨lg0 (lc (lr rfl) (lc (li0 rfl) (lc (lr rfl) (lc (lr rfl) (lc (li0 rfl) (lc (lr rfl) (lc (lr rfl) ln0))))))),leG⟩
 rw[if_neg h0]at hR
 have hn:nm d≠0:=fun c=>by unfold vz at hs;rw[if_pos c]at hs;omega
 have htb: -100000≤zk d∧zk d≤100000:=by
  have:=hd.exp
  have:=hd.bits
  unfold zk;rw[if_neg hn];omega
 have hg:=qaf hp (m:=40) (by decide)
 have hg8:8≤guP p 40∧guP p 40≤512:=by unfold pcB at hg;simpa using hg
 obtain⟨b1,b2⟩:=lz_in hd hs hg
 have b3:=qa9 b1 b2 hg (pwF (by decide) (by decide))
 have hlm:=qdt hd hs (guP p 40)
 have c0:=x128 p 40 (by omega) (by decide)
 have c1:=zm1 hd
 have c2:=qbu hd
 have c3:=qd5 (vl d) (zwx hd).ri (guP p 40)
 have c4:=i191 (vg (vl d) (guP p 40)) (ze6 _).ri (-(zk d))
 have c5:=zuv (-1) (by decide)
 have c6:=zyk (lmI d (guP p 40)) (whI (-1)) hlm.1.ri (yw (n:= -1) (by decide)).ri (guP p 40)
 have c7:=zuv 1 (by decide)
 have c8:=zyk (lmI d (guP p 40)) (whI 1) hlm.1.ri (yw (n:=1) (by decide)).ri (guP p 40)
 have c9:=x132 _ _ b1.1.ri b2.1.ri (guP p 40)
 have c10:=x134 _ b3 _ hg
 have c11:=zuv (zk d) (by omega)
 have c12:=x136 (guP p 40) hg8
 have c13:=x135 (whI (zk d)) (l2I (guP p 40)) (yw (n:=zk d) (by omega)).ri (ze6 _).ri (guP p 40)
 have c14:=zyk _ _ (qft (lzI d (guP p 40)) (guP p 40)).ri (zum (whI (zk d)) (l2I (guP p 40)) (guP p 40)).ri (guP p 40)
 have c15:=qd5 _ (zeh (loI (lzI d (guP p 40)) (guP p 40)) (zau (whI (zk d)) (l2I (guP p 40)) (guP p 40)) (guP p 40)).ri p
 rw[←hR]at c15
 have hw:IntKind.i64.wrap (0-zk d)= -(zk d):=by rw[wI (by omega)];omega
 clear hR b1 b2 b3 hlm
 unfold lzI lmI at*
 generalize uz (loI (xi (uz (wk (vg (vl d) (guP p 40)) (-(zk d))) (whI (-1)) (guP p 40)) (uz (wk (vg (vl d) (guP p 40)) (-(zk d))) (whI 1) (guP p 40)) (guP p 40)) (guP p 40)) (zau (whI (zk d)) (l2I (guP p 40)) (guP p 40)) (guP p 40)=I15 at*
 generalize loI (xi (uz (wk (vg (vl d) (guP p 40)) (-(zk d))) (whI (-1)) (guP p 40)) (uz (wk (vg (vl d) (guP p 40)) (-(zk d))) (whI 1) (guP p 40)) (guP p 40)) (guP p 40)=I14 at*
 generalize xi (uz (wk (vg (vl d) (guP p 40)) (-(zk d))) (whI (-1)) (guP p 40)) (uz (wk (vg (vl d) (guP p 40)) (-(zk d))) (whI 1) (guP p 40)) (guP p 40)=I13 at*
 generalize zau (whI (zk d)) (l2I (guP p 40)) (guP p 40)=I12 at*
 generalize uz (wk (vg (vl d) (guP p 40)) (-(zk d))) (whI (-1)) (guP p 40)=I11 at*
 generalize uz (wk (vg (vl d) (guP p 40)) (-(zk d))) (whI 1) (guP p 40)=I10 at*
 generalize wk (vg (vl d) (guP p 40)) (-(zk d))=I9 at*
 generalize vg (vl d) (guP p 40)=I8 at*
 generalize vl d=I7 at*
 generalize whI (-1)=I6 at*
 generalize whI 1=I5 at*
 generalize whI (zk d)=I4 at*
 generalize l2I (guP p 40)=I3 at*
 generalize guP p 40=g at*
 generalize zk d=t at*
 generalize ke 1=o at*
 generalize qq d o=C at*
 clear hd hs hn
 refine fnT hT6 hmx Tryz.func98 rfl rfl (ex:= []) ?_;conv=>whnf
 refine gZc c78 ?_;conv=>whnf
 refine gZn c55 ?_;conv=>whnf
 (refine⟨by kernel_rfl,by kernel_rfl,?_⟩;(conv=>whnf))
 refine brI (fun k1=>?_) (fun _=>?_)
 ·have k1:(C==0)=true:=k1
  exact absurd (by simpa using k1) h0
 conv=>whnf
 refine gZn c0 ?_;conv=>whnf
 refine gZn c1 ?_;conv=>whnf
 refine gZn c2 ?_;conv=>whnf
 refine gZc c3 ?_;conv=>whnf
 rw[hw]
 refine gZc c4 ?_;conv=>whnf
 (refine⟨by kernel_rfl,by kernel_rfl,?_⟩;(conv=>whnf))
 refine gZc c5 ?_;conv=>whnf
 refine gZc c6 ?_;conv=>whnf
 refine gZc c7 ?_;conv=>whnf
 refine gZc c8 ?_;conv=>whnf
 refine gZc c9 ?_;conv=>whnf
 (refine⟨by kernel_rfl,by kernel_rfl,?_⟩;(conv=>whnf))
 refine gZc c10 ?_;conv=>whnf
 refine gZc c11 ?_;conv=>whnf
 refine gZc c12 ?_;conv=>whnf
 refine gZc c13 ?_;conv=>whnf
 refine gZc c14 ?_;conv=>whnf
 refine gZc c15 ?_;conv=>whnf
 (refine⟨by kernel_rfl,by kernel_rfl,?_⟩;(conv=>whnf))
 exact⟨lr rfl,leG⟩
def zxt (x:Iv) (p:Int):Iv:=if ftB x p=true∧0<vz x.lo then edI (lnI x.lo p) (lnI x.hi p)else wI0
theorem qfs (x:Iv) (p:Int):CI (zxt x p):=by
 unfold zxt
 split
 ·exact qfx (qfu _ _) (qfu _ _)
 ·exact zgq
theorem x34 (x:Iv) (hx:RI x) (p:Int):Fn 45 G0 [.agg (ivC x),.int .i64 p] (.agg (ivC (zxt x p))) G0:=by
 have h84:=x84 x hx p
 have h25:=i25
 rw[e25]at h25
 have hR:zxt x p=if ftB x p=true∧0<vz x.lo then edI (lnI x.lo p) (lnI x.hi p)else wI0:=rfl
 generalize zxt x p=R at*
 by_cases hf:ftB x p=true
 rotate_left
 ·rw[if_neg fun c=>hf c.1]at hR
  subst hR
  rw[show ftB x p=false by simpa using hf]at h84
  clear hf hx
  refine fnT hT6 hmx Tryz.func45 rfl rfl (ex:= []) ?_;conv=>whnf
  refine gZn h84 ?_;conv=>whnf
  refine gZn h25 ?_;conv=>whnf
  exact⟨lr rfl,leG⟩
 rw[hf]at h84
 have hf':=hf
 unfold ftB at hf'
 rw[Bool.and_eq_true]at hf'
 have k:=(qc hx).1 hf'.1
 have hp8:8≤p∧p≤512:=by have:=hf'.2;unfold pcB at this;simpa using this
 have m1:=zqt k.lo
 by_cases h1:0<vz x.lo
 rotate_left
 ·rw[if_neg fun c=>h1 c.2]at hR
  subst hR
  generalize vz x.lo=S at*
  clear hf hf' k hx
  refine fnT hT6 hmx Tryz.func45 rfl rfl (ex:= []) ?_;conv=>whnf
  refine gZn h84 ?_;conv=>whnf
  refine gZn m1 ?_;conv=>whnf
  refine brI (fun k1=>?_) (fun k1=>?_)
  ·conv=>whnf
   refine gZn h25 ?_;conv=>whnf
   exact⟨lr rfl,leG⟩
  ·have k1: ¬S≤0:=of_decide_eq_false k1
   omega
 have h2:0<vz x.hi:=(zeq x.hi).2.1.2 (by
  have:=(zeq x.lo).2.1.1 h1
  have:=k.dle
  grind)
 rw[if_pos ⟨hf,h1⟩]at hR
 have c1:=x88 k.lo h1 p hp8
 have c2:=x88 k.hi h2 p hp8
 have c3:=x86 (lnI x.lo p) (lnI x.hi p)
 rw[←hR]at c3
 clear hR
 generalize lnI x.lo p=A at*
 generalize lnI x.hi p=B at*
 generalize vz x.lo=S at*
 clear hf hf' k hx h2
 refine fnT hT6 hmx Tryz.func45 rfl rfl (ex:= []) ?_;conv=>whnf
 refine gZn h84 ?_;conv=>whnf
 refine gZn m1 ?_;conv=>whnf
 refine brI (fun k1=>?_) (fun _=>?_)
 ·have k1:S≤0:=of_decide_eq_true k1
  omega
 conv=>whnf
 refine gZc c1 ?_;conv=>whnf
 refine gZc c2 ?_;conv=>whnf
 refine gZn c3 ?_;conv=>whnf
 (refine⟨by kernel_rfl,by kernel_rfl,?_⟩;(conv=>whnf))
 exact⟨lr rfl,leG⟩
end Go.Proofs.YtlocddfailmnpaaGreatDoor
