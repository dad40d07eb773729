/- Intervals that lie within a bound: products, quotients, squares, halves, roundings; small ones. -/
import Derived.Test.YtbolipecnhlnnaaGreatDoorVXa
import Derived.Scope
import Derived.ControlIn
set_option linter.all false
open Rat renaming le_trans->q0,mul_nonneg->q8,le_of_lt->q9,le_refl->qd,neg_neg->qn,not_le->qA,mul_one->qB,div_def->qC
open Go.IntKind renaming i64->qD
namespace Go.Proofs.YtbolipecnhlnnaaGreatDoor
open Go Go.Sx
set_option maxHeartbeats 2000000
def bI(B:Rat)(x:Iv):Prop:=VI x/\(x.all=true\/(-B<=dv x.lo/\dv x.hi<=B))
theorem bI_w(B:Rat):bI B wI0:=⟨.inr rfl,.inl rfl⟩
theorem qjq{a b:Int}(h:a<b):pw a<pw b:=qA.1 fun c=>by have:=zf1.1 c;omega
theorem pwF{p:Nat}{t:Int}(h1: -16384<=t)(h2:t<16384):inF p (pw t):=⟨1,t,(zp9 t).symm,Nat.one_le_two_pow,h1,qjq h2⟩
theorem zf0(t:Int):0<=pw t:=q9 (zd0 t)
theorem zh5(t:Int):pw t*pw (-1)=pw (t-1):=by rw[<-pwA];rfl
theorem zts{d:Dy}(h:VD d):KI (ve d):=⟨rfl,h,h,xg.2 qd⟩
theorem zga{a b B C:Rat}(h1: -B<=a)(h2:a<=B)(h3: -C<=b)(h4:b<=C): -(B*C)<=a*b/\a*b<=B*C:=by
 have m1:=q8 (show 0<=B-a by grind) (show 0<=C+b by grind);have m2:=q8 (show 0<=B+a by grind) (show 0<=C-b by grind);have m3:=q8 (show 0<=B-a by grind) (show 0<=C-b by grind);have m4:=q8 (show 0<=B+a by grind) (show 0<=C+b by grind);constructor<;>grind
theorem qbv{p:Nat}{op:Rat->Rat->Rat}{dn up:Dy->Dy->Dy×Int}{x y:Iv}(f:F4 p op dn up x y){b:Rat}(hb:inF p b)(h:qgc op x y (fun z=> -b<=z/\z<=b))(ha:(jy dn up x y).all =false):
 -b<=dv (jy dn up x y).lo /\dv (jy dn up x y).hi <=b:=by
 obtain⟨_,_,h3,h4,_,_⟩:=znx ha;obtain⟨a1,a2,a3,a4⟩:=h;have hn:Fp p (-b):=.inr (by rw[qn];exact hb);have hp:Fp p b:=.inl hb;exact⟨h3 (-b) (f.rt1.1.2 (-b) hn a1.1).2 (f.rt2.1.2 (-b) hn a2.1).2 (f.rt3.1.2 (-b) hn a3.1).2 (f.rt4.1.2 (-b) hn a4.1).2,
  h4 b (f.rt1.2.2 b hp a1.2).2 (f.rt2.2.2 b hp a2.2).2 (f.rt3.2.2 b hp a3.2).2 (f.rt4.2.2 b hp a4.2).2⟩
theorem bI.ends{B:Rat}{x:Iv}(h:bI B x)(k:KI x):(-B<=dv x.lo/\dv x.lo<=B)/\(-B<=dv x.hi/\dv x.hi<=B):=by
 rcases h.2 with c|⟨c1,c2⟩
 .rw[k.all]at c;cases c
 .have:=k.dle;exact⟨⟨c1,q0 this c2⟩,⟨q0 c1 this,c2⟩⟩
theorem qdh{B C:Rat}{x y:Iv}(hx:bI B x)(hy:bI C y){p:Int}(hp:pcB p=true)(hF:inF p.toNat (B*C)):bI (B*C) (zax x y p):=by
 refine⟨znd hx.1 hy.1 hp,?_⟩
 cases ha:(zax x y p).all with
 |true=>exact .inl rfl
 |false=>
  right;by_cases hk:KI x/\KI y
  .rw[qct hk.1 hk.2 hp]at ha⊢;obtain⟨⟨a1,a2⟩,⟨a3,a4⟩⟩:=hx.ends hk.1;obtain⟨⟨b1,b2⟩,⟨b3,b4⟩⟩:=hy.ends hk.2;exact qbv (qcu hk.1 hk.2 (qk hp)) hF ⟨zga a1 a2 b1 b2,zga a1 a2 b3 b4,zga a3 a4 b1 b2,zga a3 a4 b3 b4⟩ ha
  .rw[qj0 hx.1.ri hy.1.ri hk]at ha;cases ha
def whI(n:Int):Iv:=ve (wl n)
theorem zal{n:Int}(h: -4611686018427387904<=n/\n<=4611686018427387904):KI (whI n):=zts (jl n h)
theorem zs7{n:Int}(h:1<=n):(1:Rat)<=(n:Rat):=by
 have:=(Rat.intCast_le_intCast (a:=1) (b:=n)).2 h;simpa using this
theorem zkc{n:Rat}(h:1<=n): -1<=n⁻¹ /\n⁻¹ <=1:=by
 have h0:0<n:=by grind
 have hi:0<n⁻¹ :=Rat.inv_pos.2 h0;have hm:=Rat.mul_inv_cancel n (by grind);have:=q8 (show 0<=n-1 by grind) (q9 hi);constructor<;>grind
theorem zx5{B:Rat}{x:Iv}(hx:bI B x){n:Int}(h1:1<=n)(h2:n<=4611686018427387904){p:Int}(hp:pcB p=true)(hF:inF p.toNat B):bI B (xr x (whI n) p):=by
 have kn:=zal (n:=n) O;have hn:=zs7 h1;have e:dv (whI n).lo =(n:Rat):=kq n;have e':dv (whI n).hi =(n:Rat):=kq n;have hs:0<dv (whI n).lo \/dv (whI n).hi <0:=.inl (by rw[e];grind);refine⟨zcp hx.1 (.inl kn) hp,?_⟩
 cases ha:(xr x (whI n) p).all with
 |true=>exact .inl rfl
 |false=>
  right;by_cases hk:KI x
  .rw[zmf hk kn hs hp]at ha⊢;obtain⟨⟨a1,a2⟩,⟨a3,a4⟩⟩:=hx.ends hk;obtain⟨i1,i2⟩:=zkc hn;have q:∀a:Rat,-B<=a->a<=B-> -B<=a/(n:Rat)/\a/(n:Rat)<=B:=fun a c1 c2=>by
    have:=zga c1 c2 i1 i2
    rwa [qB,<-qC]at this
   refine qbv (zr2 hk kn hs (qk hp)) hF ?_ ha;unfold qgc;rw[e,e'];exact⟨q _ a1 a2,q _ a1 a2,q _ a3 a4,q _ a3 a4⟩
  .rw[zxn hx.1.ri kn.ri fun c=>hk c.1]at ha;cases ha
theorem qb3{x:Iv}(h:CI x)(hd:x.all=false->dv x.lo<=dv x.hi):VI x:=by
 cases ha:x.all with
 |true=>
  rcases h with rfl|⟨c,_⟩
  .exact .inr rfl
  .rw[ha]at c;cases c
 |false=>exact .inl (ztt h ha (hd ha))
theorem qbo{B:Rat}{x:Iv}(hx:bI B x){p:Int}(hF:inF p.toNat B):bI B (vi x p):=by
 unfold vi;split
 .rename_i c;obtain⟨c1,hp⟩:=c;have k:=(zp hx.1.ri).1 c1;have R1:=kd k.lo (qk hp);have R2:=kd k.hi (qk hp);obtain⟨⟨a1,a2⟩,⟨a3,a4⟩⟩:=hx.ends k;refine⟨zsz R1 R2 (uw (wd _ _ _ (qk hp)) (wd _ _ _ (qk hp))) k.dle,?_⟩
  cases ha:(vh (qt x.lo p.toNat false) (qt x.hi p.toNat true)).all with
  |true=>exact .inl rfl
  |false=>
   right;rw[xp ha];exact⟨(R1.1.2 (-B) (.inr (by rw[qn];exact hF)) a1).2,(R2.2.2 B (.inl hF) a4).2⟩
 .exact bI_w B
theorem zc0{d:Dy}{k:Int}(h:(wo d k).2=0):dv (wo d k).1=dv d*pw k:=by
 unfold wo at h⊢;split at h
 .cases h
 .rename_i c;rw[Z5 c];unfold ckN at h⊢;split at h
  .rename_i c2;rw[Z4 c2,zfp];have e:vN (nm d) (d.e+k)=vN (nm d) d.e*pw k:=by unfold vN;rw[pwA,Rat.mul_assoc]
   rw[e];unfold dv;split
   .grind
   .rfl
  .cases h
theorem zsb{B:Rat}{x:Iv}(hx:bI B x)(k:Int):bI (B*pw k) (ww x k):=by
 unfold ww;split
 .rename_i c1;have kx:=(zp hx.1.ri).1 c1;obtain⟨⟨a1,a2⟩,⟨a3,a4⟩⟩:=hx.ends kx;have hc:=uw (zdp x.lo k) (zdp x.hi k)
  cases ha:(vh (wo x.lo k) (wo x.hi k)).all with
  |true=>exact⟨qb3 hc (fun c=>by rw[ha]at c;cases c),.inl ha⟩
  |false=>
   have e:=xp ha;obtain⟨o1,o2⟩:=yw.1 ha;have e1:dv (vh (wo x.lo k) (wo x.hi k)).lo =dv x.lo*pw k:=by rw[e];exact zc0 o1
   have e2:dv (vh (wo x.lo k) (wo x.hi k)).hi =dv x.hi*pw k:=by rw[e];exact zc0 o2
   refine⟨qb3 hc fun _=>by rw[e1,e2];exact qv kx.dle (zf0 k),.inr ?_⟩;rw[e1,e2];exact⟨by rw[<-Rat.neg_mul];exact qv a1 (zf0 k),qv a4 (zf0 k)⟩
 .exact bI_w _
def sqI(x:Iv)(p:Int):Iv:=if kB x=true/\pcB p=true then vh (wz (zb1 x) (zb1 x) p.toNat false) (wz (kz x) (kz x) p.toNat true)else wI0
theorem qcv{B:Rat}{x:Iv}(hx:bI B x)(k:KI x):0<=dv (kz x)/\dv (kz x)<=B/\(kz x).neg =false:=by
 obtain⟨⟨a1,a2⟩,⟨a3,a4⟩⟩:=hx.ends k;have hm:kz x=uq (xt x.lo) (xt x.hi):=rfl;obtain⟨_,_,h3⟩:=xc (xt x.lo) (xt x.hi);rw[hm];rcases h3 with e|e<;>rw[e,zbv]
 .exact⟨wu _,by unfold vf;split<;>grind,rfl⟩
 .exact⟨wu _,by unfold vf;split<;>grind,rfl⟩
theorem qhm{x:Iv}(p:Int):CI (sqI x p):=by
 unfold sqI;split
 .rename_i h;exact uw (kj _ _ _ _ (qk h.2)) (kj _ _ _ _ (qk h.2))
 .exact zjm
theorem bI_sq{B:Rat}{x:Iv}(hx:bI B x){p:Int}(hF:inF p.toNat (B*B)):bI (B*B) (sqI x p):=by
 unfold sqI;split
 .rename_i c;obtain⟨c1,hp⟩:=c;have k:=(zp hx.1.ri).1 c1;obtain⟨g1,g2,_⟩:=qcv hx k;obtain⟨l1,l2,l3⟩:=zi7 k qd k.dle;have l4:=q0 l2 l3;have R1:=zbu (zgn k) (zgn k) (qk hp);have R2:=zbu (zbf k) (zbf k) (qk hp);have s1:dv (zb1 x)*dv (zb1 x)<=dv (kz x)*dv (kz x):=zk3 l1 l4;have s2:dv (kz x)*dv (kz x)<=B*B:=zk3 g1 g2;have s0:0<=dv (zb1 x)*dv (zb1 x):=q8 l1 l1;refine⟨zsz R1 R2 (uw (kj _ _ _ _ (qk hp)) (kj _ _ _ _ (qk hp))) s1,?_⟩
  cases ha:(vh (wz (zb1 x) (zb1 x) p.toNat false) (wz (kz x) (kz x) p.toNat true)).all with
  |true=>exact .inl rfl
  |false=>
   right;rw[xp ha];refine⟨?_,(R2.2.2 (B*B) (.inl hF) s2).2⟩;exact(R1.1.2 (-(B*B)) (.inr (by rw[qn];exact hF)) (by grind)).2
 .exact bI_w _
def smB(x:Iv)(p:Int):Bool:= !kB x||(decide (vg (kz x)=0)||decide (zn (kz x)<= -p))
theorem qi3{x:Iv}{p t:Int}(hx:bI (pw t) x)(h:smB x p=false): -p<=t:=by
 unfold smB at h;rw[Bool.or_eq_false_iff,Bool.or_eq_false_iff]at h;obtain⟨h1,h2,h3⟩:=h;have k:=(zp hx.1.ri).1 (by simpa using h1);have h2:=Z1 h2;have h3:=Z1 h3;obtain⟨g1,g2,g3⟩:=qcv hx k;have hn:nm (kz x)≠0:=fun c=>h2 (by unfold vg;rw[Z4 c])
 unfold zn at h3;rw[Z5 hn]at h3;have hv:dv (kz x)=vN (nm (kz x)) (kz x).e :=by unfold dv;rw[g3];rfl
 have ht:=yc (n:=nm (kz x)) (e:=(kz x).e) (t:=(bl (nm (kz x)):Int)+(kz x).e -1) O hn;rw[<-hv]at ht;have:=zf1.1 (q0 ht g2);omega
set_option maxRecDepth 100000
set_option maxHeartbeats 8000000
theorem zy8(n:Int)(h: -4611686018427387904<=n/\n<=4611686018427387904):Fn 152 G0 [.int .i64 n] (.agg (ivC (whI n))) G0:=by
 have h78:=v77 n h;have h77:=qh5 (jl n h);show Fn 152 G0 [.int .i64 n] (.agg (ivC (ve (wl n)))) G0;generalize wl n=d at*;obtain⟨d1,d2,d3⟩:=d;have h78:Fn 83 G0 [.int .i64 n] (.agg [.bool d1,.sl .u32 d2,.int .i64 d3]) G0:=h78;have h77:Fn 82 [] [.agg [.bool d1,.sl .u32 d2,.int .i64 d3]] (.agg [.bool d1,.sl .u32 d2,.int .i64 d3,.bool d1,.sl .u32 d2,.int .i64 d3,.bool false]) []:=h77;refine fY6 Tryz.func152 rfl ?_;refine gYc h78 ?_;refine gYn h77 ?_;exact⟨lr rfl,leG⟩
def guP(p m:Int):Int:=min (p+m) 512
theorem x128(p m:Int)(hp:0<=p/\p<=1000)(hm:0<=m/\m<=1000):Fn 153 [] [.int .i64 p,.int .i64 m] (.agg [.int .i64 (guP p m)]) []:=by
 refine fY6 Tryz.func153 rfl ?_;exact⟨lg0 (lc (ai0 (by rw[wI O];unfold guP;rw[Int.min_def];split<;>split<;>omega)) ln0),lh0⟩
theorem x132(x y:Iv)(hx:RI x)(hy:RI y)(p:Int):Fn 305 G0 [.agg [.int .i64 p],.agg (ivC x),.agg (ivC y)] (.agg (ivC (xr x y p))) G0:=by
 have h:=i85 x y hx hy p;generalize xr x y p=R at*;clear hx hy;refine fY6 Tryz.func305 rfl ?_;refine gYc h ?_;exact⟨lr rfl,leG⟩
theorem qd4(x y:Iv)(hx:RI x)(hy:RI y)(p:Int):Fn 307 G0 [.agg [.int .i64 p],.agg (ivC x),.agg (ivC y)] (.agg (ivC (yi x y p))) G0:=by
 have h:=i82 x y hx hy p;generalize yi x y p=R at*;clear hx hy;refine fY6 Tryz.func307 rfl ?_;refine gYc h ?_;exact⟨lr rfl,leG⟩
theorem x135(x y:Iv)(hx:RI x)(hy:RI y)(p:Int):Fn 306 G0 [.agg [.int .i64 p],.agg (ivC x),.agg (ivC y)] (.agg (ivC (zax x y p))) G0:=by
 have h:=i84 x y hx hy p;generalize zax x y p=R at*;clear hx hy;refine fY6 Tryz.func306 rfl ?_;refine gYc h ?_;exact⟨lr rfl,leG⟩
theorem zut(d:Dy):vg d=0\/vg d=1\/vg d= -1:=by
 unfold vg;split
 .exact .inl rfl
 .split
  .exact .inr (.inr rfl)
  .exact .inr (.inl rfl)
theorem x202(x:Iv)(hx:RI x)(p:Int)(hp:0<=p/\p<=1000):Fn 308 [] [.agg [.int .i64 p],.agg (ivC x)] (.bool (smB x p)) []:=by
 have h120:=i182 x hx;have hw:qD.wrap (0-p)= -p:=by rw[wI O];omega
 have hR:smB x p=(!kB x||(decide (vg (kz x)=0)||decide (zn (kz x)<= -p))):=rfl;generalize smB x p=R at*;by_cases hk:kB x=true
 .have k:=(zp hx).1 hk;rw[Z4 hk,hk]at h120;rw[hk,Bool.not_true,Bool.false_or]at hR;have vm:=zbf k;have h81:=zt1 vm;have h127:=zqb vm;have hs:=zut (kz x);generalize kz x=M at*;generalize vg M=S at*;generalize zn M=t at*;clear hk k hx vm;rcases hs with rfl|rfl|rfl
  .subst hR;refine fY6 Tryz.func308 rfl ?_;refine gYn h120 ?_;refine gYn h81 ?_;refine gYd ?_;exact⟨lr rfl,lh0⟩
  .refine fY6 Tryz.func308 rfl ?_;refine gYn h120 ?_;refine gYn h81 ?_;refine gYn h127 ?_;refine gYd ?_;exact⟨ab0 (by rw[hw,hR];rfl),lh0⟩
  .refine fY6 Tryz.func308 rfl ?_;refine gYn h120 ?_;refine gYn h81 ?_;refine gYn h127 ?_;refine gYd ?_;exact⟨ab0 (by rw[hw,hR];rfl),lh0⟩
 .have hk:kB x=false:=by simpa using hk
  rw[hk,Z5 OC]at h120;rw[hk]at hR;subst hR;clear hk hx;refine fY6 Tryz.func308 rfl ?_;refine gYn h120 ?_;refine gYd ?_;exact⟨lr rfl,lh0⟩
def arI(x:Iv):Iv:=if kB x=true then⟨jm (kz x),kz x,false⟩else wI0
theorem qb1{x:Iv}(hx:RI x):CI (arI x):=by
 unfold arI;split
 .rename_i h;have k:=(zp hx).1 h;exact .inr ⟨rfl,ua (zbf k),zbf k⟩
 .exact zjm
theorem x203(x:Iv)(hx:RI x):Fn 309 [] [.agg (ivC x)] (.agg (ivC (arI x))) []:=by
 have h120:=i182 x hx;have h25:=i25;rw[e25]at h25;have hR:arI x=if kB x=true then⟨jm (kz x),kz x,false⟩else wI0:=rfl
 generalize arI x=R at*;by_cases hk:kB x=true
 .have k:=(zp hx).1 hk;rw[Z4 hk,hk]at h120;rw[Z4 hk]at hR;have vm:=zbf k;have h76:=qd8 vm;rw[show(if nm (kz x)=0 then d0 else⟨!(kz x).neg,(kz x).m,(kz x).e⟩)=jm (kz x)from rfl]at h76;generalize jm (kz x)=N at*;generalize kz x=M at*;subst hR;clear hk k hx vm;refine fY6 Tryz.func309 rfl ?_;refine gYn h120 ?_;refine gYn h76 ?_;refine gYd ?_;exact⟨lr rfl,lh0⟩
 .have hk:kB x=false:=by simpa using hk
  rw[hk,Z5 OC]at h120;rw[Z5 (by rw[hk];simp)]at hR;subst hR;clear hk hx;refine fY6 Tryz.func309 rfl ?_;refine gYn h120 ?_;refine gYn h25 ?_;exact⟨lr rfl,lh0⟩
theorem x200(x:Iv)(h:RI x)(p:Int):Fn 227 G0 [.agg (ivC x),.int .i64 p] (.agg (ivC (sqI x p))) G0:=by
 have h79:=i137 x h;have h127:=qc3 p;have h25:=i25;rw[e25]at h25;have hR:sqI x p=if kB x=true/\pcB p=true then vh (wz (zb1 x) (zb1 x) p.toNat false) (wz (kz x) (kz x) p.toNat true)else wI0:=rfl
 generalize sqI x p=R at*;have hA:zon x=if kB x=true then⟨zb1 x,kz x,false⟩else wI0:=rfl
 by_cases hk:kB x=true
 .rw[hA,Z4 hk]at h79;by_cases hp:pcB p=true
  .rw[hp]at h127;rw[Z4 ⟨hk,hp⟩]at hR;have kx:=(zp h).1 hk;obtain⟨q,rfl,hq⟩:=jx.1 hp;rw[Int.toNat_natCast]at hR;have n1:=qhs (zgn kx) (zgn kx) q hq;have n2:=qhr (zbf kx) (zbf kx) q hq;have n3:=qh6 (wz (zb1 x) (zb1 x) q false) (wz (kz x) (kz x) q true);rw[<-hR]at n3;generalize wz (zb1 x) (zb1 x) q false=a at*;generalize wz (kz x) (kz x) q true=b at*;generalize zb1 x=g at*;generalize kz x=m at*;clear kx h hk hR hA;obtain⟨⟨a1,a2,a3⟩,e⟩:=a;obtain⟨⟨b1,b2,b3⟩,f⟩:=b;refine fY6 Tryz.func227 rfl ?_;refine gYn h79 ?_;refine gYn h127 ?_;refine gYc n1 ?_;refine gYc n2 ?_;refine gYn n3 ?_;exact⟨lr rfl,leG⟩
  .rw[Z5 fun c=>hp c.2]at hR;rw[show pcB p=false by simpa using hp]at h127;subst hR;generalize zb1 x=g at*;generalize kz x=m at*;clear h hk hp hA;refine fY6 Tryz.func227 rfl ?_;refine gYn h79 ?_;refine gYn h127 ?_;refine gYn h25 ?_;exact⟨lr rfl,leG⟩
 .rw[hA,Z5 hk]at h79;rw[Z5 fun c=>hk c.1]at hR;subst hR;clear h hk hA;refine fY6 Tryz.func227 rfl ?_;refine gYn h79 ?_;refine gYn h25 ?_;exact⟨lr rfl,leG⟩
def edI(a b:Iv):Iv:=if a.all=true\/b.all=true then wI0 else⟨a.lo,b.hi,false⟩
theorem qb0{a b:Iv}(ha:CI a)(hb:CI b):CI (edI a b):=by
 unfold edI;split
 .exact zjm
 .rename_i h;rcases ha with rfl|⟨_,a1,_⟩
  .exact absurd (.inl rfl) h
  .rcases hb with rfl|⟨_,_,b1⟩
   .exact absurd (.inr rfl) h
   .exact .inr ⟨rfl,a1,b1⟩
theorem x86(a b:Iv):Fn 67 [] [.agg (ivC a),.agg (ivC b)] (.agg (ivC (edI a b))) []:=by
 have h25:=i25;rw[e25]at h25;obtain⟨⟨a1,a2,a3⟩,⟨a4,a5,a6⟩,a7⟩:=a;obtain⟨⟨b1,b2,b3⟩,⟨b4,b5,b6⟩,b7⟩:=b;show Fn 67 [] [.agg [.bool a1,.sl .u32 a2,.int .i64 a3,.bool a4,.sl .u32 a5,.int .i64 a6,.bool a7],.agg [.bool b1,.sl .u32 b2,.int .i64 b3,.bool b4,.sl .u32 b5,.int .i64 b6,.bool b7]] _ []
 cases a7 with
 |true=>
  refine fY6 Tryz.func67 rfl ?_;refine gYn h25 ?_;exact⟨lr rfl,lh0⟩
 |false=>
  cases b7 with
  |true=>
   refine fY6 Tryz.func67 rfl ?_;refine gYn h25 ?_;exact⟨lr rfl,lh0⟩
  |false=>
   refine fY6 Tryz.func67 rfl ?_;exact⟨lr rfl,lh0⟩
def ftB(x:Iv)(p:Int):Bool:=kB x&&pcB p
theorem kB_vi{x:Iv}(hx:RI x)(vx:VI x):kB x= !x.all:=by
 rcases vx with k|rfl
 .rw[(zp hx).2 k,k.all];rfl
 .rfl
theorem x84(x:Iv)(hx:RI x)(p:Int):Fn 64 [] [.agg (ivC x),.int .i64 p] (.bool (ftB x p)) []:=by
 have h17:=i51 x hx;have hR:ftB x p=(kB x&&pcB p):=rfl;have hp:pcB p=true<->8<=p/\p<=512:=by unfold pcB;simp
 generalize ftB x p=R at*;by_cases ha:x.all=true
 .have hk:kB x=false:=by
   by_cases c:kB x=true
   .have:=(zp hx).1 c;rw[this.all]at ha;cases ha
   .simpa using c
  rw[hk,Bool.false_and]at hR;subst hR;clear h17 hx hk;obtain⟨⟨x1,x2,x3⟩,⟨x4,x5,x6⟩,x7⟩:=x;obtain rfl:x7=true:=ha;show Fn 64 [] [.agg [.bool x1,.sl .u32 x2,.int .i64 x3,.bool x4,.sl .u32 x5,.int .i64 x6,.bool true],.int .i64 p] _ [];refine fY6 Tryz.func64 rfl ?_;exact⟨lr rfl,lh0⟩
 have ha:x.all=false:=by simpa using ha
 by_cases hv:viB x=true
 .have vx:=(zd6 hx).1 hv;rw[hv]at h17;rw[kB_vi hx vx,ha,Bool.not_false,Bool.true_and]at hR;clear hv vx hx;obtain⟨⟨x1,x2,x3⟩,⟨x4,x5,x6⟩,x7⟩:=x;obtain rfl:x7=false:=ha;have h17:Fn 35 [] [.agg [.bool x1,.sl .u32 x2,.int .i64 x3,.bool x4,.sl .u32 x5,.int .i64 x6,.bool false]] (.bool true) []:=h17;show Fn 64 [] [.agg [.bool x1,.sl .u32 x2,.int .i64 x3,.bool x4,.sl .u32 x5,.int .i64 x6,.bool false],.int .i64 p] _ [];refine fY6 Tryz.func64 rfl ?_;refine gYn h17 ?_;refine brI (fun k1=>?_) (fun k1=>?_)
  .have k1:8<=p:=Z0 k1;conv=>whnf
   refine⟨ab0 ?_,lh0⟩;rw[hR,Bool.eq_iff_iff,Z2,hp];exact⟨fun h=>⟨k1,h⟩,fun h=>h.2⟩
  .have k1:¬8<=p:=Z1 k1;rw[show pcB p=false by rw[<-Bool.not_eq_true,hp];omega]at hR;subst hR;conv=>whnf
   exact⟨lr rfl,lh0⟩
 .have hk:kB x=false:=by
   by_cases c:kB x=true
   .exact absurd ((zd6 hx).2 (.inl ((zp hx).1 c))) hv
   .simpa using c
  rw[hk,Bool.false_and]at hR;subst hR;rw[show viB x=false by simpa using hv]at h17;clear hv hx hk;obtain⟨⟨x1,x2,x3⟩,⟨x4,x5,x6⟩,x7⟩:=x;obtain rfl:x7=false:=ha;have h17:Fn 35 [] [.agg [.bool x1,.sl .u32 x2,.int .i64 x3,.bool x4,.sl .u32 x5,.int .i64 x6,.bool false]] (.bool false) []:=h17;show Fn 64 [] [.agg [.bool x1,.sl .u32 x2,.int .i64 x3,.bool x4,.sl .u32 x5,.int .i64 x6,.bool false],.int .i64 p] _ [];refine fY6 Tryz.func64 rfl ?_;refine gYn h17 ?_;exact⟨lr rfl,lh0⟩
def mdB(d:Dy):Bool:=decide (qo (xt d) (wl 1000)<=0)
theorem x85{d:Dy}(hd:VD d):Fn 65 G0 [.agg (dyC d)] (.bool (mdB d)) G0:=by
 have h125:=qin hd;have h78:=v77 1000 OA;have h55:=v81 (zcw hd) (jl 1000 OA);have hR:mdB d=decide (qo (xt d) (wl 1000)<=0):=rfl;generalize mdB d=R at*;generalize qo (xt d) (wl 1000)=C at*;generalize xt d=a at*;generalize wl 1000=t at*;clear hd;refine fY6 Tryz.func65 rfl ?_;refine gYn h125 ?_;refine gYc h78 ?_;refine gYn h55 ?_;exact⟨ab0 (by rw[hR]),leG⟩
theorem zuv{P:Program}{T:Tab}{res:List ResultVar}{ex:List Nat}{r:AV}{H':Hp}{c b:Code}{σ:St}(e:c=.scope b)(h:SemOK P T res ex r H' b σ):SemOK P T res ex r H' c σ:=
 ⟨fun c0 a w Q hr hq=>by
  subst e;exact wpIn_wide.2 (wp_scope_straight (wpIn_wide.1 (h.sem c0 a w (Exit.noGoto Q) hr fun x Y a w hr hf=>by
   cases x with
   |normal=>exact hq _ Y a w hr hf
   |ret=>exact hq _ Y a w hr hf
   |exit _=>exact hf.elim
   |goto _=>exact hf.elim
   |panic _=>exact hf.elim
   |outgrown=>exact hf.elim)))⟩
theorem zuw{P:Program}{T:Tab}{res:List ResultVar}{ex:List Nat}{r:AV}{H':Hp}{c b:Code}{l:Nat}{σ:St}(e:c=.seq (.label l) b)(h:SemOK P T res ex r H' b σ):SemOK P T res ex r H' c σ:=
 ⟨fun c0 a w Q hr hq=>by
  subst e;exact wpIn_seq (wpIn_label (h.sem c0 a w Q hr hq))⟩
def qd9:Code->Code
 |.scope b=>b
 | _=>.skip
def qea:Code->Code
 |.seq (.label _) b=>b
 | _=>.skip
def exG(y:Iv)(p:Int):Nat->Nat->Iv->Iv->Iv×Iv
 |0,_,t,s=>(t,s)
 |f+1,n,t,s=>if smB (xr (zax t y p) (whI n) p) p=true then(xr (zax t y p) (whI n) p,yi s (xr (zax t y p) (whI n) p) p)else exG y p f (n+1) (xr (zax t y p) (whI n) p) (yi s (xr (zax t y p) (whI n) p) p)
def zy3(y:Iv)(p:Int):Iv:=yi (exG y p (p.toNat+2) 1 (whI 1) (whI 1)).2 (arI (exG y p (p.toNat+2) 1 (whI 1) (whI 1)).1) p
theorem ql2:bI (pw 0) (whI 1):=by
 refine⟨.inl (zal OA),.inr ?_⟩;have e:dv (whI 1).lo =1:=kq 1;have e':dv (whI 1).hi =1:=kq 1;have e2:pw 0=1:=rfl;rw[e,e',e2];constructor<;>decide
noncomputable def zx4:Code:=Tryz.f226.body.getD .skip
noncomputable def qkn:Code:=qd9 (zps 1 zx4)
noncomputable def qlc:Code:=qea (zps 1 qkn)
theorem x199(y:Iv)(hy:bI (pw (-1)) y)(p:Int)(hp:pcB p=true):Fn 226 G0 [.agg [.int .i64 p],.agg (ivC y)] (.agg (ivC (zy3 y p))) G0:=by
 have hp8:8<=p/\p<=512:=by unfold pcB at hp;simpa using hp
 have hR:zy3 y p=yi (exG y p (p.toNat+2) 1 (whI 1) (whI 1)).2 (arI (exG y p (p.toNat+2) 1 (whI 1) (whI 1)).1) p:=rfl;generalize zy3 y p=R at*;obtain⟨E,hE⟩:∃E,exG y p (p.toNat+2) 1 (whI 1) (whI 1)=E:=⟨_,rfl⟩;rw[hE]at hR;have hw1:=zy8 1 OA;have cw:CI (whI 1):=.inr ⟨rfl,(zal (n:=1) OA).lo,(zal (n:=1) OA).hi⟩;have bw:=ql2;have hst:∃w:Iv,w=whI 1:=⟨_,rfl⟩;obtain⟨w,hw⟩:=hst;rw[<-hw]at hw1 cw bw hE;clear hw;obtain⟨⟨y1,y2,y3⟩,⟨y4,y5,y6⟩,y7⟩:=y;obtain⟨⟨w1,w2,w3⟩,⟨w4,w5,w6⟩,w7⟩:=w;show Fn 226 G0 [.agg [.int .i64 p],.agg [.bool y1,.sl .u32 y2,.int .i64 y3,.bool y4,.sl .u32 y5,.int .i64 y6,.bool y7]] _ G0;have hw1:Fn 152 G0 [.int .i64 1] (.agg [.bool w1,.sl .u32 w2,.int .i64 w3,.bool w4,.sl .u32 w5,.int .i64 w6,.bool w7]) G0:=hw1;refine jk (code:=zx4) hT6 hmx Tryz.func226 rfl rfl (ex:= []) ?_;conv=>whnf
 refine ym hT6 hmx 1 (fun _:Unit=>⟨[.any,.any,.ptr 2 0,.ptr 3 0,.ptr 4 0]++zhn 27,[(2,.cells [.int .i64 p]),(3,.cells [.bool y1,.sl .u32 y2,.int .i64 y3,.bool y4,.sl .u32 y5,.int .i64 y6,.bool y7]),(4,.cells [.any,.any,.any,.any,.any,.any,.any]),(5,.free),(6,.free),(vu,.gst JT)]⟩) (fun _=>Z) ?_ (fun _=>?_)
 .conv=>whnf
  refine⟨(),?_⟩;exact KZ0
 refine zuv (b:=qkn) Z ?_;refine ym hT6 hmx 1 (fun _:Unit=>⟨[.any,.any,.ptr 2 0,.ptr 3 0,.ptr 4 0,.ptr 5 0,.ptr 6 0]++zhn 25,[(2,.cells [.int .i64 p]),(3,.cells [.bool y1,.sl .u32 y2,.int .i64 y3,.bool y4,.sl .u32 y5,.int .i64 y6,.bool y7]),(4,.cells [.any,.any,.any,.any,.any,.any,.any]),(5,.cells [.bool w1,.sl .u32 w2,.int .i64 w3,.bool w4,.sl .u32 w5,.int .i64 w6,.bool w7]),(6,.cells [.bool w1,.sl .u32 w2,.int .i64 w3,.bool w4,.sl .u32 w5,.int .i64 w6,.bool w7]),(vu,.gst JT)]⟩) (fun _=>Z) ?_ (fun _=>?_)
 .conv=>whnf
  refine gYc hw1 ?_;refine gYc hw1 ?_;refine⟨(),?_⟩;exact KZ0
 refine zuw (l:=0) (b:=qlc) Z ?_;refine xn hT6 hmx ?_;conv=>whnf
 refine⟨Nat×Nat×Iv×Iv,fun x=>1<=x.2.1/\(x.2.1:Int)<=p+1/\(x.2.1:Int)+x.1=p+3/\bI (pw (1-x.2.1)) x.2.2.1/\CI x.2.2.2/\exG ⟨⟨y1,y2,y3⟩,⟨y4,y5,y6⟩,y7⟩ p x.1 x.2.1 x.2.2.1 x.2.2.2=E,fun x=> [(7,.int .i64 x.2.1)],fun x=> [(5,.cells (ivC x.2.2.1)),(6,.cells (ivC x.2.2.2))],fun x=>x.1,
  (p.toNat+2,1,⟨⟨w1,w2,w3⟩,⟨w4,w5,w6⟩,w7⟩,⟨⟨w1,w2,w3⟩,⟨w4,w5,w6⟩,w7⟩),⟨Nat.le_refl 1,OD,OD,bw,cw,hE⟩,?_,fun x hx=>?_⟩
 .exact KZ0
 refine gYe ?_;obtain⟨f,n,t,s⟩:=x;obtain⟨hx1,hx0,hx2,hx3,hx4,hx5⟩:=hx;simp only at hx0 hx1 hx2 hx3 hx4 hx5
 cases f with
 |zero=>omega
 |succ f=>
  simp only[exG]at hx5;have b1:=qdh hx3 hy hp (by rw[zh5];exact pwF O O);rw[zh5]at b1;have b2:=zx5 b1 (n:=n) O O hp (pwF O O);have c1:=x135 t ⟨⟨y1,y2,y3⟩,⟨y4,y5,y6⟩,y7⟩ hx3.1.ri hy.1.ri p;have c2:=zy8 n O;have c3:=x132 _ _ b1.1.ri (zal (n:=n) O).ri p;have c4:=qd4 s _ hx4.ri b2.1.ri p;have S4:=zgr s (xr (zax t ⟨⟨y1,y2,y3⟩,⟨y4,y5,y6⟩,y7⟩ p) (whI n) p) p;have c5:=x202 _ b2.1.ri p O;have c6:=x203 _ b2.1.ri;have c7:=qd4 _ _ S4.ri (qb1 b2.1.ri).ri p;have hs:smB (xr (zax t ⟨⟨y1,y2,y3⟩,⟨y4,y5,y6⟩,y7⟩ p) (whI n) p) p=false->(n:Int)<=p:=fun h=>by have:=qi3 b2 h;omega
  generalize zax t ⟨⟨y1,y2,y3⟩,⟨y4,y5,y6⟩,y7⟩ p=M at*;generalize whI n=W at*;generalize xr M W p=D at*;generalize yi s D p=S at*;generalize smB D p=B at*;have hb3:bI (pw (1-((n+1:Nat):Int))) D:=by
   have e:(1:Int)-n-1=1-((n+1:Nat):Int):=O
   rwa [e]at b2
  clear b1 b2 hx3 hx4 hy
  cases B with
  |true=>
   rw[Z4 rfl]at hx5;rw[<-hx5]at hR;simp only at hR;rw[<-hR]at c7;clear hR hx5 hE;generalize arI D=A at*;obtain⟨⟨t1,t2,t3⟩,⟨t4,t5,t6⟩,t7⟩:=t;obtain⟨⟨s1,s2,s3⟩,⟨s4,s5,s6⟩,s7⟩:=s;obtain⟨⟨m1,m2,m3⟩,⟨m4,m5,m6⟩,m7⟩:=M;obtain⟨⟨v1,v2,v3⟩,⟨v4,v5,v6⟩,v7⟩:=W;obtain⟨⟨d1,d2,d3⟩,⟨d4,d5,d6⟩,d7⟩:=D;obtain⟨⟨z1,z2,z3⟩,⟨z4,z5,z6⟩,z7⟩:=S;obtain⟨⟨a1,a2,a3⟩,⟨a4,a5,a6⟩,a7⟩:=A;obtain⟨⟨r1,r2,r3⟩,⟨r4,r5,r6⟩,r7⟩:=R;have c1:Fn 306 G0 [.agg [.int .i64 p],.agg [.bool t1,.sl .u32 t2,.int .i64 t3,.bool t4,.sl .u32 t5,.int .i64 t6,.bool t7],.agg [.bool y1,.sl .u32 y2,.int .i64 y3,.bool y4,.sl .u32 y5,.int .i64 y6,.bool y7]] (.agg [.bool m1,.sl .u32 m2,.int .i64 m3,.bool m4,.sl .u32 m5,.int .i64 m6,.bool m7]) G0:=c1;have c2:Fn 152 G0 [.int .i64 n] (.agg [.bool v1,.sl .u32 v2,.int .i64 v3,.bool v4,.sl .u32 v5,.int .i64 v6,.bool v7]) G0:=c2;have c3:Fn 305 G0 [.agg [.int .i64 p],.agg [.bool m1,.sl .u32 m2,.int .i64 m3,.bool m4,.sl .u32 m5,.int .i64 m6,.bool m7],.agg [.bool v1,.sl .u32 v2,.int .i64 v3,.bool v4,.sl .u32 v5,.int .i64 v6,.bool v7]] (.agg [.bool d1,.sl .u32 d2,.int .i64 d3,.bool d4,.sl .u32 d5,.int .i64 d6,.bool d7]) G0:=c3;have c4:Fn 307 G0 [.agg [.int .i64 p],.agg [.bool s1,.sl .u32 s2,.int .i64 s3,.bool s4,.sl .u32 s5,.int .i64 s6,.bool s7],.agg [.bool d1,.sl .u32 d2,.int .i64 d3,.bool d4,.sl .u32 d5,.int .i64 d6,.bool d7]] (.agg [.bool z1,.sl .u32 z2,.int .i64 z3,.bool z4,.sl .u32 z5,.int .i64 z6,.bool z7]) G0:=c4;have c5:Fn 308 [] [.agg [.int .i64 p],.agg [.bool d1,.sl .u32 d2,.int .i64 d3,.bool d4,.sl .u32 d5,.int .i64 d6,.bool d7]] (.bool true) []:=c5;have c6:Fn 309 [] [.agg [.bool d1,.sl .u32 d2,.int .i64 d3,.bool d4,.sl .u32 d5,.int .i64 d6,.bool d7]] (.agg [.bool a1,.sl .u32 a2,.int .i64 a3,.bool a4,.sl .u32 a5,.int .i64 a6,.bool a7]) []:=c6
   have c7:Fn 307 G0 [.agg [.int .i64 p],.agg [.bool z1,.sl .u32 z2,.int .i64 z3,.bool z4,.sl .u32 z5,.int .i64 z6,.bool z7],.agg [.bool a1,.sl .u32 a2,.int .i64 a3,.bool a4,.sl .u32 a5,.int .i64 a6,.bool a7]] (.agg [.bool r1,.sl .u32 r2,.int .i64 r3,.bool r4,.sl .u32 r5,.int .i64 r6,.bool r7]) G0:=c7;refine gYc c1 ?_;refine gYc c2 ?_;refine gYc c3 ?_;refine gYd ?_;refine gYc c4 ?_;refine gYn c5 ?_;refine gYn c6 ?_;refine gYc c7 ?_;refine gYd ?_;exact⟨lr rfl,leG⟩
  |false=>
   rw[Z5 OA]at hx5;have hn:=hs rfl;clear hR c6 c7 hE;obtain⟨⟨t1,t2,t3⟩,⟨t4,t5,t6⟩,t7⟩:=t;obtain⟨⟨s1,s2,s3⟩,⟨s4,s5,s6⟩,s7⟩:=s;obtain⟨⟨m1,m2,m3⟩,⟨m4,m5,m6⟩,m7⟩:=M;obtain⟨⟨v1,v2,v3⟩,⟨v4,v5,v6⟩,v7⟩:=W;obtain⟨⟨d1,d2,d3⟩,⟨d4,d5,d6⟩,d7⟩:=D;obtain⟨⟨z1,z2,z3⟩,⟨z4,z5,z6⟩,z7⟩:=S;have c1:Fn 306 G0 [.agg [.int .i64 p],.agg [.bool t1,.sl .u32 t2,.int .i64 t3,.bool t4,.sl .u32 t5,.int .i64 t6,.bool t7],.agg [.bool y1,.sl .u32 y2,.int .i64 y3,.bool y4,.sl .u32 y5,.int .i64 y6,.bool y7]] (.agg [.bool m1,.sl .u32 m2,.int .i64 m3,.bool m4,.sl .u32 m5,.int .i64 m6,.bool m7]) G0:=c1;have c2:Fn 152 G0 [.int .i64 n] (.agg [.bool v1,.sl .u32 v2,.int .i64 v3,.bool v4,.sl .u32 v5,.int .i64 v6,.bool v7]) G0:=c2;have c3:Fn 305 G0 [.agg [.int .i64 p],.agg [.bool m1,.sl .u32 m2,.int .i64 m3,.bool m4,.sl .u32 m5,.int .i64 m6,.bool m7],.agg [.bool v1,.sl .u32 v2,.int .i64 v3,.bool v4,.sl .u32 v5,.int .i64 v6,.bool v7]] (.agg [.bool d1,.sl .u32 d2,.int .i64 d3,.bool d4,.sl .u32 d5,.int .i64 d6,.bool d7]) G0:=c3;have c4:Fn 307 G0 [.agg [.int .i64 p],.agg [.bool s1,.sl .u32 s2,.int .i64 s3,.bool s4,.sl .u32 s5,.int .i64 s6,.bool s7],.agg [.bool d1,.sl .u32 d2,.int .i64 d3,.bool d4,.sl .u32 d5,.int .i64 d6,.bool d7]] (.agg [.bool z1,.sl .u32 z2,.int .i64 z3,.bool z4,.sl .u32 z5,.int .i64 z6,.bool z7]) G0:=c4;have c5:Fn 308 [] [.agg [.int .i64 p],.agg [.bool d1,.sl .u32 d2,.int .i64 d3,.bool d4,.sl .u32 d5,.int .i64 d6,.bool d7]] (.bool false) []:=c5;refine gYc c1 ?_;refine gYc c2 ?_;refine gYc c3 ?_;refine gYd ?_;refine gYc c4 ?_;refine gYn c5 ?_;refine⟨(f,n+1,⟨⟨d1,d2,d3⟩,⟨d4,d5,d6⟩,d7⟩,⟨⟨z1,z2,z3⟩,⟨z4,z5,z6⟩,z7⟩),⟨OD,OD,OD,hb3,S4,hx5⟩,by show f<f+1;omega,?_⟩;exact KZ0
theorem qe4{a b c:Rat}(h:a<=b)(g:b<c):a<c:=qA.1 fun k=>qA.2 g (q0 k h)
theorem qmk(y:Iv)(p:Int):CI (zy3 y p):=zgr _ _ _
def haI(p:Int):Nat->Iv->Iv
 |0,y=>zy3 y p
 |n+1,y=>sqI (haI p n (ww y (-1))) p
theorem qmi(p:Int):∀(n:Nat)(y:Iv),CI (haI p n y)
 |0,y=>qmk y p
 | _+1,_=>qhm p
theorem x130(p:Int)(hp:pcB p=true):∀(n:Nat)(y:Iv),n<=100->bI (pw ((n:Int)-1)) y->Fn 155 G0 [.agg [.int .i64 p],.agg (ivC y),.int .i64 (n:Int)] (.agg (ivC (haI p n y))) G0:=by
 intro n
 induction n with
 |zero=>
  intro y _ hy;have h:=x199 y hy p hp;show Fn 155 G0 [.agg [.int .i64 p],.agg (ivC y),.int .i64 0] (.agg (ivC (zy3 y p))) G0;generalize zy3 y p=R at*;clear hy;obtain⟨⟨y1,y2,y3⟩,⟨y4,y5,y6⟩,y7⟩:=y;obtain⟨⟨r1,r2,r3⟩,⟨r4,r5,r6⟩,r7⟩:=R;have h:Fn 226 G0 [.agg [.int .i64 p],.agg [.bool y1,.sl .u32 y2,.int .i64 y3,.bool y4,.sl .u32 y5,.int .i64 y6,.bool y7]] (.agg [.bool r1,.sl .u32 r2,.int .i64 r3,.bool r4,.sl .u32 r5,.int .i64 r6,.bool r7]) G0:=h;show Fn 155 G0 [.agg [.int .i64 p],.agg [.bool y1,.sl .u32 y2,.int .i64 y3,.bool y4,.sl .u32 y5,.int .i64 y6,.bool y7],.int .i64 0] _ G0;refine fY6 Tryz.func155 rfl ?_;refine gYc h ?_;exact⟨lr rfl,leG⟩
 |succ n ih0=>
  intro y hn hy;have hs:=i191 y hy.1.ri (-1);have hb:=zsb hy (-1);rw[zh5]at hb;have ih:=ih0 (ww y (-1)) O (by
   have e:(((n+1:Nat):Int)-1-1)=(n:Int)-1:=O
   rwa [e]at hb)
  have hq:=x200 _ (qmi p n (ww y (-1))).ri p;show Fn 155 G0 [.agg [.int .i64 p],.agg (ivC y),.int .i64 ((n+1:Nat):Int)] (.agg (ivC (sqI (haI p n (ww y (-1))) p))) G0;have hw:qD.wrap (((n+1:Nat):Int)-1)=n:=by rw[wI O];omega
  generalize sqI (haI p n (ww y (-1))) p=R at*;generalize haI p n (ww y (-1))=V at*;generalize ww y (-1)=Zq at*;clear hy hb ih0;generalize hN:((n+1:Nat):Int)=N at*;obtain⟨⟨y1,y2,y3⟩,⟨y4,y5,y6⟩,y7⟩:=y;obtain⟨⟨z1,z2,z3⟩,⟨z4,z5,z6⟩,z7⟩:=Zq;obtain⟨⟨v1,v2,v3⟩,⟨v4,v5,v6⟩,v7⟩:=V;obtain⟨⟨r1,r2,r3⟩,⟨r4,r5,r6⟩,r7⟩:=R;have hs:Fn 130 G0 [.agg [.bool y1,.sl .u32 y2,.int .i64 y3,.bool y4,.sl .u32 y5,.int .i64 y6,.bool y7],.int .i64 (-1)] (.agg [.bool z1,.sl .u32 z2,.int .i64 z3,.bool z4,.sl .u32 z5,.int .i64 z6,.bool z7]) G0:=hs;have ih:Fn 155 G0 [.agg [.int .i64 p],.agg [.bool z1,.sl .u32 z2,.int .i64 z3,.bool z4,.sl .u32 z5,.int .i64 z6,.bool z7],.int .i64 n] (.agg [.bool v1,.sl .u32 v2,.int .i64 v3,.bool v4,.sl .u32 v5,.int .i64 v6,.bool v7]) G0:=ih;have hq:Fn 227 G0 [.agg [.bool v1,.sl .u32 v2,.int .i64 v3,.bool v4,.sl .u32 v5,.int .i64 v6,.bool v7],.int .i64 p] (.agg [.bool r1,.sl .u32 r2,.int .i64 r3,.bool r4,.sl .u32 r5,.int .i64 r6,.bool r7]) G0:=hq;show Fn 155 G0 [.agg [.int .i64 p],.agg [.bool y1,.sl .u32 y2,.int .i64 y3,.bool y4,.sl .u32 y5,.int .i64 y6,.bool y7],.int .i64 N] _ G0;refine fY6 Tryz.func155 rfl ?_;refine brI (fun h1=>?_) (fun _=>?_)
  .have h1:(N==0)=true:=h1;have h1:N=0:=by simpa using h1
   omega
  conv=>whnf
  refine gYc hs ?_;rw[hw];refine gYc ih ?_;refine gYc hq ?_;refine gYd ?_;exact⟨lr rfl,leG⟩
def hvN(d:Dy):Nat:=(zn d+1).toNat
def poI(d:Dy)(p:Int):Iv:=if vg d=0 then whI 1 else vi (haI (guP p (hvN d+24)) (hvN d) (vi (ve d) (guP p (hvN d+24)))) p
theorem qdc{d:Dy}(h0:nm d≠0): -(pw (zn d))<=dv d/\dv d<=pw (zn d):=by
 have ht:zn d=bl (nm d)+d.e:=by unfold zn;rw[Z5 h0]
 have h1:=zb2 (n:=nm d) (e:=d.e) (t:=zn d) O;have h2:=zdq (nm d) d.e;unfold dv;split<;>constructor<;>grind
theorem qj4{d:Dy}(hm:mdB d=true)(h0:nm d≠0):zn d<=10:=by
 have hm:qo (xt d) (wl 1000)<=0:=Z0 hm;have h1:=xg.1 hm;rw[kq]at h1;have h2:dv (xt d)=vN (nm d) d.e:=rfl;rw[h2]at h1;have ht:zn d=bl (nm d)+d.e:=by unfold zn;rw[Z5 h0]
 have h3:=yc (n:=nm d) (e:=d.e) (t:=zn d-1) O h0;have h4:((1000:Int):Rat)<pw 10:=by
  rw[show pw 10=((2^10:Nat):Rat)from zca 10];decide
 have h5:=qe4 (q0 h3 h1) h4;have:¬(10:Int)<=zn d-1:=fun c=>qA.2 h5 (zf1.2 c)
 omega
theorem zth{p m:Int}(hp:8<=p/\p<=512)(hm:0<=m):pcB (guP p m)=true:=by
 unfold pcB guP;simp;omega
theorem zho{x:Iv}(p:Int):CI (vi x p):=by
 unfold vi;split
 .rename_i h;exact uw (wd _ _ _ (qk h.2)) (wd _ _ _ (qk h.2))
 .exact zjm
theorem qby(d:Dy)(p:Int):CI (poI d p):=by
 unfold poI;split
 .exact .inr ⟨rfl,jl 1 OA,jl 1 OA⟩
 .exact zho p
theorem x87{d:Dy}(hd:VD d)(hm:mdB d=true)(p:Int)(hp:8<=p/\p<=512):Fn 68 G0 [.agg (dyC d),.int .i64 p] (.agg (ivC (poI d p))) G0:=by
 have h81:=zt1 hd;have h126:=zy8 1 OA;have h127:=zqb hd;have h77:=qh5 hd;have hR:poI d p=if vg d=0 then whI 1 else vi (haI (guP p (hvN d+24)) (hvN d) (vi (ve d) (guP p (hvN d+24)))) p:=rfl
 generalize poI d p=R at*;by_cases h0:nm d=0
 .have hs:vg d=0:=by unfold vg;rw[Z4 h0]
  rw[Z4 hs]at hR;rw[hs]at h81;rw[<-hR]at h126;clear hd hm h127 h77 hR h0 hs;refine fY6 Tryz.func68 rfl ?_;refine gYn h81 ?_;refine gYc h126 ?_;exact⟨lr rfl,leG⟩
 have hs:vg d≠0:=by unfold vg;rw[Z5 h0];split<;>decide
 have htop:=qj4 hm h0;have hlow: -100000<=zn d:=by
  have:=hd.exp;unfold zn;rw[Z5 h0];omega
 rw[Z5 hs]at hR;have hn:hvN d<=11:=by unfold hvN;omega
 have hn2:zn d<=(hvN d:Int)-1:=by unfold hvN;omega
 have hg:=zth hp (m:=(hvN d:Int)+24) O;have hg8:8<=guP p ((hvN d:Int)+24)/\guP p ((hvN d:Int)+24)<=512:=by unfold pcB at hg;simpa using hg
 have hpt:bI (pw ((hvN d:Int)-1)) (ve d):=by
  have:=qdc h0;have hle:pw (zn d)<=pw ((hvN d:Int)-1):=zf1.2 hn2;refine⟨.inl (zts hd),.inr ⟨?_,q0 this.2 hle⟩⟩;have h1:=this.1;show-(pw ((hvN d:Int)-1))<=dv d;grind
 have hr1:=qbo hpt (p:=guP p ((hvN d:Int)+24)) (pwF O O);have c1:=x128 p ((hvN d:Int)+24) O O;have c2:=qkp _ hpt.1.ri (guP p ((hvN d:Int)+24));have c3:=x130 _ hg (hvN d) _ O hr1;have c4:=qkp _ (qmi (guP p ((hvN d:Int)+24)) (hvN d) (vi (ve d) (guP p ((hvN d:Int)+24)))).ri p;rw[<-hR]at c4;have hmax:(if(0:Int)>qD.wrap (zn d+1)then 0 else qD.wrap (zn d+1))=(hvN d:Int):=by
  rw[wI O];unfold hvN;split<;>omega
 have hw:qD.wrap ((hvN d:Int)+24)=(hvN d:Int)+24:=wI O;have hw2:qD.wrap (zn d+1)=zn d+1:=wI O;clear hR hr1 hpt hg hm;generalize haI (guP p ((hvN d:Int)+24)) (hvN d) (vi (ve d) (guP p ((hvN d:Int)+24)))=V at*;generalize vi (ve d) (guP p ((hvN d:Int)+24))=Zq at*;generalize ve d=P at*;generalize guP p ((hvN d:Int)+24)=g at*;generalize (hvN d:Int)=N at*;generalize zn d=t at*;generalize vg d=S at*;clear hd h0;refine fY6 Tryz.func68 rfl ?_;refine gYn h81 ?_;refine brI (fun k1=>?_) (fun _=>?_)
 .have k1:(S==0)=true:=k1;exact absurd (by simpa using k1) hs
 conv=>whnf
 refine gYn h127 ?_;rw[hmax,hw];refine gYn c1 ?_;refine gYn h77 ?_;refine gYc c2 ?_;refine gYc c3 ?_;refine gYc c4 ?_;refine gYd ?_;exact⟨lr rfl,leG⟩
def zw3(x:Iv)(p:Int):Iv:=if ftB x p=true/\mdB x.lo=true/\mdB x.hi=true then edI (poI x.lo p) (poI x.hi p)else wI0
theorem qmj(x:Iv)(p:Int):CI (zw3 x p):=by
 unfold zw3;split
 .exact qb0 (qby _ _) (qby _ _)
 .exact zjm
theorem x33(x:Iv)(hx:RI x)(p:Int):Fn 20 G0 [.agg (ivC x),.int .i64 p] (.agg (ivC (zw3 x p))) G0:=by
 have h84:=x84 x hx p;have h25:=i25;rw[e25]at h25;have hR:zw3 x p=if ftB x p=true/\mdB x.lo=true/\mdB x.hi=true then edI (poI x.lo p) (poI x.hi p)else wI0:=rfl
 generalize zw3 x p=R at*;by_cases hf:ftB x p=true
 rotate_left
 .rw[Z5 fun c=>hf c.1]at hR;subst hR;rw[show ftB x p=false by simpa using hf]at h84;clear hf hx;refine fY6 Tryz.func20 rfl ?_;refine gYn h84 ?_;refine gYn h25 ?_;exact⟨lr rfl,leG⟩
 rw[hf]at h84;have hf':=hf;unfold ftB at hf';rw[Bool.and_eq_true]at hf';have k:=(zp hx).1 hf'.1;have hp8:8<=p/\p<=512:=by have:=hf'.2;unfold pcB at this;simpa using this
 have m1:=x85 k.lo;have m2:=x85 k.hi;by_cases h1:mdB x.lo=true
 rotate_left
 .rw[Z5 fun c=>h1 c.2.1]at hR;subst hR;rw[show mdB x.lo=false by simpa using h1]at m1;clear hf hf' k hx m2 h1;refine fY6 Tryz.func20 rfl ?_;refine gYn h84 ?_;refine gYc m1 ?_;refine gYn h25 ?_;exact⟨lr rfl,leG⟩
 rw[h1]at m1;by_cases h2:mdB x.hi=true
 rotate_left
 .rw[Z5 fun c=>h2 c.2.2]at hR;subst hR;rw[show mdB x.hi=false by simpa using h2]at m2;clear hf hf' k hx h1 h2;refine fY6 Tryz.func20 rfl ?_;refine gYn h84 ?_;refine gYc m1 ?_;refine gYc m2 ?_;refine gYn h25 ?_;exact⟨lr rfl,leG⟩
 rw[h2]at m2;rw[Z4 ⟨hf,h1,h2⟩]at hR;have c1:=x87 k.lo h1 p hp8;have c2:=x87 k.hi h2 p hp8;have c3:=x86 (poI x.lo p) (poI x.hi p);rw[<-hR]at c3;clear hR;generalize poI x.lo p=A at*;generalize poI x.hi p=B at*;clear hf hf' k hx h1 h2;refine fY6 Tryz.func20 rfl ?_;refine gYn h84 ?_;refine gYc m1 ?_;refine gYc m2 ?_;refine gYc c1 ?_;refine gYc c2 ?_;refine gYn c3 ?_;refine gYd ?_;exact⟨lr rfl,leG⟩
def inB(a b:Rat)(x:Iv):Prop:=VI x/\(x.all=true\/(a<=dv x.lo/\dv x.hi<=b))
theorem zu8{a b:Rat}{x:Iv}(hx:inB a b x){p:Int}(ha:Fp p.toNat a)(hb:Fp p.toNat b\/pw 16384<=b):inB a b (vi x p):=by
 unfold vi;split
 .rename_i c;obtain⟨c1,hp⟩:=c;have k:=(zp hx.1.ri).1 c1;have R1:=kd k.lo (qk hp);have R2:=kd k.hi (qk hp);obtain⟨a1,a2⟩:=hx.2.resolve_left (by rw[k.all];decide);refine⟨zsz R1 R2 (uw (wd _ _ _ (qk hp)) (wd _ _ _ (qk hp))) k.dle,?_⟩
  cases h:(vh (qt x.lo p.toNat false) (qt x.hi p.toNat true)).all with
  |true=>exact .inl rfl
  |false=>
   right;rw[xp h];refine⟨(R1.1.2 a ha a1).2,?_⟩;rcases hb with hb|hb
   .exact(R2.2.2 b hb a2).2
   .rcases(R2.2.1 (yw.1 h).2).2 with ⟨_,_,_,_,_,c⟩|c
    .exact q0 (q9 c) hb
    .have h1:=zkd c;have h2:=zf0 16384;exact q0 (show dv (qt x.hi p.toNat true).1<=pw 16384 by grind) hb
 .exact⟨.inr rfl,.inl rfl⟩
theorem zuz{a b:Rat}{x:Iv}(hx:inB a b x)(k:Int):inB (a*pw k) (b*pw k) (ww x k):=by
 unfold ww;split
 .rename_i c1;have kx:=(zp hx.1.ri).1 c1;obtain⟨a1,a2⟩:=hx.2.resolve_left (by rw[kx.all];decide);have hc:=uw (zdp x.lo k) (zdp x.hi k)
  cases ha:(vh (wo x.lo k) (wo x.hi k)).all with
  |true=>exact⟨qb3 hc (fun c=>by rw[ha]at c;cases c),.inl ha⟩
  |false=>
   have e:=xp ha;obtain⟨o1,o2⟩:=yw.1 ha;have e1:dv (vh (wo x.lo k) (wo x.hi k)).lo =dv x.lo*pw k:=by rw[e];exact zc0 o1
   have e2:dv (vh (wo x.lo k) (wo x.hi k)).hi =dv x.hi*pw k:=by rw[e];exact zc0 o2
   refine⟨qb3 hc fun _=>by rw[e1,e2];exact qv kx.dle (zf0 k),.inr ?_⟩;rw[e1,e2];exact⟨qv a1 (zf0 k),qv a2 (zf0 k)⟩
 .exact⟨.inr rfl,.inl rfl⟩
theorem zyb{a b c d e f:Rat}{x y:Iv}(hx:inB a b x)(hy:inB c d y){p:Int}(hp:pcB p=true)(h1:e<=a+c)(h2:b+d<=f)(he:Fp p.toNat e)(hf:Fp p.toNat f):inB e f (yi x y p):=by
 refine⟨zfs hx.1 hy.1 hp,?_⟩
 cases ha:(yi x y p).all with
 |true=>exact .inl rfl
 |false=>
  right;by_cases hk:KI x/\KI y
  .rw[zsi hk.1 hk.2 hp]at ha⊢;obtain⟨a1,a2⟩:=hx.2.resolve_left (by rw[hk.1.all];decide);obtain⟨b1,b2⟩:=hy.2.resolve_left (by rw[hk.2.all];decide);have R1:=zgm hk.1.lo hk.2.lo (qk hp);have R2:=zgm hk.1.hi hk.2.hi (qk hp);rw[xp ha];exact⟨(R1.1.2 e he (by grind)).2,(R2.2.2 f hf (by grind)).2⟩
  .rw[qha hx.1.ri hy.1.ri hk]at ha;cases ha
theorem qg9{B c:Rat}{x y:Iv}(hx:bI B x)(hy:inB 1 c y){p:Int}(hp:pcB p=true)(hF:inF p.toNat B):bI B (xr x y p):=by
 refine⟨zcp hx.1 hy.1 hp,?_⟩
 cases ha:(xr x y p).all with
 |true=>exact .inl rfl
 |false=>
  right;by_cases hk:KI x/\KI y
  .obtain⟨b1,b2⟩:=hy.2.resolve_left (by rw[hk.2.all];decide);have b3:=q0 b1 hk.2.dle;have hs:0<dv y.lo\/dv y.hi<0:=.inl (by grind);rw[zmf hk.1 hk.2 hs hp]at ha⊢;obtain⟨⟨a1,a2⟩,⟨a3,a4⟩⟩:=hx.ends hk.1;have q:∀a n:Rat,-B<=a->a<=B->1<=n-> -B<=a/n/\a/n<=B:=fun a n c1 c2 c3=>by
    obtain⟨i1,i2⟩:=zkc c3;have:=zga c1 c2 i1 i2
    rwa [qB,<-qC]at this
   refine qbv (zr2 hk.1 hk.2 hs (qk hp)) hF ?_ ha;exact⟨q _ _ a1 a2 b1,q _ _ a1 a2 b3,q _ _ a3 a4 b1,q _ _ a3 a4 b3⟩
  .rw[zxn hx.1.ri hy.1.ri fun c=>hk ⟨c.1,c.2.1⟩]at ha;cases ha
theorem wq{p:Int}(hp:pcB p=true):bI (pw (-1)) (xr (whI 1) (whI 3) p):=by
 have k1:=zal (n:=1) OA;have k3:=zal (n:=3) OA;have e1:dv (whI 1).lo =1:=kq 1;have e1':dv (whI 1).hi =1:=kq 1;have e3:dv (whI 3).lo =3:=kq 3;have e3':dv (whI 3).hi =3:=kq 3;have hs:0<dv (whI 3).lo \/dv (whI 3).hi <0:=.inl (by rw[e3];decide);have ph:pw (-1)=1/2:=OB;refine⟨zcp (.inl k1) (.inl k3) hp,?_⟩
 cases ha:(xr (whI 1) (whI 3) p).all with
 |true=>exact .inl rfl
 |false=>
  right;rw[zmf k1 k3 hs hp]at ha⊢;refine qbv (zr2 k1 k3 hs (qk hp)) (pwF OA OA) ?_ ha;unfold qgc;rw[e1,e1',e3,e3',ph];decide+kernel
def lgG(q:Iv)(p:Int):Nat->Nat->Iv->Iv->Iv×Iv
 |0,_,w,s=>(w,s)
 |f+1,n,w,s=>if smB w p=true then(w,s)else lgG q p f (n+2) (zax w q p) (yi s (xr (zax w q p) (whI n) p) p)
def loI(z:Iv)(p:Int):Iv:=ww (yi (lgG (sqI z p) p (p.toNat+2) 3 z z).2 (arI (lgG (sqI z p) p (p.toNat+2) 3 z z).1) p) 1
theorem qbx(x:Iv)(k:Int):CI (ww x k):=by
 unfold ww;split
 .exact uw (zdp _ _) (zdp _ _)
 .exact zjm
theorem qmh(z:Iv)(p:Int):CI (loI z p):=qbx _ _
theorem VI_CI{x:Iv}(h:VI x):CI x:=by
 rcases h with k|rfl
 .exact .inr ⟨k.all,k.lo,k.hi⟩
 .exact zjm
theorem x134(z:Iv)(hz:bI (pw (-1)) z)(p:Int)(hp:pcB p=true):Fn 382 G0 [.agg [.int .i64 p],.agg (ivC z)] (.agg (ivC (loI z p))) G0:=by
 have hp8:8<=p/\p<=512:=by unfold pcB at hp;simpa using hp
 have hR:loI z p=ww (yi (lgG (sqI z p) p (p.toNat+2) 3 z z).2 (arI (lgG (sqI z p) p (p.toNat+2) 3 z z).1) p) 1:=rfl;generalize loI z p=R at*;have hq:=x200 z hz.1.ri p;have bq:=bI_sq hz (p:=p) (by rw[zh5];exact pwF O O);rw[zh5]at bq;generalize sqI z p=Q at*;obtain⟨E,hE⟩:∃E,lgG Q p (p.toNat+2) 3 z z=E:=⟨_,rfl⟩;rw[hE]at hR;have cz:=VI_CI hz.1;obtain⟨⟨z1,z2,z3⟩,⟨z4,z5,z6⟩,z7⟩:=z;obtain⟨⟨q1,q2,q3⟩,⟨q4,q5,q6⟩,q7⟩:=Q;have hq:Fn 227 G0 [.agg [.bool z1,.sl .u32 z2,.int .i64 z3,.bool z4,.sl .u32 z5,.int .i64 z6,.bool z7],.int .i64 p] (.agg [.bool q1,.sl .u32 q2,.int .i64 q3,.bool q4,.sl .u32 q5,.int .i64 q6,.bool q7]) G0:=hq;show Fn 382 G0 [.agg [.int .i64 p],.agg [.bool z1,.sl .u32 z2,.int .i64 z3,.bool z4,.sl .u32 z5,.int .i64 z6,.bool z7]] _ G0;refine fY6 Tryz.func382 rfl ?_;refine gYc hq ?_;refine gYd ?_;refine⟨Nat×Nat×Iv×Iv,fun x=>3<=x.2.1/\(x.2.1:Int)<=p+4/\(x.2.1:Int)+2*x.1=2*p+7/\bI (pw (2-x.2.1)) x.2.2.1/\CI x.2.2.2/\lgG ⟨⟨q1,q2,q3⟩,⟨q4,q5,q6⟩,q7⟩ p x.1 x.2.1 x.2.2.1 x.2.2.2=E,fun x=> [(8,.int .i64 x.2.1)],fun x=> [(6,.cells (ivC x.2.2.1)),(7,.cells (ivC x.2.2.2))],fun x=>x.1,
  (p.toNat+2,3,⟨⟨z1,z2,z3⟩,⟨z4,z5,z6⟩,z7⟩,⟨⟨z1,z2,z3⟩,⟨z4,z5,z6⟩,z7⟩),⟨Nat.le_refl 3,OD,OD,hz,cz,hE⟩,?_,fun x hx=>?_⟩
 .exact KZ0
 refine gYe ?_;obtain⟨f,n,w,s⟩:=x;obtain⟨hx1,hx0,hx2,hx3,hx4,hx5⟩:=hx;simp only at hx0 hx1 hx2 hx3 hx4 hx5
 cases f with
 |zero=>omega
 |succ f=>
  simp only[lgG]at hx5;have c5:=x202 w hx3.1.ri p O;have hs:smB w p=false->(n:Int)<=p+2:=fun h=>by have:=qi3 hx3 h;omega
  generalize smB w p=B at*
  cases B with
  |true=>
   rw[Z4 rfl]at hx5;have c6:=x203 _ hx3.1.ri;have c7:=qd4 _ _ hx4.ri (qb1 hx3.1.ri).ri p;have c8:=i191 _ (zgr s (arI w) p).ri 1;rw[<-hx5]at hR;simp only at hR;rw[<-hR]at c8;clear hR hx5 hE hx3 hx4 hz bq cz hs;generalize yi s (arI w) p=D at*;generalize arI w=A at*;obtain⟨⟨w1,w2,w3⟩,⟨w4,w5,w6⟩,w7⟩:=w;obtain⟨⟨s1,s2,s3⟩,⟨s4,s5,s6⟩,s7⟩:=s;obtain⟨⟨d1,d2,d3⟩,⟨d4,d5,d6⟩,d7⟩:=D;obtain⟨⟨a1,a2,a3⟩,⟨a4,a5,a6⟩,a7⟩:=A;obtain⟨⟨r1,r2,r3⟩,⟨r4,r5,r6⟩,r7⟩:=R;have c5:Fn 308 [] [.agg [.int .i64 p],.agg [.bool w1,.sl .u32 w2,.int .i64 w3,.bool w4,.sl .u32 w5,.int .i64 w6,.bool w7]] (.bool true) []:=c5;have c6:Fn 309 [] [.agg [.bool w1,.sl .u32 w2,.int .i64 w3,.bool w4,.sl .u32 w5,.int .i64 w6,.bool w7]] (.agg [.bool a1,.sl .u32 a2,.int .i64 a3,.bool a4,.sl .u32 a5,.int .i64 a6,.bool a7]) []:=c6;have c7:Fn 307 G0 [.agg [.int .i64 p],.agg [.bool s1,.sl .u32 s2,.int .i64 s3,.bool s4,.sl .u32 s5,.int .i64 s6,.bool s7],.agg [.bool a1,.sl .u32 a2,.int .i64 a3,.bool a4,.sl .u32 a5,.int .i64 a6,.bool a7]] (.agg [.bool d1,.sl .u32 d2,.int .i64 d3,.bool d4,.sl .u32 d5,.int .i64 d6,.bool d7]) G0:=c7;have c8:Fn 130 G0 [.agg [.bool d1,.sl .u32 d2,.int .i64 d3,.bool d4,.sl .u32 d5,.int .i64 d6,.bool d7],.int .i64 1] (.agg [.bool r1,.sl .u32 r2,.int .i64 r3,.bool r4,.sl .u32 r5,.int .i64 r6,.bool r7]) G0:=c8;refine gYn c5 ?_;refine gYn c6 ?_;refine gYc c7 ?_;refine gYc c8 ?_;refine gYd ?_;exact⟨lr rfl,leG⟩
  |false=>
   rw[Z5 OA]at hx5;have hn:=hs rfl;have b1:=qdh hx3 bq hp (by rw[<-pwA];exact pwF O O);rw[<-pwA]at b1;have b2:=zx5 b1 (n:=n) O O hp (pwF O O);have c1:=x135 w ⟨⟨q1,q2,q3⟩,⟨q4,q5,q6⟩,q7⟩ hx3.1.ri bq.1.ri p;have c2:=zy8 n O;have c3:=x132 _ _ b1.1.ri (zal (n:=n) O).ri p;have c4:=qd4 s _ hx4.ri b2.1.ri p;have S4:=zgr s (xr (zax w ⟨⟨q1,q2,q3⟩,⟨q4,q5,q6⟩,q7⟩ p) (whI n) p) p;generalize zax w ⟨⟨q1,q2,q3⟩,⟨q4,q5,q6⟩,q7⟩ p=M at*;generalize whI n=W at*;generalize xr M W p=D at*;generalize yi s D p=S at*;have hb3:bI (pw (2-((n+2:Nat):Int))) M:=by
    have e:(2:Int)-n+(-1-1)=2-((n+2:Nat):Int):=O
    rwa [e]at b1
   clear b1 b2 hx3 hx4 hz hR hE cz;obtain⟨⟨w1,w2,w3⟩,⟨w4,w5,w6⟩,w7⟩:=w;obtain⟨⟨s1,s2,s3⟩,⟨s4,s5,s6⟩,s7⟩:=s;obtain⟨⟨m1,m2,m3⟩,⟨m4,m5,m6⟩,m7⟩:=M;obtain⟨⟨v1,v2,v3⟩,⟨v4,v5,v6⟩,v7⟩:=W;obtain⟨⟨d1,d2,d3⟩,⟨d4,d5,d6⟩,d7⟩:=D;obtain⟨⟨u1,u2,u3⟩,⟨u4,u5,u6⟩,u7⟩:=S;have c5:Fn 308 [] [.agg [.int .i64 p],.agg [.bool w1,.sl .u32 w2,.int .i64 w3,.bool w4,.sl .u32 w5,.int .i64 w6,.bool w7]] (.bool false) []:=c5;have c1:Fn 306 G0 [.agg [.int .i64 p],.agg [.bool w1,.sl .u32 w2,.int .i64 w3,.bool w4,.sl .u32 w5,.int .i64 w6,.bool w7],.agg [.bool q1,.sl .u32 q2,.int .i64 q3,.bool q4,.sl .u32 q5,.int .i64 q6,.bool q7]] (.agg [.bool m1,.sl .u32 m2,.int .i64 m3,.bool m4,.sl .u32 m5,.int .i64 m6,.bool m7]) G0:=c1;have c2:Fn 152 G0 [.int .i64 n] (.agg [.bool v1,.sl .u32 v2,.int .i64 v3,.bool v4,.sl .u32 v5,.int .i64 v6,.bool v7]) G0:=c2;have c3:Fn 305 G0 [.agg [.int .i64 p],.agg [.bool m1,.sl .u32 m2,.int .i64 m3,.bool m4,.sl .u32 m5,.int .i64 m6,.bool m7],.agg [.bool v1,.sl .u32 v2,.int .i64 v3,.bool v4,.sl .u32 v5,.int .i64 v6,.bool v7]] (.agg [.bool d1,.sl .u32 d2,.int .i64 d3,.bool d4,.sl .u32 d5,.int .i64 d6,.bool d7]) G0:=c3;have c4:Fn 307 G0 [.agg [.int .i64 p],.agg [.bool s1,.sl .u32 s2,.int .i64 s3,.bool s4,.sl .u32 s5,.int .i64 s6,.bool s7],.agg [.bool d1,.sl .u32 d2,.int .i64 d3,.bool d4,.sl .u32 d5,.int .i64 d6,.bool d7]] (.agg [.bool u1,.sl .u32 u2,.int .i64 u3,.bool u4,.sl .u32 u5,.int .i64 u6,.bool u7]) G0:=c4;refine gYn c5 ?_;refine gYc c1 ?_;refine gYc c2 ?_;refine gYc c3 ?_;refine gYc c4 ?_;refine gYd ?_;refine⟨(f,n+2,⟨⟨m1,m2,m3⟩,⟨m4,m5,m6⟩,m7⟩,⟨⟨u1,u2,u3⟩,⟨u4,u5,u6⟩,u7⟩),⟨OD,OD,OD,hb3,S4,hx5⟩,by show f<f+1;omega,?_⟩;exact KZ0
def l2I(p:Int):Iv:=vi (loI (xr (whI 1) (whI 3) (guP p 16)) (guP p 16)) p
theorem x136(p:Int)(hp:8<=p/\p<=512):Fn 383 G0 [.int .i64 p] (.agg (ivC (l2I p))) G0:=by
 have hg:=zth hp (m:=16) OA;have c0:=x128 p 16 O OA;have c1:=zy8 1 OA;have c2:=zy8 3 OA;have c3:=x132 _ _ (zal (n:=1) OA).ri (zal (n:=3) OA).ri (guP p 16);have c4:=x134 _ (wq hg) _ hg;have c5:=qkp _ (qmh (xr (whI 1) (whI 3) (guP p 16)) (guP p 16)).ri p;show Fn 383 G0 [.int .i64 p] (.agg (ivC (vi (loI (xr (whI 1) (whI 3) (guP p 16)) (guP p 16)) p))) G0;generalize vi (loI (xr (whI 1) (whI 3) (guP p 16)) (guP p 16)) p=R at*;generalize loI (xr (whI 1) (whI 3) (guP p 16)) (guP p 16)=L at*;generalize xr (whI 1) (whI 3) (guP p 16)=D at*;generalize guP p 16=g at*;generalize whI 1=V at*;generalize whI 3=W at*;obtain⟨⟨v1,v2,v3⟩,⟨v4,v5,v6⟩,v7⟩:=V;obtain⟨⟨w1,w2,w3⟩,⟨w4,w5,w6⟩,w7⟩:=W;obtain⟨⟨d1,d2,d3⟩,⟨d4,d5,d6⟩,d7⟩:=D;obtain⟨⟨l1,l2,l3⟩,⟨l4,l5,l6⟩,l7⟩:=L;obtain⟨⟨r1,r2,r3⟩,⟨r4,r5,r6⟩,r7⟩:=R;have c1:Fn 152 G0 [.int .i64 1] (.agg [.bool v1,.sl .u32 v2,.int .i64 v3,.bool v4,.sl .u32 v5,.int .i64 v6,.bool v7]) G0:=c1;have c2:Fn 152 G0 [.int .i64 3] (.agg [.bool w1,.sl .u32 w2,.int .i64 w3,.bool w4,.sl .u32 w5,.int .i64 w6,.bool w7]) G0:=c2;have c3:Fn 305 G0 [.agg [.int .i64 g],.agg [.bool v1,.sl .u32 v2,.int .i64 v3,.bool v4,.sl .u32 v5,.int .i64 v6,.bool v7],.agg [.bool w1,.sl .u32 w2,.int .i64 w3,.bool w4,.sl .u32 w5,.int .i64 w6,.bool w7]] (.agg [.bool d1,.sl .u32 d2,.int .i64 d3,.bool d4,.sl .u32 d5,.int .i64 d6,.bool d7]) G0:=c3;have c4:Fn 382 G0 [.agg [.int .i64 g],.agg [.bool d1,.sl .u32 d2,.int .i64 d3,.bool d4,.sl .u32 d5,.int .i64 d6,.bool d7]] (.agg [.bool l1,.sl .u32 l2,.int .i64 l3,.bool l4,.sl .u32 l5,.int .i64 l6,.bool l7]) G0:=c4;have c5:Fn 154 G0 [.agg [.bool l1,.sl .u32 l2,.int .i64 l3,.bool l4,.sl .u32 l5,.int .i64 l6,.bool l7],.int .i64 p] (.agg [.bool r1,.sl .u32 r2,.int .i64 r3,.bool r4,.sl .u32 r5,.int .i64 r6,.bool r7]) G0:=c5;refine fY6 Tryz.func383 rfl ?_;refine brI (fun h=>?_) (fun h=>?_)
 .have h:=Z0 h;omega
 conv=>whnf
 refine brI (fun h=>?_) (fun h=>?_)
 .have h:=Z0 h;omega
 conv=>whnf
 refine gYn c0 ?_;refine gYc c1 ?_;refine gYc c2 ?_;refine gYc c3 ?_;refine gYc c4 ?_;refine gYc c5 ?_;refine gYd ?_;exact⟨lr rfl,leG⟩
def lmI(d:Dy)(g:Int):Iv:=ww (vi (ve d) g) (-(zn d))
def lzI(d:Dy)(g:Int):Iv:=xr (yi (lmI d g) (whI (-1)) g) (yi (lmI d g) (whI 1) g) g
def lnI(d:Dy)(p:Int):Iv:=if qo d (wl 1)=0 then⟨d0,d0,false⟩else
 vi (yi (loI (lzI d (guP p 40)) (guP p 40)) (zax (whI (zn d)) (l2I (guP p 40)) (guP p 40)) (guP p 40)) p
theorem qbz(d:Dy)(p:Int):CI (lnI d p):=by
 unfold lnI;split
 .exact .inr ⟨rfl,qg,qg⟩
 .exact zho p
theorem qkb{d:Dy}(hd:VD d)(hs:0<vg d)(g:Int):inB (pw (-1)) (pw 0) (lmI d g):=by
 have hn:nm d≠0:=fun c=>by unfold vg at hs;rw[Z4 c]at hs;omega
 have hneg:d.neg=false:=by
  unfold vg at hs;rw[Z5 hn]at hs
  cases h:d.neg with
  |true=>rw[h]at hs;simp at hs
  |false=>rfl
 have ht:zn d=bl (nm d)+d.e:=by unfold zn;rw[Z5 hn]
 have hv:dv d=vN (nm d) d.e:=by unfold dv;rw[hneg];rfl
 have h1:=zb2 (n:=nm d) (e:=d.e) (t:=zn d) O;have h2:=yc (n:=nm d) (e:=d.e) (t:=zn d-1) O hn;rw[<-hv]at h1 h2;have he:=hd.exp;have hbl:1<=bl (nm d):=by
  have:bl (nm d)≠0:=fun c=>hn (uj.1 c)
  omega
 have hpt:inB (pw (zn d-1)) (pw (zn d)) (ve d):=⟨.inl (zts hd),.inr ⟨h2,q9 h1⟩⟩;have hr:=zu8 hpt (p:=g) (.inl (pwF O O)) (by
  by_cases hbig:zn d<16384
  .exact .inl (.inl (pwF O hbig))
  .exact .inr (zf1.2 O))
 have:=zuz hr (-(zn d));rw[<-pwA,<-pwA,(O:zn d-1+ -(zn d)= -1),(O:zn d+ -(zn d)=0)]at this;exact this
theorem qig(n:Int)(h: -4611686018427387904<=n/\n<=4611686018427387904):inB (n:Rat) (n:Rat) (whI n):=by
 have e:dv (whI n).lo =(n:Rat):=kq n;have e':dv (whI n).hi =(n:Rat):=kq n;exact⟨.inl (zal h),.inr (by rw[e,e'];exact⟨qd,qd⟩)⟩
theorem lz_in{d:Dy}(hd:VD d)(hs:0<vg d){g:Int}(hg:pcB g=true):bI (pw (-1)) (yi (lmI d g) (whI (-1)) g)/\inB 1 (pw 1) (yi (lmI d g) (whI 1) g):=by
 have h:=qkb hd hs g;have ph:pw (-1)=1/2:=OB;have p0:pw 0=1:=rfl;have p1:pw 1=2:=OB;have F1:inF g.toNat (pw (-1)):=pwF OA OA;have F0:inF g.toNat (pw 0):=pwF OA OA;have F2:inF g.toNat (pw 1):=pwF OA OA;have n1:((-1:Int):Rat)= -1:=rfl;have n2:((1:Int):Rat)=1:=rfl;have w1:=qig (-1) OA;have w2:=qig 1 OA;rw[n1]at w1;rw[n2]at w2;exact⟨zyb h w1 hg (by rw[ph];decide+kernel) (by rw[ph,p0];decide+kernel) (.inr (by rw[qn];exact F1)) (.inl F1),
  zyb h w2 hg (by rw[ph];decide+kernel) (by rw[p0,p1];decide+kernel) (.inl (by rw[<-p0];exact F0)) (.inl F2)⟩
theorem x88{d:Dy}(hd:VD d)(hs:0<vg d)(p:Int)(hp:8<=p/\p<=512):Fn 345 G0 [.agg (dyC d),.int .i64 p] (.agg (ivC (lnI d p))) G0:=by
 have c78:=v77 1 OA;have c55:=v81 hd (jl 1 OA);have hR:lnI d p=if qo d (wl 1)=0 then⟨d0,d0,false⟩else vi (yi (loI (lzI d (guP p 40)) (guP p 40)) (zax (whI (zn d)) (l2I (guP p 40)) (guP p 40)) (guP p 40)) p:=rfl
 generalize lnI d p=R at*;by_cases h0:qo d (wl 1)=0
 .rw[Z4 h0]at hR;subst hR;rw[h0]at c55;generalize wl 1=o at*;clear hd hs h0;refine fY6 Tryz.func345 rfl ?_;refine gYc c78 ?_;refine gYn c55 ?_;refine gYd ?_;exact⟨lg0 (lc (lr rfl) (lc (li0 rfl) (lc (lr rfl) (lc (lr rfl) (lc (li0 rfl) (lc (lr rfl) (lc (lr rfl) ln0))))))),leG⟩
 rw[Z5 h0]at hR;have hn:nm d≠0:=fun c=>by unfold vg at hs;rw[Z4 c]at hs;omega
 have htb: -100000<=zn d/\zn d<=100000:=by
  have:=hd.exp;have:=hd.bits;unfold zn;rw[Z5 hn];omega
 have hg:=zth hp (m:=40) OA;have hg8:8<=guP p 40/\guP p 40<=512:=by unfold pcB at hg;simpa using hg
 obtain⟨b1,b2⟩:=lz_in hd hs hg;have b3:=qg9 b1 b2 hg (pwF OA OA);have hlm:=qkb hd hs (guP p 40);have c0:=x128 p 40 O OA;have c1:=zqb hd;have c2:=qh5 hd;have c3:=qkp (ve d) (zts hd).ri (guP p 40);have c4:=i191 (vi (ve d) (guP p 40)) (zho _).ri (-(zn d));have c5:=zy8 (-1) OA;have c6:=qd4 (lmI d (guP p 40)) (whI (-1)) hlm.1.ri (zal (n:= -1) OA).ri (guP p 40);have c7:=zy8 1 OA;have c8:=qd4 (lmI d (guP p 40)) (whI 1) hlm.1.ri (zal (n:=1) OA).ri (guP p 40);have c9:=x132 _ _ b1.1.ri b2.1.ri (guP p 40);have c10:=x134 _ b3 _ hg;have c11:=zy8 (zn d) O;have c12:=x136 (guP p 40) hg8;have c13:=x135 (whI (zn d)) (l2I (guP p 40)) (zal (n:=zn d) O).ri (zho _).ri (guP p 40);have c14:=qd4 _ _ (qmh (lzI d (guP p 40)) (guP p 40)).ri (zyq (whI (zn d)) (l2I (guP p 40)) (guP p 40)).ri (guP p 40);have c15:=qkp _ (zgr (loI (lzI d (guP p 40)) (guP p 40)) (zax (whI (zn d)) (l2I (guP p 40)) (guP p 40)) (guP p 40)).ri p;rw[<-hR]at c15;have hw:qD.wrap (0-zn d)= -(zn d):=by rw[wI O];omega
 clear hR b1 b2 b3 hlm;unfold lzI lmI at*;generalize yi (loI (xr (yi (ww (vi (ve d) (guP p 40)) (-(zn d))) (whI (-1)) (guP p 40)) (yi (ww (vi (ve d) (guP p 40)) (-(zn d))) (whI 1) (guP p 40)) (guP p 40)) (guP p 40)) (zax (whI (zn d)) (l2I (guP p 40)) (guP p 40)) (guP p 40)=I15 at*;generalize loI (xr (yi (ww (vi (ve d) (guP p 40)) (-(zn d))) (whI (-1)) (guP p 40)) (yi (ww (vi (ve d) (guP p 40)) (-(zn d))) (whI 1) (guP p 40)) (guP p 40)) (guP p 40)=I14 at*;generalize xr (yi (ww (vi (ve d) (guP p 40)) (-(zn d))) (whI (-1)) (guP p 40)) (yi (ww (vi (ve d) (guP p 40)) (-(zn d))) (whI 1) (guP p 40)) (guP p 40)=I13 at*;generalize zax (whI (zn d)) (l2I (guP p 40)) (guP p 40)=I12 at*;generalize yi (ww (vi (ve d) (guP p 40)) (-(zn d))) (whI (-1)) (guP p 40)=I11 at*;generalize yi (ww (vi (ve d) (guP p 40)) (-(zn d))) (whI 1) (guP p 40)=I10 at*;generalize ww (vi (ve d) (guP p 40)) (-(zn d))=I9 at*;generalize vi (ve d) (guP p 40)=I8 at*;generalize ve d=I7 at*;generalize whI (-1)=I6 at*;generalize whI 1=I5 at*;generalize whI (zn d)=I4 at*;generalize l2I (guP p 40)=I3 at*;generalize guP p 40=g at*;generalize zn d=t at*;generalize wl 1=o at*;generalize qo d o=C at*;clear hd hs hn;refine fY6 Tryz.func345 rfl ?_;refine gYc c78 ?_;refine gYn c55 ?_;refine gYd ?_;refine brI (fun k1=>?_) (fun _=>?_)
 .have k1:(C==0)=true:=k1;exact absurd (by simpa using k1) h0
 conv=>whnf
 refine gYn c0 ?_;refine gYn c1 ?_;refine gYn c2 ?_;refine gYc c3 ?_;rw[hw];refine gYc c4 ?_;refine gYd ?_;refine gYc c5 ?_;refine gYc c6 ?_;refine gYc c7 ?_;refine gYc c8 ?_;refine gYc c9 ?_;refine gYd ?_;refine gYc c10 ?_;refine gYc c11 ?_;refine gYc c12 ?_;refine gYc c13 ?_;refine gYc c14 ?_;refine gYc c15 ?_;refine gYd ?_;exact⟨lr rfl,leG⟩
def zy1(x:Iv)(p:Int):Iv:=if ftB x p=true/\0<vg x.lo then edI (lnI x.lo p) (lnI x.hi p)else wI0
theorem qmg(x:Iv)(p:Int):CI (zy1 x p):=by
 unfold zy1;split
 .exact qb0 (qbz _ _) (qbz _ _)
 .exact zjm
theorem x34(x:Iv)(hx:RI x)(p:Int):Fn 269 G0 [.agg (ivC x),.int .i64 p] (.agg (ivC (zy1 x p))) G0:=by
 have h84:=x84 x hx p;have h25:=i25;rw[e25]at h25;have hR:zy1 x p=if ftB x p=true/\0<vg x.lo then edI (lnI x.lo p) (lnI x.hi p)else wI0:=rfl
 generalize zy1 x p=R at*;by_cases hf:ftB x p=true
 rotate_left
 .rw[Z5 fun c=>hf c.1]at hR;subst hR;rw[show ftB x p=false by simpa using hf]at h84;clear hf hx;refine fY6 Tryz.func269 rfl ?_;refine gYn h84 ?_;refine gYn h25 ?_;exact⟨lr rfl,leG⟩
 rw[hf]at h84;have hf':=hf;unfold ftB at hf';rw[Bool.and_eq_true]at hf';have k:=(zp hx).1 hf'.1;have hp8:8<=p/\p<=512:=by have:=hf'.2;unfold pcB at this;simpa using this
 have m1:=zt1 k.lo;by_cases h1:0<vg x.lo
 rotate_left
 .rw[Z5 fun c=>h1 c.2]at hR;subst hR;generalize vg x.lo=S at*;clear hf hf' k hx;refine fY6 Tryz.func269 rfl ?_;refine gYn h84 ?_;refine gYn m1 ?_;refine brI (fun k1=>?_) (fun k1=>?_)
  .conv=>whnf
   refine gYn h25 ?_;exact⟨lr rfl,leG⟩
  .have k1:¬S<=0:=Z1 k1;omega
 have h2:0<vg x.hi:=(kc x.hi).2.1.2 (by
  have:=(kc x.lo).2.1.1 h1;have:=k.dle;grind)
 rw[Z4 ⟨hf,h1⟩]at hR;have c1:=x88 k.lo h1 p hp8;have c2:=x88 k.hi h2 p hp8;have c3:=x86 (lnI x.lo p) (lnI x.hi p);rw[<-hR]at c3;clear hR;generalize lnI x.lo p=A at*;generalize lnI x.hi p=B at*;generalize vg x.lo=S at*;clear hf hf' k hx h2;refine fY6 Tryz.func269 rfl ?_;refine gYn h84 ?_;refine gYn m1 ?_;refine brI (fun k1=>?_) (fun _=>?_)
 .have k1:S<=0:=Z0 k1;omega
 conv=>whnf
 refine gYc c1 ?_;refine gYc c2 ?_;refine gYn c3 ?_;refine gYd ?_;exact⟨lr rfl,leG⟩
