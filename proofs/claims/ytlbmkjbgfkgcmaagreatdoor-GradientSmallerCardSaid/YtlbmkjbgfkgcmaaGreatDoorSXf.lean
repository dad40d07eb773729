/- Intervals that lie within a bound: products, quotients, squares, halves, roundings; small ones. -/
import Derived.Test.YtlbmkjbgfkgcmaaGreatDoorSXa
import Derived.Scope
import Derived.ControlIn
set_option linter.all false
open Rat renaming le_trans->q0,mul_nonneg->q9,le_of_lt->qA,le_refl->qB,neg_neg->qC,not_le->qD,mul_one->qE,div_def->qF
open Go.IntKind renaming i64->qG
namespace Go.Proofs.YtlbmkjbgfkgcmaaGreatDoor
open Go Go.Sx
set_option maxHeartbeats 2000000
def bI(B:Rat)(x:Iv):Prop:=VI x/\(x.all=true\/(-B<=dv x.lo/\dv x.hi<=B))
theorem bI_w(B:Rat):bI B wI0:=⟨.inr rfl,.inl rfl⟩
theorem qdq{a b:Int}(h:a<b):pw a<pw b:=qD.1 fun c=>by have:=zi5.1 c;omega
theorem pwF{p:Nat}{t:Int}(h1: -16384<=t)(h2:t<16384):inF p (pw t):=⟨1,t,(znb t).symm,Nat.one_le_two_pow,h1,qdq h2⟩
theorem zmf(t:Int):0<=pw t:=qA (zck t)
theorem zf8(t:Int):pw t*pw (-1)=pw (t-1):=by rw[<-pwA];rfl
theorem zxf{d:Dy}(h:VD d):KI (qs d):=⟨rfl,h,h,ui.2 qB⟩
theorem zes{a b B C:Rat}(h1: -B<=a)(h2:a<=B)(h3: -C<=b)(h4:b<=C): -(B*C)<=a*b/\a*b<=B*C:=by
 have m1:=q9 (show 0<=B-a by grind) (show 0<=C+b by grind);have m2:=q9 (show 0<=B+a by grind) (show 0<=C-b by grind);have m3:=q9 (show 0<=B-a by grind) (show 0<=C-b by grind);have m4:=q9 (show 0<=B+a by grind) (show 0<=C+b by grind);constructor<;>grind
theorem zxh{p:Nat}{op:Rat->Rat->Rat}{dn up:Dy->Dy->Dy×Int}{x y:Iv}(f:F4 p op dn up x y){b:Rat}(hb:inF p b)(h:ztf op x y (fun z=> -b<=z/\z<=b))(ha:(jd dn up x y).all =false):
 -b<=dv (jd dn up x y).lo /\dv (jd dn up x y).hi <=b:=by
 obtain⟨_,_,h3,h4,_,_⟩:=zd0 ha;obtain⟨a1,a2,a3,a4⟩:=h;have hn:Fp p (-b):=.inr (by rw[qC];exact hb);have hp:Fp p b:=.inl hb;exact⟨h3 (-b) (f.rt1.1.2 (-b) hn a1.1).2 (f.rt2.1.2 (-b) hn a2.1).2 (f.rt3.1.2 (-b) hn a3.1).2 (f.rt4.1.2 (-b) hn a4.1).2,
  h4 b (f.rt1.2.2 b hp a1.2).2 (f.rt2.2.2 b hp a2.2).2 (f.rt3.2.2 b hp a3.2).2 (f.rt4.2.2 b hp a4.2).2⟩
theorem bI.ends{B:Rat}{x:Iv}(h:bI B x)(k:KI x):(-B<=dv x.lo/\dv x.lo<=B)/\(-B<=dv x.hi/\dv x.hi<=B):=by
 rcases h.2 with c|⟨c1,c2⟩
 .rw[k.all]at c;cases c
 .have:=k.dle;exact⟨⟨c1,q0 this c2⟩,⟨q0 c1 this,c2⟩⟩
theorem zym{B C:Rat}{x y:Iv}(hx:bI B x)(hy:bI C y){p:Int}(hp:pcB p=true)(hF:inF p.toNat (B*C)):bI (B*C) (kw x y p):=by
 refine⟨zx4 hx.1 hy.1 hp,?_⟩
 cases ha:(kw x y p).all with
 |true=>exact .inl rfl
 |false=>
  right;by_cases hk:KI x/\KI y
  .rw[zob hk.1 hk.2 hp]at ha⊢;obtain⟨⟨a1,a2⟩,⟨a3,a4⟩⟩:=hx.ends hk.1;obtain⟨⟨b1,b2⟩,⟨b3,b4⟩⟩:=hy.ends hk.2;exact zxh (zoc hk.1 hk.2 (qn hp)) hF ⟨zes a1 a2 b1 b2,zes a1 a2 b3 b4,zes a3 a4 b1 b2,zes a3 a4 b3 b4⟩ ha
  .rw[qad hx.1.ri hy.1.ri hk]at ha;cases ha
def whI(n:Int):Iv:=qs (wo n)
theorem xm{n:Int}(h: -4611686018427387904<=n/\n<=4611686018427387904):KI (whI n):=zxf (wl n h)
theorem zpt{n:Int}(h:1<=n):(1:Rat)<=(n:Rat):=by
 have:=(Rat.intCast_le_intCast (a:=1) (b:=n)).2 h;simpa using this
theorem zh0{n:Rat}(h:1<=n): -1<=n⁻¹ /\n⁻¹ <=1:=by
 have h0:0<n:=by grind
 have hi:0<n⁻¹ :=Rat.inv_pos.2 h0;have hm:=Rat.mul_inv_cancel n (by grind);have:=q9 (show 0<=n-1 by grind) (qA hi);constructor<;>grind
theorem zt6{B:Rat}{x:Iv}(hx:bI B x){n:Int}(h1:1<=n)(h2:n<=4611686018427387904){p:Int}(hp:pcB p=true)(hF:inF p.toNat B):bI B (yf x (whI n) p):=by
 have kn:=xm (n:=n) O;have hn:=zpt h1;have e:dv (whI n).lo =(n:Rat):=yn n;have e':dv (whI n).hi =(n:Rat):=yn n;have hs:0<dv (whI n).lo \/dv (whI n).hi <0:=.inl (by rw[e];grind);refine⟨zju hx.1 (.inl kn) hp,?_⟩
 cases ha:(yf x (whI n) p).all with
 |true=>exact .inl rfl
 |false=>
  right;by_cases hk:KI x
  .rw[zeo hk kn hs hp]at ha⊢;obtain⟨⟨a1,a2⟩,⟨a3,a4⟩⟩:=hx.ends hk;obtain⟨i1,i2⟩:=zh0 hn;have q:∀a:Rat,-B<=a->a<=B-> -B<=a/(n:Rat)/\a/(n:Rat)<=B:=fun a c1 c2=>by
    have:=zes c1 c2 i1 i2
    rwa [qE,<-qF]at this
   refine zxh (zie hk kn hs (qn hp)) hF ?_ ha;unfold ztf;rw[e,e'];exact⟨q _ a1 a2,q _ a1 a2,q _ a3 a4,q _ a3 a4⟩
  .rw[zo0 hx.1.ri kn.ri fun c=>hk c.1]at ha;cases ha
theorem zxl{x:Iv}(h:CI x)(hd:x.all=false->dv x.lo<=dv x.hi):VI x:=by
 cases ha:x.all with
 |true=>
  rcases h with rfl|⟨c,_⟩
  .exact .inr rfl
  .rw[ha]at c;cases c
 |false=>exact .inl (zxg h ha (hd ha))
theorem zw6{B:Rat}{x:Iv}(hx:bI B x){p:Int}(hF:inF p.toNat B):bI B (vl x p):=by
 unfold vl;split
 .rename_i c;obtain⟨c1,hp⟩:=c;have k:=(zq hx.1.ri).1 c1;have R1:=kb k.lo (qn hp);have R2:=kb k.hi (qn hp);obtain⟨⟨a1,a2⟩,⟨a3,a4⟩⟩:=hx.ends k;refine⟨zrn R1 R2 (uk (vw _ _ _ (qn hp)) (vw _ _ _ (qn hp))) k.dle,?_⟩
  cases ha:(qy (qr x.lo p.toNat false) (qr x.hi p.toNat true)).all with
  |true=>exact .inl rfl
  |false=>
   right;rw[jw ha];exact⟨(R1.1.2 (-B) (.inr (by rw[qC];exact hF)) a1).2,(R2.2.2 B (.inl hF) a4).2⟩
 .exact bI_w B
theorem zfe{d:Dy}{k:Int}(h:(qc d k).2=0):dv (qc d k).1=dv d*pw k:=by
 unfold qc at h⊢;split at h
 .cases h
 .rename_i c;rw[Z7 c];unfold ckN at h⊢;split at h
  .rename_i c2;rw[Z6 c2,zle];have e:vN (nm d) (d.e+k)=vN (nm d) d.e*pw k:=by unfold vN;rw[pwA,Rat.mul_assoc]
   rw[e];unfold dv;split
   .grind
   .rfl
  .cases h
theorem zw5{B:Rat}{x:Iv}(hx:bI B x)(k:Int):bI (B*pw k) (wc x k):=by
 unfold wc;split
 .rename_i c1;have kx:=(zq hx.1.ri).1 c1;obtain⟨⟨a1,a2⟩,⟨a3,a4⟩⟩:=hx.ends kx;have hc:=uk (uz x.lo k) (uz x.hi k)
  cases ha:(qy (qc x.lo k) (qc x.hi k)).all with
  |true=>exact⟨zxl hc (fun c=>by rw[ha]at c;cases c),.inl ha⟩
  |false=>
   have e:=jw ha;obtain⟨o1,o2⟩:=jh.1 ha;have e1:dv (qy (qc x.lo k) (qc x.hi k)).lo =dv x.lo*pw k:=by rw[e];exact zfe o1
   have e2:dv (qy (qc x.lo k) (qc x.hi k)).hi =dv x.hi*pw k:=by rw[e];exact zfe o2
   refine⟨zxl hc fun _=>by rw[e1,e2];exact vg kx.dle (zmf k),.inr ?_⟩;rw[e1,e2];exact⟨by rw[<-Rat.neg_mul];exact vg a1 (zmf k),vg a4 (zmf k)⟩
 .exact bI_w _
def sqI(x:Iv)(p:Int):Iv:=if kB x=true/\pcB p=true then qy (jt (zba x) (zba x) p.toNat false) (jt (kz x) (kz x) p.toNat true)else wI0
theorem zx6{B:Rat}{x:Iv}(hx:bI B x)(k:KI x):0<=dv (kz x)/\dv (kz x)<=B/\(kz x).neg =false:=by
 obtain⟨⟨a1,a2⟩,⟨a3,a4⟩⟩:=hx.ends k;have hm:kz x=yu (zaa x.lo) (zaa x.hi):=rfl;obtain⟨_,_,h3⟩:=zgd (zaa x.lo) (zaa x.hi);rw[hm];rcases h3 with e|e<;>rw[e,zid]
 .exact⟨zf5 _,by unfold zez;split<;>grind,rfl⟩
 .exact⟨zf5 _,by unfold zez;split<;>grind,rfl⟩
theorem CI_sq{x:Iv}(p:Int):CI (sqI x p):=by
 unfold sqI;split
 .rename_i h;exact uk (jp _ _ _ _ (qn h.2)) (jp _ _ _ _ (qn h.2))
 .exact zg7
theorem bI_sq{B:Rat}{x:Iv}(hx:bI B x){p:Int}(hF:inF p.toNat (B*B)):bI (B*B) (sqI x p):=by
 unfold sqI;split
 .rename_i c;obtain⟨c1,hp⟩:=c;have k:=(zq hx.1.ri).1 c1;obtain⟨g1,g2,_⟩:=zx6 hx k;obtain⟨l1,l2,l3⟩:=zik k qB k.dle;have l4:=q0 l2 l3;have R1:=za4 (zil k) (zil k) (qn hp);have R2:=za4 (zcn k) (zcn k) (qn hp);have s1:dv (zba x)*dv (zba x)<=dv (kz x)*dv (kz x):=ziv l1 l4;have s2:dv (kz x)*dv (kz x)<=B*B:=ziv g1 g2;have s0:0<=dv (zba x)*dv (zba x):=q9 l1 l1;refine⟨zrn R1 R2 (uk (jp _ _ _ _ (qn hp)) (jp _ _ _ _ (qn hp))) s1,?_⟩
  cases ha:(qy (jt (zba x) (zba x) p.toNat false) (jt (kz x) (kz x) p.toNat true)).all with
  |true=>exact .inl rfl
  |false=>
   right;rw[jw ha];refine⟨?_,(R2.2.2 (B*B) (.inl hF) s2).2⟩;exact(R1.1.2 (-(B*B)) (.inr (by rw[qC];exact hF)) (by grind)).2
 .exact bI_w _
def smB(x:Iv)(p:Int):Bool:= !kB x||(decide (qx (kz x)=0)||decide (zg (kz x)<= -p))
theorem qda{x:Iv}{p t:Int}(hx:bI (pw t) x)(h:smB x p=false): -p<=t:=by
 unfold smB at h;rw[Bool.or_eq_false_iff,Bool.or_eq_false_iff]at h;obtain⟨h1,h2,h3⟩:=h;have k:=(zq hx.1.ri).1 (by simpa using h1);have h2:=Z3 h2;have h3:=Z3 h3;obtain⟨g1,g2,g3⟩:=zx6 hx k;have hn:nm (kz x)≠0:=fun c=>h2 (by unfold qx;rw[Z6 c])
 unfold zg at h3;rw[Z7 hn]at h3;have hv:dv (kz x)=vN (nm (kz x)) (kz x).e :=by unfold dv;rw[g3];rfl
 have ht:=yb (n:=nm (kz x)) (e:=(kz x).e) (t:=(bl (nm (kz x)):Int)+(kz x).e -1) O hn;rw[<-hv]at ht;have:=zi5.1 (q0 ht g2);omega
set_option maxRecDepth 100000
set_option maxHeartbeats 8000000
theorem zu2(n:Int)(h: -4611686018427387904<=n/\n<=4611686018427387904):Fn 237 G0 [.int .i64 n] (.agg (ivC (whI n))) G0:=by
 have h78:=v77 n h;have h77:=zwh (wl n h);show Fn 237 G0 [.int .i64 n] (.agg (ivC (qs (wo n)))) G0;generalize wo n=d at*;obtain⟨d1,d2,d3⟩:=d;have h78:Fn 112 G0 [.int .i64 n] (.agg [.bool d1,.sl .u32 d2,.int .i64 d3]) G0:=h78;have h77:Fn 20 [] [.agg [.bool d1,.sl .u32 d2,.int .i64 d3]] (.agg [.bool d1,.sl .u32 d2,.int .i64 d3,.bool d1,.sl .u32 d2,.int .i64 d3,.bool false]) []:=h77;refine fY6 Tryz.func237 rfl ?_;refine gYc h78 ?_;refine gYn h77 ?_;exact⟨lr rfl,leG⟩
def guP(p m:Int):Int:=min (p+m) 512
theorem x128(p m:Int)(hp:0<=p/\p<=1000)(hm:0<=m/\m<=1000):Fn 238 [] [.int .i64 p,.int .i64 m] (.agg [.int .i64 (guP p m)]) []:=by
 refine fY6 Tryz.func238 rfl ?_;exact⟨lg0 (lc (ai0 (by rw[wI O];unfold guP;rw[Int.min_def];split<;>split<;>omega)) ln0),lh0⟩
theorem x132(x y:Iv)(hx:RI x)(hy:RI y)(p:Int):Fn 241 G0 [.agg [.int .i64 p],.agg (ivC x),.agg (ivC y)] (.agg (ivC (yf x y p))) G0:=by
 have h:=i85 x y hx hy p;generalize yf x y p=R at*;clear hx hy;refine fY6 Tryz.func241 rfl ?_;refine gYc h ?_;exact⟨lr rfl,leG⟩
theorem zyx(x y:Iv)(hx:RI x)(hy:RI y)(p:Int):Fn 242 G0 [.agg [.int .i64 p],.agg (ivC x),.agg (ivC y)] (.agg (ivC (um x y p))) G0:=by
 have h:=i82 x y hx hy p;generalize um x y p=R at*;clear hx hy;refine fY6 Tryz.func242 rfl ?_;refine gYc h ?_;exact⟨lr rfl,leG⟩
theorem x135(x y:Iv)(hx:RI x)(hy:RI y)(p:Int):Fn 244 G0 [.agg [.int .i64 p],.agg (ivC x),.agg (ivC y)] (.agg (ivC (kw x y p))) G0:=by
 have h:=i84 x y hx hy p;generalize kw x y p=R at*;clear hx hy;refine fY6 Tryz.func244 rfl ?_;refine gYc h ?_;exact⟨lr rfl,leG⟩
theorem zrc(d:Dy):qx d=0\/qx d=1\/qx d= -1:=by
 unfold qx;split
 .exact .inl rfl
 .split
  .exact .inr (.inr rfl)
  .exact .inr (.inl rfl)
theorem x202(x:Iv)(hx:RI x)(p:Int)(hp:0<=p/\p<=1000):Fn 278 [] [.agg [.int .i64 p],.agg (ivC x)] (.bool (smB x p)) []:=by
 have h120:=i182 x hx;have hw:qG.wrap (0-p)= -p:=by rw[wI O];omega
 have hR:smB x p=(!kB x||(decide (qx (kz x)=0)||decide (zg (kz x)<= -p))):=rfl;generalize smB x p=R at*;by_cases hk:kB x=true
 .have k:=(zq hx).1 hk;rw[Z6 hk,hk]at h120;rw[hk,Bool.not_true,Bool.false_or]at hR;have vm:=zcn k;have h81:=zqn vm;have h127:=znc vm;have hs:=zrc (kz x);generalize kz x=M at*;generalize qx M=S at*;generalize zg M=t at*;clear hk k hx vm;rcases hs with rfl|rfl|rfl
  .subst hR;refine fY6 Tryz.func278 rfl ?_;refine gYn h120 ?_;refine gYn h81 ?_;refine gYd ?_;exact⟨lr rfl,lh0⟩
  .refine fY6 Tryz.func278 rfl ?_;refine gYn h120 ?_;refine gYn h81 ?_;refine gYn h127 ?_;refine gYd ?_;exact⟨ab0 (by rw[hw,hR];rfl),lh0⟩
  .refine fY6 Tryz.func278 rfl ?_;refine gYn h120 ?_;refine gYn h81 ?_;refine gYn h127 ?_;refine gYd ?_;exact⟨ab0 (by rw[hw,hR];rfl),lh0⟩
 .have hk:kB x=false:=by simpa using hk
  rw[hk,Z7 OC]at h120;rw[hk]at hR;subst hR;clear hk hx;refine fY6 Tryz.func278 rfl ?_;refine gYn h120 ?_;refine gYd ?_;exact⟨lr rfl,lh0⟩
def arI(x:Iv):Iv:=if kB x=true then⟨kc (kz x),kz x,false⟩else wI0
theorem qga{x:Iv}(hx:RI x):CI (arI x):=by
 unfold arI;split
 .rename_i h;have k:=(zq hx).1 h;exact .inr ⟨rfl,jl (zcn k),zcn k⟩
 .exact zg7
theorem x203(x:Iv)(hx:RI x):Fn 279 [] [.agg (ivC x)] (.agg (ivC (arI x))) []:=by
 have h120:=i182 x hx;have h25:=i25;rw[e25]at h25;have hR:arI x=if kB x=true then⟨kc (kz x),kz x,false⟩else wI0:=rfl
 generalize arI x=R at*;by_cases hk:kB x=true
 .have k:=(zq hx).1 hk;rw[Z6 hk,hk]at h120;rw[Z6 hk]at hR;have vm:=zcn k;have h76:=zy0 vm;rw[show(if nm (kz x)=0 then d0 else⟨!(kz x).neg,(kz x).m,(kz x).e⟩)=kc (kz x)from rfl]at h76;generalize kc (kz x)=N at*;generalize kz x=M at*;subst hR;clear hk k hx vm;refine fY6 Tryz.func279 rfl ?_;refine gYn h120 ?_;refine gYn h76 ?_;refine gYd ?_;exact⟨lr rfl,lh0⟩
 .have hk:kB x=false:=by simpa using hk
  rw[hk,Z7 OC]at h120;rw[Z7 (by rw[hk];simp)]at hR;subst hR;clear hk hx;refine fY6 Tryz.func279 rfl ?_;refine gYn h120 ?_;refine gYn h25 ?_;exact⟨lr rfl,lh0⟩
theorem x200(x:Iv)(h:RI x)(p:Int):Fn 277 G0 [.agg (ivC x),.int .i64 p] (.agg (ivC (sqI x p))) G0:=by
 have h79:=i137 x h;have h127:=zwi p;have h25:=i25;rw[e25]at h25;have hR:sqI x p=if kB x=true/\pcB p=true then qy (jt (zba x) (zba x) p.toNat false) (jt (kz x) (kz x) p.toNat true)else wI0:=rfl
 generalize sqI x p=R at*;have hA:zud x=if kB x=true then⟨zba x,kz x,false⟩else wI0:=rfl
 by_cases hk:kB x=true
 .rw[hA,Z6 hk]at h79;by_cases hp:pcB p=true
  .rw[hp]at h127;rw[Z6 ⟨hk,hp⟩]at hR;have kx:=(zq h).1 hk;obtain⟨q,rfl,hq⟩:=xx.1 hp;rw[Int.toNat_natCast]at hR;have n1:=qb5 (zil kx) (zil kx) q hq;have n2:=qb4 (zcn kx) (zcn kx) q hq;have n3:=qcg (jt (zba x) (zba x) q false) (jt (kz x) (kz x) q true);rw[<-hR]at n3;generalize jt (zba x) (zba x) q false=a at*;generalize jt (kz x) (kz x) q true=b at*;generalize zba x=g at*;generalize kz x=m at*;clear kx h hk hR hA;obtain⟨⟨a1,a2,a3⟩,e⟩:=a;obtain⟨⟨b1,b2,b3⟩,f⟩:=b;refine fY6 Tryz.func277 rfl ?_;refine gYn h79 ?_;refine gYn h127 ?_;refine gYc n1 ?_;refine gYc n2 ?_;refine gYn n3 ?_;exact⟨lr rfl,leG⟩
  .rw[Z7 fun c=>hp c.2]at hR;rw[show pcB p=false by simpa using hp]at h127;subst hR;generalize zba x=g at*;generalize kz x=m at*;clear h hk hp hA;refine fY6 Tryz.func277 rfl ?_;refine gYn h79 ?_;refine gYn h127 ?_;refine gYn h25 ?_;exact⟨lr rfl,leG⟩
 .rw[hA,Z7 hk]at h79;rw[Z7 fun c=>hk c.1]at hR;subst hR;clear h hk hA;refine fY6 Tryz.func277 rfl ?_;refine gYn h79 ?_;refine gYn h25 ?_;exact⟨lr rfl,leG⟩
def edI(a b:Iv):Iv:=if a.all=true\/b.all=true then wI0 else⟨a.lo,b.hi,false⟩
theorem qf9{a b:Iv}(ha:CI a)(hb:CI b):CI (edI a b):=by
 unfold edI;split
 .exact zg7
 .rename_i h;rcases ha with rfl|⟨_,a1,_⟩
  .exact absurd (.inl rfl) h
  .rcases hb with rfl|⟨_,_,b1⟩
   .exact absurd (.inr rfl) h
   .exact .inr ⟨rfl,a1,b1⟩
theorem x86(a b:Iv):Fn 185 [] [.agg (ivC a),.agg (ivC b)] (.agg (ivC (edI a b))) []:=by
 have h25:=i25;rw[e25]at h25;obtain⟨⟨a1,a2,a3⟩,⟨a4,a5,a6⟩,a7⟩:=a;obtain⟨⟨b1,b2,b3⟩,⟨b4,b5,b6⟩,b7⟩:=b;show Fn 185 [] [.agg [.bool a1,.sl .u32 a2,.int .i64 a3,.bool a4,.sl .u32 a5,.int .i64 a6,.bool a7],.agg [.bool b1,.sl .u32 b2,.int .i64 b3,.bool b4,.sl .u32 b5,.int .i64 b6,.bool b7]] _ []
 cases a7 with
 |true=>
  refine fY6 Tryz.func185 rfl ?_;refine gYn h25 ?_;exact⟨lr rfl,lh0⟩
 |false=>
  cases b7 with
  |true=>
   refine fY6 Tryz.func185 rfl ?_;refine gYn h25 ?_;exact⟨lr rfl,lh0⟩
  |false=>
   refine fY6 Tryz.func185 rfl ?_;exact⟨lr rfl,lh0⟩
def ftB(x:Iv)(p:Int):Bool:=kB x&&pcB p
theorem kB_vi{x:Iv}(hx:RI x)(vx:VI x):kB x= !x.all:=by
 rcases vx with k|rfl
 .rw[(zq hx).2 k,k.all];rfl
 .rfl
theorem x84(x:Iv)(hx:RI x)(p:Int):Fn 183 [] [.agg (ivC x),.int .i64 p] (.bool (ftB x p)) []:=by
 have h17:=i51 x hx;have hR:ftB x p=(kB x&&pcB p):=rfl;have hp:pcB p=true<->8<=p/\p<=512:=by unfold pcB;simp
 generalize ftB x p=R at*;by_cases ha:x.all=true
 .have hk:kB x=false:=by
   by_cases c:kB x=true
   .have:=(zq hx).1 c;rw[this.all]at ha;cases ha
   .simpa using c
  rw[hk,Bool.false_and]at hR;subst hR;clear h17 hx hk;obtain⟨⟨x1,x2,x3⟩,⟨x4,x5,x6⟩,x7⟩:=x;obtain rfl:x7=true:=ha;show Fn 183 [] [.agg [.bool x1,.sl .u32 x2,.int .i64 x3,.bool x4,.sl .u32 x5,.int .i64 x6,.bool true],.int .i64 p] _ [];refine fY6 Tryz.func183 rfl ?_;exact⟨lr rfl,lh0⟩
 have ha:x.all=false:=by simpa using ha
 by_cases hv:viB x=true
 .have vx:=(yg hx).1 hv;rw[hv]at h17;rw[kB_vi hx vx,ha,Bool.not_false,Bool.true_and]at hR;clear hv vx hx;obtain⟨⟨x1,x2,x3⟩,⟨x4,x5,x6⟩,x7⟩:=x;obtain rfl:x7=false:=ha;have h17:Fn 52 [] [.agg [.bool x1,.sl .u32 x2,.int .i64 x3,.bool x4,.sl .u32 x5,.int .i64 x6,.bool false]] (.bool true) []:=h17;show Fn 183 [] [.agg [.bool x1,.sl .u32 x2,.int .i64 x3,.bool x4,.sl .u32 x5,.int .i64 x6,.bool false],.int .i64 p] _ [];refine fY6 Tryz.func183 rfl ?_;refine gYn h17 ?_;refine brI (fun k1=>?_) (fun k1=>?_)
  .have k1:8<=p:=Z0 k1;conv=>whnf
   refine⟨ab0 ?_,lh0⟩;rw[hR,Bool.eq_iff_iff,Z4,hp];exact⟨fun h=>⟨k1,h⟩,fun h=>h.2⟩
  .have k1:¬8<=p:=Z3 k1;rw[show pcB p=false by rw[<-Bool.not_eq_true,hp];omega]at hR;subst hR;conv=>whnf
   exact⟨lr rfl,lh0⟩
 .have hk:kB x=false:=by
   by_cases c:kB x=true
   .exact absurd ((yg hx).2 (.inl ((zq hx).1 c))) hv
   .simpa using c
  rw[hk,Bool.false_and]at hR;subst hR;rw[show viB x=false by simpa using hv]at h17;clear hv hx hk;obtain⟨⟨x1,x2,x3⟩,⟨x4,x5,x6⟩,x7⟩:=x;obtain rfl:x7=false:=ha;have h17:Fn 52 [] [.agg [.bool x1,.sl .u32 x2,.int .i64 x3,.bool x4,.sl .u32 x5,.int .i64 x6,.bool false]] (.bool false) []:=h17;show Fn 183 [] [.agg [.bool x1,.sl .u32 x2,.int .i64 x3,.bool x4,.sl .u32 x5,.int .i64 x6,.bool false],.int .i64 p] _ [];refine fY6 Tryz.func183 rfl ?_;refine gYn h17 ?_;exact⟨lr rfl,lh0⟩
def mdB(d:Dy):Bool:=decide (qd (zaa d) (wo 1000)<=0)
theorem x85{d:Dy}(hd:VD d):Fn 184 G0 [.agg (dyC d)] (.bool (mdB d)) G0:=by
 have h125:=qcr hd;have h78:=v77 1000 OA;have h55:=v81 (zd4 hd) (wl 1000 OA);have hR:mdB d=decide (qd (zaa d) (wo 1000)<=0):=rfl;generalize mdB d=R at*;generalize qd (zaa d) (wo 1000)=C at*;generalize zaa d=a at*;generalize wo 1000=t at*;clear hd;refine fY6 Tryz.func184 rfl ?_;refine gYn h125 ?_;refine gYc h78 ?_;refine gYn h55 ?_;exact⟨ab0 (by rw[hR]),leG⟩
theorem zre{P:Program}{T:Tab}{res:List ResultVar}{ex:List Nat}{r:AV}{H':Hp}{c b:Code}{Y:St}(e:c=.scope b)(h:SemOK P T res ex r H' b Y):SemOK P T res ex r H' c Y:=
 ⟨fun c0 a w Q hr hq=>by
  subst e;exact wpIn_wide.2 (wp_scope_straight (wpIn_wide.1 (h.sem c0 a w (Exit.noGoto Q) hr fun x K a w hr hf=>by
   cases x with
   |normal=>exact hq _ K a w hr hf
   |ret=>exact hq _ K a w hr hf
   |exit _=>exact hf.elim
   |goto _=>exact hf.elim
   |panic _=>exact hf.elim
   |outgrown=>exact hf.elim)))⟩
theorem zrf{P:Program}{T:Tab}{res:List ResultVar}{ex:List Nat}{r:AV}{H':Hp}{c b:Code}{l:Nat}{Y:St}(e:c=.seq (.label l) b)(h:SemOK P T res ex r H' b Y):SemOK P T res ex r H' c Y:=
 ⟨fun c0 a w Q hr hq=>by
  subst e;exact wpIn_seq (wpIn_label (h.sem c0 a w Q hr hq))⟩
def zy1:Code->Code
 |.scope b=>b
 | _=>.skip
def zy2:Code->Code
 |.seq (.label _) b=>b
 | _=>.skip
def exG(y:Iv)(p:Int):Nat->Nat->Iv->Iv->Iv×Iv
 |0,_,t,s=>(t,s)
 |f+1,n,t,s=>if smB (yf (kw t y p) (whI n) p) p=true then(yf (kw t y p) (whI n) p,um s (yf (kw t y p) (whI n) p) p)else exG y p f (n+1) (yf (kw t y p) (whI n) p) (um s (yf (kw t y p) (whI n) p) p)
def qa1(y:Iv)(p:Int):Iv:=um (exG y p (p.toNat+2) 1 (whI 1) (whI 1)).2 (arI (exG y p (p.toNat+2) 1 (whI 1) (whI 1)).1) p
theorem qfp:bI (pw 0) (whI 1):=by
 refine⟨.inl (xm OA),.inr ?_⟩;have e:dv (whI 1).lo =1:=yn 1;have e':dv (whI 1).hi =1:=yn 1;have e2:pw 0=1:=rfl;rw[e,e',e2];constructor<;>decide
noncomputable def zt5:Code:=Tryz.f276.body.getD .skip
noncomputable def qei:Code:=zy1 (zd2 1 zt5)
noncomputable def qe1:Code:=zy2 (zd2 1 qei)
theorem x199(y:Iv)(hy:bI (pw (-1)) y)(p:Int)(hp:pcB p=true):Fn 276 G0 [.agg [.int .i64 p],.agg (ivC y)] (.agg (ivC (qa1 y p))) G0:=by
 have hp8:8<=p/\p<=512:=by unfold pcB at hp;simpa using hp
 have hR:qa1 y p=um (exG y p (p.toNat+2) 1 (whI 1) (whI 1)).2 (arI (exG y p (p.toNat+2) 1 (whI 1) (whI 1)).1) p:=rfl;generalize qa1 y p=R at*;obtain⟨E,hE⟩:∃E,exG y p (p.toNat+2) 1 (whI 1) (whI 1)=E:=⟨_,rfl⟩;rw[hE]at hR;have hw1:=zu2 1 OA;have cw:CI (whI 1):=.inr ⟨rfl,(xm (n:=1) OA).lo,(xm (n:=1) OA).hi⟩;have bw:=qfp;have hst:∃w:Iv,w=whI 1:=⟨_,rfl⟩;obtain⟨w,hw⟩:=hst;rw[<-hw]at hw1 cw bw hE;clear hw;obtain⟨⟨y1,y2,y3⟩,⟨y4,y5,y6⟩,y7⟩:=y;obtain⟨⟨w1,w2,w3⟩,⟨w4,w5,w6⟩,w7⟩:=w;show Fn 276 G0 [.agg [.int .i64 p],.agg [.bool y1,.sl .u32 y2,.int .i64 y3,.bool y4,.sl .u32 y5,.int .i64 y6,.bool y7]] _ G0;have hw1:Fn 237 G0 [.int .i64 1] (.agg [.bool w1,.sl .u32 w2,.int .i64 w3,.bool w4,.sl .u32 w5,.int .i64 w6,.bool w7]) G0:=hw1;refine qv (code:=zt5) hT6 hmx Tryz.func276 rfl rfl (ex:= []) ?_;conv=>whnf
 refine wm hT6 hmx 1 (fun _:Unit=>⟨[.any,.any,.ptr 2 0,.ptr 3 0,.ptr 4 0]++yo 27,[(2,.cells [.int .i64 p]),(3,.cells [.bool y1,.sl .u32 y2,.int .i64 y3,.bool y4,.sl .u32 y5,.int .i64 y6,.bool y7]),(4,.cells [.any,.any,.any,.any,.any,.any,.any]),(5,.free),(6,.free),(qo,.gst JT)]⟩) (fun _=>Z) ?_ (fun _=>?_)
 .conv=>whnf
  refine⟨(),?_⟩;exact KZ0
 refine zre (b:=qei) Z ?_;refine wm hT6 hmx 1 (fun _:Unit=>⟨[.any,.any,.ptr 2 0,.ptr 3 0,.ptr 4 0,.ptr 5 0,.ptr 6 0]++yo 25,[(2,.cells [.int .i64 p]),(3,.cells [.bool y1,.sl .u32 y2,.int .i64 y3,.bool y4,.sl .u32 y5,.int .i64 y6,.bool y7]),(4,.cells [.any,.any,.any,.any,.any,.any,.any]),(5,.cells [.bool w1,.sl .u32 w2,.int .i64 w3,.bool w4,.sl .u32 w5,.int .i64 w6,.bool w7]),(6,.cells [.bool w1,.sl .u32 w2,.int .i64 w3,.bool w4,.sl .u32 w5,.int .i64 w6,.bool w7]),(qo,.gst JT)]⟩) (fun _=>Z) ?_ (fun _=>?_)
 .conv=>whnf
  refine gYc hw1 ?_;refine gYc hw1 ?_;refine⟨(),?_⟩;exact KZ0
 refine zrf (l:=0) (b:=qe1) Z ?_;refine vr hT6 hmx ?_;conv=>whnf
 refine⟨Nat×Nat×Iv×Iv,fun x=>1<=x.2.1/\(x.2.1:Int)<=p+1/\(x.2.1:Int)+x.1=p+3/\bI (pw (1-x.2.1)) x.2.2.1/\CI x.2.2.2/\exG ⟨⟨y1,y2,y3⟩,⟨y4,y5,y6⟩,y7⟩ p x.1 x.2.1 x.2.2.1 x.2.2.2=E,fun x=> [(7,.int .i64 x.2.1)],fun x=> [(5,.cells (ivC x.2.2.1)),(6,.cells (ivC x.2.2.2))],fun x=>x.1,
  (p.toNat+2,1,⟨⟨w1,w2,w3⟩,⟨w4,w5,w6⟩,w7⟩,⟨⟨w1,w2,w3⟩,⟨w4,w5,w6⟩,w7⟩),⟨Nat.le_refl 1,OD,OD,bw,cw,hE⟩,?_,fun x hx=>?_⟩
 .exact KZ0
 refine gYe ?_;obtain⟨f,n,t,s⟩:=x;obtain⟨hx1,hx0,hx2,hx3,hx4,hx5⟩:=hx;simp only at hx0 hx1 hx2 hx3 hx4 hx5
 cases f with
 |zero=>omega
 |succ f=>
  simp only[exG]at hx5;have b1:=zym hx3 hy hp (by rw[zf8];exact pwF O O);rw[zf8]at b1;have b2:=zt6 b1 (n:=n) O O hp (pwF O O);have c1:=x135 t ⟨⟨y1,y2,y3⟩,⟨y4,y5,y6⟩,y7⟩ hx3.1.ri hy.1.ri p;have c2:=zu2 n O;have c3:=x132 _ _ b1.1.ri (xm (n:=n) O).ri p;have c4:=zyx s _ hx4.ri b2.1.ri p;have S4:=za6 s (yf (kw t ⟨⟨y1,y2,y3⟩,⟨y4,y5,y6⟩,y7⟩ p) (whI n) p) p;have c5:=x202 _ b2.1.ri p O;have c6:=x203 _ b2.1.ri;have c7:=zyx _ _ S4.ri (qga b2.1.ri).ri p;have hs:smB (yf (kw t ⟨⟨y1,y2,y3⟩,⟨y4,y5,y6⟩,y7⟩ p) (whI n) p) p=false->(n:Int)<=p:=fun h=>by have:=qda b2 h;omega
  generalize kw t ⟨⟨y1,y2,y3⟩,⟨y4,y5,y6⟩,y7⟩ p=M at*;generalize whI n=W at*;generalize yf M W p=D at*;generalize um s D p=S at*;generalize smB D p=B at*;have hb3:bI (pw (1-((n+1:Nat):Int))) D:=by
   have e:(1:Int)-n-1=1-((n+1:Nat):Int):=O
   rwa [e]at b2
  clear b1 b2 hx3 hx4 hy
  cases B with
  |true=>
   rw[Z6 rfl]at hx5;rw[<-hx5]at hR;simp only at hR;rw[<-hR]at c7;clear hR hx5 hE;generalize arI D=A at*;obtain⟨⟨t1,t2,t3⟩,⟨t4,t5,t6⟩,t7⟩:=t;obtain⟨⟨s1,s2,s3⟩,⟨s4,s5,s6⟩,s7⟩:=s;obtain⟨⟨m1,m2,m3⟩,⟨m4,m5,m6⟩,m7⟩:=M;obtain⟨⟨v1,v2,v3⟩,⟨v4,v5,v6⟩,v7⟩:=W;obtain⟨⟨d1,d2,d3⟩,⟨d4,d5,d6⟩,d7⟩:=D;obtain⟨⟨z1,z2,z3⟩,⟨z4,z5,z6⟩,z7⟩:=S;obtain⟨⟨a1,a2,a3⟩,⟨a4,a5,a6⟩,a7⟩:=A;obtain⟨⟨r1,r2,r3⟩,⟨r4,r5,r6⟩,r7⟩:=R;have c1:Fn 244 G0 [.agg [.int .i64 p],.agg [.bool t1,.sl .u32 t2,.int .i64 t3,.bool t4,.sl .u32 t5,.int .i64 t6,.bool t7],.agg [.bool y1,.sl .u32 y2,.int .i64 y3,.bool y4,.sl .u32 y5,.int .i64 y6,.bool y7]] (.agg [.bool m1,.sl .u32 m2,.int .i64 m3,.bool m4,.sl .u32 m5,.int .i64 m6,.bool m7]) G0:=c1;have c2:Fn 237 G0 [.int .i64 n] (.agg [.bool v1,.sl .u32 v2,.int .i64 v3,.bool v4,.sl .u32 v5,.int .i64 v6,.bool v7]) G0:=c2;have c3:Fn 241 G0 [.agg [.int .i64 p],.agg [.bool m1,.sl .u32 m2,.int .i64 m3,.bool m4,.sl .u32 m5,.int .i64 m6,.bool m7],.agg [.bool v1,.sl .u32 v2,.int .i64 v3,.bool v4,.sl .u32 v5,.int .i64 v6,.bool v7]] (.agg [.bool d1,.sl .u32 d2,.int .i64 d3,.bool d4,.sl .u32 d5,.int .i64 d6,.bool d7]) G0:=c3;have c4:Fn 242 G0 [.agg [.int .i64 p],.agg [.bool s1,.sl .u32 s2,.int .i64 s3,.bool s4,.sl .u32 s5,.int .i64 s6,.bool s7],.agg [.bool d1,.sl .u32 d2,.int .i64 d3,.bool d4,.sl .u32 d5,.int .i64 d6,.bool d7]] (.agg [.bool z1,.sl .u32 z2,.int .i64 z3,.bool z4,.sl .u32 z5,.int .i64 z6,.bool z7]) G0:=c4;have c5:Fn 278 [] [.agg [.int .i64 p],.agg [.bool d1,.sl .u32 d2,.int .i64 d3,.bool d4,.sl .u32 d5,.int .i64 d6,.bool d7]] (.bool true) []:=c5;have c6:Fn 279 [] [.agg [.bool d1,.sl .u32 d2,.int .i64 d3,.bool d4,.sl .u32 d5,.int .i64 d6,.bool d7]] (.agg [.bool a1,.sl .u32 a2,.int .i64 a3,.bool a4,.sl .u32 a5,.int .i64 a6,.bool a7]) []:=c6
   have c7:Fn 242 G0 [.agg [.int .i64 p],.agg [.bool z1,.sl .u32 z2,.int .i64 z3,.bool z4,.sl .u32 z5,.int .i64 z6,.bool z7],.agg [.bool a1,.sl .u32 a2,.int .i64 a3,.bool a4,.sl .u32 a5,.int .i64 a6,.bool a7]] (.agg [.bool r1,.sl .u32 r2,.int .i64 r3,.bool r4,.sl .u32 r5,.int .i64 r6,.bool r7]) G0:=c7;refine gYc c1 ?_;refine gYc c2 ?_;refine gYc c3 ?_;refine gYd ?_;refine gYc c4 ?_;refine gYn c5 ?_;refine gYn c6 ?_;refine gYc c7 ?_;refine gYd ?_;exact⟨lr rfl,leG⟩
  |false=>
   rw[Z7 OA]at hx5;have hn:=hs rfl;clear hR c6 c7 hE;obtain⟨⟨t1,t2,t3⟩,⟨t4,t5,t6⟩,t7⟩:=t;obtain⟨⟨s1,s2,s3⟩,⟨s4,s5,s6⟩,s7⟩:=s;obtain⟨⟨m1,m2,m3⟩,⟨m4,m5,m6⟩,m7⟩:=M;obtain⟨⟨v1,v2,v3⟩,⟨v4,v5,v6⟩,v7⟩:=W;obtain⟨⟨d1,d2,d3⟩,⟨d4,d5,d6⟩,d7⟩:=D;obtain⟨⟨z1,z2,z3⟩,⟨z4,z5,z6⟩,z7⟩:=S;have c1:Fn 244 G0 [.agg [.int .i64 p],.agg [.bool t1,.sl .u32 t2,.int .i64 t3,.bool t4,.sl .u32 t5,.int .i64 t6,.bool t7],.agg [.bool y1,.sl .u32 y2,.int .i64 y3,.bool y4,.sl .u32 y5,.int .i64 y6,.bool y7]] (.agg [.bool m1,.sl .u32 m2,.int .i64 m3,.bool m4,.sl .u32 m5,.int .i64 m6,.bool m7]) G0:=c1;have c2:Fn 237 G0 [.int .i64 n] (.agg [.bool v1,.sl .u32 v2,.int .i64 v3,.bool v4,.sl .u32 v5,.int .i64 v6,.bool v7]) G0:=c2;have c3:Fn 241 G0 [.agg [.int .i64 p],.agg [.bool m1,.sl .u32 m2,.int .i64 m3,.bool m4,.sl .u32 m5,.int .i64 m6,.bool m7],.agg [.bool v1,.sl .u32 v2,.int .i64 v3,.bool v4,.sl .u32 v5,.int .i64 v6,.bool v7]] (.agg [.bool d1,.sl .u32 d2,.int .i64 d3,.bool d4,.sl .u32 d5,.int .i64 d6,.bool d7]) G0:=c3;have c4:Fn 242 G0 [.agg [.int .i64 p],.agg [.bool s1,.sl .u32 s2,.int .i64 s3,.bool s4,.sl .u32 s5,.int .i64 s6,.bool s7],.agg [.bool d1,.sl .u32 d2,.int .i64 d3,.bool d4,.sl .u32 d5,.int .i64 d6,.bool d7]] (.agg [.bool z1,.sl .u32 z2,.int .i64 z3,.bool z4,.sl .u32 z5,.int .i64 z6,.bool z7]) G0:=c4;have c5:Fn 278 [] [.agg [.int .i64 p],.agg [.bool d1,.sl .u32 d2,.int .i64 d3,.bool d4,.sl .u32 d5,.int .i64 d6,.bool d7]] (.bool false) []:=c5;refine gYc c1 ?_;refine gYc c2 ?_;refine gYc c3 ?_;refine gYd ?_;refine gYc c4 ?_;refine gYn c5 ?_;refine⟨(f,n+1,⟨⟨d1,d2,d3⟩,⟨d4,d5,d6⟩,d7⟩,⟨⟨z1,z2,z3⟩,⟨z4,z5,z6⟩,z7⟩),⟨OD,OD,OD,hb3,S4,hx5⟩,by show f<f+1;omega,?_⟩;exact KZ0
theorem zzt{a b c:Rat}(h:a<=b)(g:b<c):a<c:=qD.1 fun k=>qD.2 g (q0 k h)
theorem CI_ex(y:Iv)(p:Int):CI (qa1 y p):=za6 _ _ _
def haI(p:Int):Nat->Iv->Iv
 |0,y=>qa1 y p
 |n+1,y=>sqI (haI p n (wc y (-1))) p
theorem qf6(p:Int):∀(n:Nat)(y:Iv),CI (haI p n y)
 |0,y=>CI_ex y p
 | _+1,_=>CI_sq p
theorem x130(p:Int)(hp:pcB p=true):∀(n:Nat)(y:Iv),n<=100->bI (pw ((n:Int)-1)) y->Fn 240 G0 [.agg [.int .i64 p],.agg (ivC y),.int .i64 (n:Int)] (.agg (ivC (haI p n y))) G0:=by
 intro n
 induction n with
 |zero=>
  intro y _ hy;have h:=x199 y hy p hp;show Fn 240 G0 [.agg [.int .i64 p],.agg (ivC y),.int .i64 0] (.agg (ivC (qa1 y p))) G0;generalize qa1 y p=R at*;clear hy;obtain⟨⟨y1,y2,y3⟩,⟨y4,y5,y6⟩,y7⟩:=y;obtain⟨⟨r1,r2,r3⟩,⟨r4,r5,r6⟩,r7⟩:=R;have h:Fn 276 G0 [.agg [.int .i64 p],.agg [.bool y1,.sl .u32 y2,.int .i64 y3,.bool y4,.sl .u32 y5,.int .i64 y6,.bool y7]] (.agg [.bool r1,.sl .u32 r2,.int .i64 r3,.bool r4,.sl .u32 r5,.int .i64 r6,.bool r7]) G0:=h;show Fn 240 G0 [.agg [.int .i64 p],.agg [.bool y1,.sl .u32 y2,.int .i64 y3,.bool y4,.sl .u32 y5,.int .i64 y6,.bool y7],.int .i64 0] _ G0;refine fY6 Tryz.func240 rfl ?_;refine gYc h ?_;exact⟨lr rfl,leG⟩
 |succ n ih0=>
  intro y hn hy;have hs:=i191 y hy.1.ri (-1);have hb:=zw5 hy (-1);rw[zf8]at hb;have ih:=ih0 (wc y (-1)) O (by
   have e:(((n+1:Nat):Int)-1-1)=(n:Int)-1:=O
   rwa [e]at hb)
  have hq:=x200 _ (qf6 p n (wc y (-1))).ri p;show Fn 240 G0 [.agg [.int .i64 p],.agg (ivC y),.int .i64 ((n+1:Nat):Int)] (.agg (ivC (sqI (haI p n (wc y (-1))) p))) G0;have hw:qG.wrap (((n+1:Nat):Int)-1)=n:=by rw[wI O];omega
  generalize sqI (haI p n (wc y (-1))) p=R at*;generalize haI p n (wc y (-1))=V at*;generalize wc y (-1)=Zq at*;clear hy hb ih0;generalize hN:((n+1:Nat):Int)=N at*;obtain⟨⟨y1,y2,y3⟩,⟨y4,y5,y6⟩,y7⟩:=y;obtain⟨⟨z1,z2,z3⟩,⟨z4,z5,z6⟩,z7⟩:=Zq;obtain⟨⟨v1,v2,v3⟩,⟨v4,v5,v6⟩,v7⟩:=V;obtain⟨⟨r1,r2,r3⟩,⟨r4,r5,r6⟩,r7⟩:=R;have hs:Fn 133 G0 [.agg [.bool y1,.sl .u32 y2,.int .i64 y3,.bool y4,.sl .u32 y5,.int .i64 y6,.bool y7],.int .i64 (-1)] (.agg [.bool z1,.sl .u32 z2,.int .i64 z3,.bool z4,.sl .u32 z5,.int .i64 z6,.bool z7]) G0:=hs;have ih:Fn 240 G0 [.agg [.int .i64 p],.agg [.bool z1,.sl .u32 z2,.int .i64 z3,.bool z4,.sl .u32 z5,.int .i64 z6,.bool z7],.int .i64 n] (.agg [.bool v1,.sl .u32 v2,.int .i64 v3,.bool v4,.sl .u32 v5,.int .i64 v6,.bool v7]) G0:=ih;have hq:Fn 277 G0 [.agg [.bool v1,.sl .u32 v2,.int .i64 v3,.bool v4,.sl .u32 v5,.int .i64 v6,.bool v7],.int .i64 p] (.agg [.bool r1,.sl .u32 r2,.int .i64 r3,.bool r4,.sl .u32 r5,.int .i64 r6,.bool r7]) G0:=hq;show Fn 240 G0 [.agg [.int .i64 p],.agg [.bool y1,.sl .u32 y2,.int .i64 y3,.bool y4,.sl .u32 y5,.int .i64 y6,.bool y7],.int .i64 N] _ G0;refine fY6 Tryz.func240 rfl ?_;refine brI (fun h1=>?_) (fun _=>?_)
  .have h1:(N==0)=true:=h1;have h1:N=0:=by simpa using h1
   omega
  conv=>whnf
  refine gYc hs ?_;rw[hw];refine gYc ih ?_;refine gYc hq ?_;refine gYd ?_;exact⟨lr rfl,leG⟩
def hvN(d:Dy):Nat:=(zg d+1).toNat
def poI(d:Dy)(p:Int):Iv:=if qx d=0 then whI 1 else vl (haI (guP p (hvN d+24)) (hvN d) (vl (qs d) (guP p (hvN d+24)))) p
theorem qe3{d:Dy}(h0:nm d≠0): -(pw (zg d))<=dv d/\dv d<=pw (zg d):=by
 have ht:zg d=bl (nm d)+d.e:=by unfold zg;rw[Z7 h0]
 have h1:=zdb (n:=nm d) (e:=d.e) (t:=zg d) O;have h2:=zda (nm d) d.e;unfold dv;split<;>constructor<;>grind
theorem qd6{d:Dy}(hm:mdB d=true)(h0:nm d≠0):zg d<=10:=by
 have hm:qd (zaa d) (wo 1000)<=0:=Z0 hm;have h1:=ui.1 hm;rw[yn]at h1;have h2:dv (zaa d)=vN (nm d) d.e:=rfl;rw[h2]at h1;have ht:zg d=bl (nm d)+d.e:=by unfold zg;rw[Z7 h0]
 have h3:=yb (n:=nm d) (e:=d.e) (t:=zg d-1) O h0;have h4:((1000:Int):Rat)<pw 10:=by
  rw[show pw 10=((2^10:Nat):Rat)from zrw 10];decide
 have h5:=zzt (q0 h3 h1) h4;have:¬(10:Int)<=zg d-1:=fun c=>qD.2 h5 (zi5.2 c)
 omega
theorem qat{p m:Int}(hp:8<=p/\p<=512)(hm:0<=m):pcB (guP p m)=true:=by
 unfold pcB guP;simp;omega
theorem zfu{x:Iv}(p:Int):CI (vl x p):=by
 unfold vl;split
 .rename_i h;exact uk (vw _ _ _ (qn h.2)) (vw _ _ _ (qn h.2))
 .exact zg7
theorem qf2(d:Dy)(p:Int):CI (poI d p):=by
 unfold poI;split
 .exact .inr ⟨rfl,wl 1 OA,wl 1 OA⟩
 .exact zfu p
theorem x87{d:Dy}(hd:VD d)(hm:mdB d=true)(p:Int)(hp:8<=p/\p<=512):Fn 186 G0 [.agg (dyC d),.int .i64 p] (.agg (ivC (poI d p))) G0:=by
 have h81:=zqn hd;have h126:=zu2 1 OA;have h127:=znc hd;have h77:=zwh hd;have hR:poI d p=if qx d=0 then whI 1 else vl (haI (guP p (hvN d+24)) (hvN d) (vl (qs d) (guP p (hvN d+24)))) p:=rfl
 generalize poI d p=R at*;by_cases h0:nm d=0
 .have hs:qx d=0:=by unfold qx;rw[Z6 h0]
  rw[Z6 hs]at hR;rw[hs]at h81;rw[<-hR]at h126;clear hd hm h127 h77 hR h0 hs;refine fY6 Tryz.func186 rfl ?_;refine gYn h81 ?_;refine gYc h126 ?_;exact⟨lr rfl,leG⟩
 have hs:qx d≠0:=by unfold qx;rw[Z7 h0];split<;>decide
 have htop:=qd6 hm h0;have hlow: -100000<=zg d:=by
  have:=hd.exp;unfold zg;rw[Z7 h0];omega
 rw[Z7 hs]at hR;have hn:hvN d<=11:=by unfold hvN;omega
 have hn2:zg d<=(hvN d:Int)-1:=by unfold hvN;omega
 have hg:=qat hp (m:=(hvN d:Int)+24) O;have hg8:8<=guP p ((hvN d:Int)+24)/\guP p ((hvN d:Int)+24)<=512:=by unfold pcB at hg;simpa using hg
 have hpt:bI (pw ((hvN d:Int)-1)) (qs d):=by
  have:=qe3 h0;have hle:pw (zg d)<=pw ((hvN d:Int)-1):=zi5.2 hn2;refine⟨.inl (zxf hd),.inr ⟨?_,q0 this.2 hle⟩⟩;have h1:=this.1;show-(pw ((hvN d:Int)-1))<=dv d;grind
 have hr1:=zw6 hpt (p:=guP p ((hvN d:Int)+24)) (pwF O O);have c1:=x128 p ((hvN d:Int)+24) O O;have c2:=qej _ hpt.1.ri (guP p ((hvN d:Int)+24));have c3:=x130 _ hg (hvN d) _ O hr1;have c4:=qej _ (qf6 (guP p ((hvN d:Int)+24)) (hvN d) (vl (qs d) (guP p ((hvN d:Int)+24)))).ri p;rw[<-hR]at c4;have hmax:(if(0:Int)>qG.wrap (zg d+1)then 0 else qG.wrap (zg d+1))=(hvN d:Int):=by
  rw[wI O];unfold hvN;split<;>omega
 have hw:qG.wrap ((hvN d:Int)+24)=(hvN d:Int)+24:=wI O;have hw2:qG.wrap (zg d+1)=zg d+1:=wI O;clear hR hr1 hpt hg hm;generalize haI (guP p ((hvN d:Int)+24)) (hvN d) (vl (qs d) (guP p ((hvN d:Int)+24)))=V at*;generalize vl (qs d) (guP p ((hvN d:Int)+24))=Zq at*;generalize qs d=P at*;generalize guP p ((hvN d:Int)+24)=g at*;generalize (hvN d:Int)=N at*;generalize zg d=t at*;generalize qx d=S at*;clear hd h0;refine fY6 Tryz.func186 rfl ?_;refine gYn h81 ?_;refine brI (fun k1=>?_) (fun _=>?_)
 .have k1:(S==0)=true:=k1;exact absurd (by simpa using k1) hs
 conv=>whnf
 refine gYn h127 ?_;rw[hmax,hw];refine gYn c1 ?_;refine gYn h77 ?_;refine gYc c2 ?_;refine gYc c3 ?_;refine gYc c4 ?_;refine gYd ?_;exact⟨lr rfl,leG⟩
def zyc(x:Iv)(p:Int):Iv:=if ftB x p=true/\mdB x.lo=true/\mdB x.hi=true then edI (poI x.lo p) (poI x.hi p)else wI0
theorem qf7(x:Iv)(p:Int):CI (zyc x p):=by
 unfold zyc;split
 .exact qf9 (qf2 _ _) (qf2 _ _)
 .exact zg7
theorem x33(x:Iv)(hx:RI x)(p:Int):Fn 116 G0 [.agg (ivC x),.int .i64 p] (.agg (ivC (zyc x p))) G0:=by
 have h84:=x84 x hx p;have h25:=i25;rw[e25]at h25;have hR:zyc x p=if ftB x p=true/\mdB x.lo=true/\mdB x.hi=true then edI (poI x.lo p) (poI x.hi p)else wI0:=rfl
 generalize zyc x p=R at*;by_cases hf:ftB x p=true
 rotate_left
 .rw[Z7 fun c=>hf c.1]at hR;subst hR;rw[show ftB x p=false by simpa using hf]at h84;clear hf hx;refine fY6 Tryz.func116 rfl ?_;refine gYn h84 ?_;refine gYn h25 ?_;exact⟨lr rfl,leG⟩
 rw[hf]at h84;have hf':=hf;unfold ftB at hf';rw[Bool.and_eq_true]at hf';have k:=(zq hx).1 hf'.1;have hp8:8<=p/\p<=512:=by have:=hf'.2;unfold pcB at this;simpa using this
 have m1:=x85 k.lo;have m2:=x85 k.hi;by_cases h1:mdB x.lo=true
 rotate_left
 .rw[Z7 fun c=>h1 c.2.1]at hR;subst hR;rw[show mdB x.lo=false by simpa using h1]at m1;clear hf hf' k hx m2 h1;refine fY6 Tryz.func116 rfl ?_;refine gYn h84 ?_;refine gYc m1 ?_;refine gYn h25 ?_;exact⟨lr rfl,leG⟩
 rw[h1]at m1;by_cases h2:mdB x.hi=true
 rotate_left
 .rw[Z7 fun c=>h2 c.2.2]at hR;subst hR;rw[show mdB x.hi=false by simpa using h2]at m2;clear hf hf' k hx h1 h2;refine fY6 Tryz.func116 rfl ?_;refine gYn h84 ?_;refine gYc m1 ?_;refine gYc m2 ?_;refine gYn h25 ?_;exact⟨lr rfl,leG⟩
 rw[h2]at m2;rw[Z6 ⟨hf,h1,h2⟩]at hR;have c1:=x87 k.lo h1 p hp8;have c2:=x87 k.hi h2 p hp8;have c3:=x86 (poI x.lo p) (poI x.hi p);rw[<-hR]at c3;clear hR;generalize poI x.lo p=A at*;generalize poI x.hi p=B at*;clear hf hf' k hx h1 h2;refine fY6 Tryz.func116 rfl ?_;refine gYn h84 ?_;refine gYc m1 ?_;refine gYc m2 ?_;refine gYc c1 ?_;refine gYc c2 ?_;refine gYn c3 ?_;refine gYd ?_;exact⟨lr rfl,leG⟩
def inB(a b:Rat)(x:Iv):Prop:=VI x/\(x.all=true\/(a<=dv x.lo/\dv x.hi<=b))
theorem zro{a b:Rat}{x:Iv}(hx:inB a b x){p:Int}(ha:Fp p.toNat a)(hb:Fp p.toNat b\/pw 16384<=b):inB a b (vl x p):=by
 unfold vl;split
 .rename_i c;obtain⟨c1,hp⟩:=c;have k:=(zq hx.1.ri).1 c1;have R1:=kb k.lo (qn hp);have R2:=kb k.hi (qn hp);obtain⟨a1,a2⟩:=hx.2.resolve_left (by rw[k.all];decide);refine⟨zrn R1 R2 (uk (vw _ _ _ (qn hp)) (vw _ _ _ (qn hp))) k.dle,?_⟩
  cases h:(qy (qr x.lo p.toNat false) (qr x.hi p.toNat true)).all with
  |true=>exact .inl rfl
  |false=>
   right;rw[jw h];refine⟨(R1.1.2 a ha a1).2,?_⟩;rcases hb with hb|hb
   .exact(R2.2.2 b hb a2).2
   .rcases(R2.2.1 (jh.1 h).2).2 with ⟨_,_,_,_,_,c⟩|c
    .exact q0 (qA c) hb
    .have h1:=zh1 c;have h2:=zmf 16384;exact q0 (show dv (qr x.hi p.toNat true).1<=pw 16384 by grind) hb
 .exact⟨.inr rfl,.inl rfl⟩
theorem zri{a b:Rat}{x:Iv}(hx:inB a b x)(k:Int):inB (a*pw k) (b*pw k) (wc x k):=by
 unfold wc;split
 .rename_i c1;have kx:=(zq hx.1.ri).1 c1;obtain⟨a1,a2⟩:=hx.2.resolve_left (by rw[kx.all];decide);have hc:=uk (uz x.lo k) (uz x.hi k)
  cases ha:(qy (qc x.lo k) (qc x.hi k)).all with
  |true=>exact⟨zxl hc (fun c=>by rw[ha]at c;cases c),.inl ha⟩
  |false=>
   have e:=jw ha;obtain⟨o1,o2⟩:=jh.1 ha;have e1:dv (qy (qc x.lo k) (qc x.hi k)).lo =dv x.lo*pw k:=by rw[e];exact zfe o1
   have e2:dv (qy (qc x.lo k) (qc x.hi k)).hi =dv x.hi*pw k:=by rw[e];exact zfe o2
   refine⟨zxl hc fun _=>by rw[e1,e2];exact vg kx.dle (zmf k),.inr ?_⟩;rw[e1,e2];exact⟨vg a1 (zmf k),vg a2 (zmf k)⟩
 .exact⟨.inr rfl,.inl rfl⟩
theorem zub{a b c d e f:Rat}{x y:Iv}(hx:inB a b x)(hy:inB c d y){p:Int}(hp:pcB p=true)(h1:e<=a+c)(h2:b+d<=f)(he:Fp p.toNat e)(hf:Fp p.toNat f):inB e f (um x y p):=by
 refine⟨zuc hx.1 hy.1 hp,?_⟩
 cases ha:(um x y p).all with
 |true=>exact .inl rfl
 |false=>
  right;by_cases hk:KI x/\KI y
  .rw[zlv hk.1 hk.2 hp]at ha⊢;obtain⟨a1,a2⟩:=hx.2.resolve_left (by rw[hk.1.all];decide);obtain⟨b1,b2⟩:=hy.2.resolve_left (by rw[hk.2.all];decide);have R1:=ze4 hk.1.lo hk.2.lo (qn hp);have R2:=ze4 hk.1.hi hk.2.hi (qn hp);rw[jw ha];exact⟨(R1.1.2 e he (by grind)).2,(R2.2.2 f hf (by grind)).2⟩
  .rw[qbq hx.1.ri hy.1.ri hk]at ha;cases ha
theorem qbp{B c:Rat}{x y:Iv}(hx:bI B x)(hy:inB 1 c y){p:Int}(hp:pcB p=true)(hF:inF p.toNat B):bI B (yf x y p):=by
 refine⟨zju hx.1 hy.1 hp,?_⟩
 cases ha:(yf x y p).all with
 |true=>exact .inl rfl
 |false=>
  right;by_cases hk:KI x/\KI y
  .obtain⟨b1,b2⟩:=hy.2.resolve_left (by rw[hk.2.all];decide);have b3:=q0 b1 hk.2.dle;have hs:0<dv y.lo\/dv y.hi<0:=.inl (by grind);rw[zeo hk.1 hk.2 hs hp]at ha⊢;obtain⟨⟨a1,a2⟩,⟨a3,a4⟩⟩:=hx.ends hk.1;have q:∀a n:Rat,-B<=a->a<=B->1<=n-> -B<=a/n/\a/n<=B:=fun a n c1 c2 c3=>by
    obtain⟨i1,i2⟩:=zh0 c3;have:=zes c1 c2 i1 i2
    rwa [qE,<-qF]at this
   refine zxh (zie hk.1 hk.2 hs (qn hp)) hF ?_ ha;exact⟨q _ _ a1 a2 b1,q _ _ a1 a2 b3,q _ _ a3 a4 b1,q _ _ a3 a4 b3⟩
  .rw[zo0 hx.1.ri hy.1.ri fun c=>hk ⟨c.1,c.2.1⟩]at ha;cases ha
theorem vp{p:Int}(hp:pcB p=true):bI (pw (-1)) (yf (whI 1) (whI 3) p):=by
 have k1:=xm (n:=1) OA;have k3:=xm (n:=3) OA;have e1:dv (whI 1).lo =1:=yn 1;have e1':dv (whI 1).hi =1:=yn 1;have e3:dv (whI 3).lo =3:=yn 3;have e3':dv (whI 3).hi =3:=yn 3;have hs:0<dv (whI 3).lo \/dv (whI 3).hi <0:=.inl (by rw[e3];decide);have ph:pw (-1)=1/2:=OB;refine⟨zju (.inl k1) (.inl k3) hp,?_⟩
 cases ha:(yf (whI 1) (whI 3) p).all with
 |true=>exact .inl rfl
 |false=>
  right;rw[zeo k1 k3 hs hp]at ha⊢;refine zxh (zie k1 k3 hs (qn hp)) (pwF OA OA) ?_ ha;unfold ztf;rw[e1,e1',e3,e3',ph];decide+kernel
def lgG(q:Iv)(p:Int):Nat->Nat->Iv->Iv->Iv×Iv
 |0,_,w,s=>(w,s)
 |f+1,n,w,s=>if smB w p=true then(w,s)else lgG q p f (n+2) (kw w q p) (um s (yf (kw w q p) (whI n) p) p)
def loI(z:Iv)(p:Int):Iv:=wc (um (lgG (sqI z p) p (p.toNat+2) 3 z z).2 (arI (lgG (sqI z p) p (p.toNat+2) 3 z z).1) p) 1
theorem zpe(x:Iv)(k:Int):CI (wc x k):=by
 unfold wc;split
 .exact uk (uz _ _) (uz _ _)
 .exact zg7
theorem qf4(z:Iv)(p:Int):CI (loI z p):=zpe _ _
theorem VI_CI{x:Iv}(h:VI x):CI x:=by
 rcases h with k|rfl
 .exact .inr ⟨k.all,k.lo,k.hi⟩
 .exact zg7
theorem x134(z:Iv)(hz:bI (pw (-1)) z)(p:Int)(hp:pcB p=true):Fn 243 G0 [.agg [.int .i64 p],.agg (ivC z)] (.agg (ivC (loI z p))) G0:=by
 have hp8:8<=p/\p<=512:=by unfold pcB at hp;simpa using hp
 have hR:loI z p=wc (um (lgG (sqI z p) p (p.toNat+2) 3 z z).2 (arI (lgG (sqI z p) p (p.toNat+2) 3 z z).1) p) 1:=rfl;generalize loI z p=R at*;have hq:=x200 z hz.1.ri p;have bq:=bI_sq hz (p:=p) (by rw[zf8];exact pwF O O);rw[zf8]at bq;generalize sqI z p=Q at*;obtain⟨E,hE⟩:∃E,lgG Q p (p.toNat+2) 3 z z=E:=⟨_,rfl⟩;rw[hE]at hR;have cz:=VI_CI hz.1;obtain⟨⟨z1,z2,z3⟩,⟨z4,z5,z6⟩,z7⟩:=z;obtain⟨⟨q1,q2,q3⟩,⟨q4,q5,q6⟩,q7⟩:=Q;have hq:Fn 277 G0 [.agg [.bool z1,.sl .u32 z2,.int .i64 z3,.bool z4,.sl .u32 z5,.int .i64 z6,.bool z7],.int .i64 p] (.agg [.bool q1,.sl .u32 q2,.int .i64 q3,.bool q4,.sl .u32 q5,.int .i64 q6,.bool q7]) G0:=hq;show Fn 243 G0 [.agg [.int .i64 p],.agg [.bool z1,.sl .u32 z2,.int .i64 z3,.bool z4,.sl .u32 z5,.int .i64 z6,.bool z7]] _ G0;refine fY6 Tryz.func243 rfl ?_;refine gYc hq ?_;refine gYd ?_;refine⟨Nat×Nat×Iv×Iv,fun x=>3<=x.2.1/\(x.2.1:Int)<=p+4/\(x.2.1:Int)+2*x.1=2*p+7/\bI (pw (2-x.2.1)) x.2.2.1/\CI x.2.2.2/\lgG ⟨⟨q1,q2,q3⟩,⟨q4,q5,q6⟩,q7⟩ p x.1 x.2.1 x.2.2.1 x.2.2.2=E,fun x=> [(8,.int .i64 x.2.1)],fun x=> [(6,.cells (ivC x.2.2.1)),(7,.cells (ivC x.2.2.2))],fun x=>x.1,
  (p.toNat+2,3,⟨⟨z1,z2,z3⟩,⟨z4,z5,z6⟩,z7⟩,⟨⟨z1,z2,z3⟩,⟨z4,z5,z6⟩,z7⟩),⟨Nat.le_refl 3,OD,OD,hz,cz,hE⟩,?_,fun x hx=>?_⟩
 .exact KZ0
 refine gYe ?_;obtain⟨f,n,w,s⟩:=x;obtain⟨hx1,hx0,hx2,hx3,hx4,hx5⟩:=hx;simp only at hx0 hx1 hx2 hx3 hx4 hx5
 cases f with
 |zero=>omega
 |succ f=>
  simp only[lgG]at hx5;have c5:=x202 w hx3.1.ri p O;have hs:smB w p=false->(n:Int)<=p+2:=fun h=>by have:=qda hx3 h;omega
  generalize smB w p=B at*
  cases B with
  |true=>
   rw[Z6 rfl]at hx5;have c6:=x203 _ hx3.1.ri;have c7:=zyx _ _ hx4.ri (qga hx3.1.ri).ri p;have c8:=i191 _ (za6 s (arI w) p).ri 1;rw[<-hx5]at hR;simp only at hR;rw[<-hR]at c8;clear hR hx5 hE hx3 hx4 hz bq cz hs;generalize um s (arI w) p=D at*;generalize arI w=A at*;obtain⟨⟨w1,w2,w3⟩,⟨w4,w5,w6⟩,w7⟩:=w;obtain⟨⟨s1,s2,s3⟩,⟨s4,s5,s6⟩,s7⟩:=s;obtain⟨⟨d1,d2,d3⟩,⟨d4,d5,d6⟩,d7⟩:=D;obtain⟨⟨a1,a2,a3⟩,⟨a4,a5,a6⟩,a7⟩:=A;obtain⟨⟨r1,r2,r3⟩,⟨r4,r5,r6⟩,r7⟩:=R;have c5:Fn 278 [] [.agg [.int .i64 p],.agg [.bool w1,.sl .u32 w2,.int .i64 w3,.bool w4,.sl .u32 w5,.int .i64 w6,.bool w7]] (.bool true) []:=c5;have c6:Fn 279 [] [.agg [.bool w1,.sl .u32 w2,.int .i64 w3,.bool w4,.sl .u32 w5,.int .i64 w6,.bool w7]] (.agg [.bool a1,.sl .u32 a2,.int .i64 a3,.bool a4,.sl .u32 a5,.int .i64 a6,.bool a7]) []:=c6;have c7:Fn 242 G0 [.agg [.int .i64 p],.agg [.bool s1,.sl .u32 s2,.int .i64 s3,.bool s4,.sl .u32 s5,.int .i64 s6,.bool s7],.agg [.bool a1,.sl .u32 a2,.int .i64 a3,.bool a4,.sl .u32 a5,.int .i64 a6,.bool a7]] (.agg [.bool d1,.sl .u32 d2,.int .i64 d3,.bool d4,.sl .u32 d5,.int .i64 d6,.bool d7]) G0:=c7;have c8:Fn 133 G0 [.agg [.bool d1,.sl .u32 d2,.int .i64 d3,.bool d4,.sl .u32 d5,.int .i64 d6,.bool d7],.int .i64 1] (.agg [.bool r1,.sl .u32 r2,.int .i64 r3,.bool r4,.sl .u32 r5,.int .i64 r6,.bool r7]) G0:=c8;refine gYn c5 ?_;refine gYn c6 ?_;refine gYc c7 ?_;refine gYc c8 ?_;refine gYd ?_;exact⟨lr rfl,leG⟩
  |false=>
   rw[Z7 OA]at hx5;have hn:=hs rfl;have b1:=zym hx3 bq hp (by rw[<-pwA];exact pwF O O);rw[<-pwA]at b1;have b2:=zt6 b1 (n:=n) O O hp (pwF O O);have c1:=x135 w ⟨⟨q1,q2,q3⟩,⟨q4,q5,q6⟩,q7⟩ hx3.1.ri bq.1.ri p;have c2:=zu2 n O;have c3:=x132 _ _ b1.1.ri (xm (n:=n) O).ri p;have c4:=zyx s _ hx4.ri b2.1.ri p;have S4:=za6 s (yf (kw w ⟨⟨q1,q2,q3⟩,⟨q4,q5,q6⟩,q7⟩ p) (whI n) p) p;generalize kw w ⟨⟨q1,q2,q3⟩,⟨q4,q5,q6⟩,q7⟩ p=M at*;generalize whI n=W at*;generalize yf M W p=D at*;generalize um s D p=S at*;have hb3:bI (pw (2-((n+2:Nat):Int))) M:=by
    have e:(2:Int)-n+(-1-1)=2-((n+2:Nat):Int):=O
    rwa [e]at b1
   clear b1 b2 hx3 hx4 hz hR hE cz;obtain⟨⟨w1,w2,w3⟩,⟨w4,w5,w6⟩,w7⟩:=w;obtain⟨⟨s1,s2,s3⟩,⟨s4,s5,s6⟩,s7⟩:=s;obtain⟨⟨m1,m2,m3⟩,⟨m4,m5,m6⟩,m7⟩:=M;obtain⟨⟨v1,v2,v3⟩,⟨v4,v5,v6⟩,v7⟩:=W;obtain⟨⟨d1,d2,d3⟩,⟨d4,d5,d6⟩,d7⟩:=D;obtain⟨⟨u1,u2,u3⟩,⟨u4,u5,u6⟩,u7⟩:=S;have c5:Fn 278 [] [.agg [.int .i64 p],.agg [.bool w1,.sl .u32 w2,.int .i64 w3,.bool w4,.sl .u32 w5,.int .i64 w6,.bool w7]] (.bool false) []:=c5;have c1:Fn 244 G0 [.agg [.int .i64 p],.agg [.bool w1,.sl .u32 w2,.int .i64 w3,.bool w4,.sl .u32 w5,.int .i64 w6,.bool w7],.agg [.bool q1,.sl .u32 q2,.int .i64 q3,.bool q4,.sl .u32 q5,.int .i64 q6,.bool q7]] (.agg [.bool m1,.sl .u32 m2,.int .i64 m3,.bool m4,.sl .u32 m5,.int .i64 m6,.bool m7]) G0:=c1;have c2:Fn 237 G0 [.int .i64 n] (.agg [.bool v1,.sl .u32 v2,.int .i64 v3,.bool v4,.sl .u32 v5,.int .i64 v6,.bool v7]) G0:=c2;have c3:Fn 241 G0 [.agg [.int .i64 p],.agg [.bool m1,.sl .u32 m2,.int .i64 m3,.bool m4,.sl .u32 m5,.int .i64 m6,.bool m7],.agg [.bool v1,.sl .u32 v2,.int .i64 v3,.bool v4,.sl .u32 v5,.int .i64 v6,.bool v7]] (.agg [.bool d1,.sl .u32 d2,.int .i64 d3,.bool d4,.sl .u32 d5,.int .i64 d6,.bool d7]) G0:=c3;have c4:Fn 242 G0 [.agg [.int .i64 p],.agg [.bool s1,.sl .u32 s2,.int .i64 s3,.bool s4,.sl .u32 s5,.int .i64 s6,.bool s7],.agg [.bool d1,.sl .u32 d2,.int .i64 d3,.bool d4,.sl .u32 d5,.int .i64 d6,.bool d7]] (.agg [.bool u1,.sl .u32 u2,.int .i64 u3,.bool u4,.sl .u32 u5,.int .i64 u6,.bool u7]) G0:=c4;refine gYn c5 ?_;refine gYc c1 ?_;refine gYc c2 ?_;refine gYc c3 ?_;refine gYc c4 ?_;refine gYd ?_;refine⟨(f,n+2,⟨⟨m1,m2,m3⟩,⟨m4,m5,m6⟩,m7⟩,⟨⟨u1,u2,u3⟩,⟨u4,u5,u6⟩,u7⟩),⟨OD,OD,OD,hb3,S4,hx5⟩,by show f<f+1;omega,?_⟩;exact KZ0
def l2I(p:Int):Iv:=vl (loI (yf (whI 1) (whI 3) (guP p 16)) (guP p 16)) p
theorem x136(p:Int)(hp:8<=p/\p<=512):Fn 245 G0 [.int .i64 p] (.agg (ivC (l2I p))) G0:=by
 have hg:=qat hp (m:=16) OA;have c0:=x128 p 16 O OA;have c1:=zu2 1 OA;have c2:=zu2 3 OA;have c3:=x132 _ _ (xm (n:=1) OA).ri (xm (n:=3) OA).ri (guP p 16);have c4:=x134 _ (vp hg) _ hg;have c5:=qej _ (qf4 (yf (whI 1) (whI 3) (guP p 16)) (guP p 16)).ri p;show Fn 245 G0 [.int .i64 p] (.agg (ivC (vl (loI (yf (whI 1) (whI 3) (guP p 16)) (guP p 16)) p))) G0;generalize vl (loI (yf (whI 1) (whI 3) (guP p 16)) (guP p 16)) p=R at*;generalize loI (yf (whI 1) (whI 3) (guP p 16)) (guP p 16)=L at*;generalize yf (whI 1) (whI 3) (guP p 16)=D at*;generalize guP p 16=g at*;generalize whI 1=V at*;generalize whI 3=W at*;obtain⟨⟨v1,v2,v3⟩,⟨v4,v5,v6⟩,v7⟩:=V;obtain⟨⟨w1,w2,w3⟩,⟨w4,w5,w6⟩,w7⟩:=W;obtain⟨⟨d1,d2,d3⟩,⟨d4,d5,d6⟩,d7⟩:=D;obtain⟨⟨l1,l2,l3⟩,⟨l4,l5,l6⟩,l7⟩:=L;obtain⟨⟨r1,r2,r3⟩,⟨r4,r5,r6⟩,r7⟩:=R;have c1:Fn 237 G0 [.int .i64 1] (.agg [.bool v1,.sl .u32 v2,.int .i64 v3,.bool v4,.sl .u32 v5,.int .i64 v6,.bool v7]) G0:=c1;have c2:Fn 237 G0 [.int .i64 3] (.agg [.bool w1,.sl .u32 w2,.int .i64 w3,.bool w4,.sl .u32 w5,.int .i64 w6,.bool w7]) G0:=c2;have c3:Fn 241 G0 [.agg [.int .i64 g],.agg [.bool v1,.sl .u32 v2,.int .i64 v3,.bool v4,.sl .u32 v5,.int .i64 v6,.bool v7],.agg [.bool w1,.sl .u32 w2,.int .i64 w3,.bool w4,.sl .u32 w5,.int .i64 w6,.bool w7]] (.agg [.bool d1,.sl .u32 d2,.int .i64 d3,.bool d4,.sl .u32 d5,.int .i64 d6,.bool d7]) G0:=c3;have c4:Fn 243 G0 [.agg [.int .i64 g],.agg [.bool d1,.sl .u32 d2,.int .i64 d3,.bool d4,.sl .u32 d5,.int .i64 d6,.bool d7]] (.agg [.bool l1,.sl .u32 l2,.int .i64 l3,.bool l4,.sl .u32 l5,.int .i64 l6,.bool l7]) G0:=c4;have c5:Fn 239 G0 [.agg [.bool l1,.sl .u32 l2,.int .i64 l3,.bool l4,.sl .u32 l5,.int .i64 l6,.bool l7],.int .i64 p] (.agg [.bool r1,.sl .u32 r2,.int .i64 r3,.bool r4,.sl .u32 r5,.int .i64 r6,.bool r7]) G0:=c5;refine fY6 Tryz.func245 rfl ?_;refine brI (fun h=>?_) (fun h=>?_)
 .have h:=Z0 h;omega
 conv=>whnf
 refine brI (fun h=>?_) (fun h=>?_)
 .have h:=Z0 h;omega
 conv=>whnf
 refine gYn c0 ?_;refine gYc c1 ?_;refine gYc c2 ?_;refine gYc c3 ?_;refine gYc c4 ?_;refine gYc c5 ?_;refine gYd ?_;exact⟨lr rfl,leG⟩
def lmI(d:Dy)(g:Int):Iv:=wc (vl (qs d) g) (-(zg d))
def lzI(d:Dy)(g:Int):Iv:=yf (um (lmI d g) (whI (-1)) g) (um (lmI d g) (whI 1) g) g
def lnI(d:Dy)(p:Int):Iv:=if qd d (wo 1)=0 then⟨d0,d0,false⟩else
 vl (um (loI (lzI d (guP p 40)) (guP p 40)) (kw (whI (zg d)) (l2I (guP p 40)) (guP p 40)) (guP p 40)) p
theorem qf5(d:Dy)(p:Int):CI (lnI d p):=by
 unfold lnI;split
 .exact .inr ⟨rfl,qq,qq⟩
 .exact zfu p
theorem qd8{d:Dy}(hd:VD d)(hs:0<qx d)(g:Int):inB (pw (-1)) (pw 0) (lmI d g):=by
 have hn:nm d≠0:=fun c=>by unfold qx at hs;rw[Z6 c]at hs;omega
 have hneg:d.neg=false:=by
  unfold qx at hs;rw[Z7 hn]at hs
  cases h:d.neg with
  |true=>rw[h]at hs;simp at hs
  |false=>rfl
 have ht:zg d=bl (nm d)+d.e:=by unfold zg;rw[Z7 hn]
 have hv:dv d=vN (nm d) d.e:=by unfold dv;rw[hneg];rfl
 have h1:=zdb (n:=nm d) (e:=d.e) (t:=zg d) O;have h2:=yb (n:=nm d) (e:=d.e) (t:=zg d-1) O hn;rw[<-hv]at h1 h2;have he:=hd.exp;have hbl:1<=bl (nm d):=by
  have:bl (nm d)≠0:=fun c=>hn (uq.1 c)
  omega
 have hpt:inB (pw (zg d-1)) (pw (zg d)) (qs d):=⟨.inl (zxf hd),.inr ⟨h2,qA h1⟩⟩;have hr:=zro hpt (p:=g) (.inl (pwF O O)) (by
  by_cases hbig:zg d<16384
  .exact .inl (.inl (pwF O hbig))
  .exact .inr (zi5.2 O))
 have:=zri hr (-(zg d));rw[<-pwA,<-pwA,(O:zg d-1+ -(zg d)= -1),(O:zg d+ -(zg d)=0)]at this;exact this
theorem qco(n:Int)(h: -4611686018427387904<=n/\n<=4611686018427387904):inB (n:Rat) (n:Rat) (whI n):=by
 have e:dv (whI n).lo =(n:Rat):=yn n;have e':dv (whI n).hi =(n:Rat):=yn n;exact⟨.inl (xm h),.inr (by rw[e,e'];exact⟨qB,qB⟩)⟩
theorem lz_in{d:Dy}(hd:VD d)(hs:0<qx d){g:Int}(hg:pcB g=true):bI (pw (-1)) (um (lmI d g) (whI (-1)) g)/\inB 1 (pw 1) (um (lmI d g) (whI 1) g):=by
 have h:=qd8 hd hs g;have ph:pw (-1)=1/2:=OB;have p0:pw 0=1:=rfl;have p1:pw 1=2:=OB;have F1:inF g.toNat (pw (-1)):=pwF OA OA;have F0:inF g.toNat (pw 0):=pwF OA OA;have F2:inF g.toNat (pw 1):=pwF OA OA;have n1:((-1:Int):Rat)= -1:=rfl;have n2:((1:Int):Rat)=1:=rfl;have w1:=qco (-1) OA;have w2:=qco 1 OA;rw[n1]at w1;rw[n2]at w2;exact⟨zub h w1 hg (by rw[ph];decide+kernel) (by rw[ph,p0];decide+kernel) (.inr (by rw[qC];exact F1)) (.inl F1),
  zub h w2 hg (by rw[ph];decide+kernel) (by rw[p0,p1];decide+kernel) (.inl (by rw[<-p0];exact F0)) (.inl F2)⟩
theorem x88{d:Dy}(hd:VD d)(hs:0<qx d)(p:Int)(hp:8<=p/\p<=512):Fn 187 G0 [.agg (dyC d),.int .i64 p] (.agg (ivC (lnI d p))) G0:=by
 have c78:=v77 1 OA;have c55:=v81 hd (wl 1 OA);have hR:lnI d p=if qd d (wo 1)=0 then⟨d0,d0,false⟩else vl (um (loI (lzI d (guP p 40)) (guP p 40)) (kw (whI (zg d)) (l2I (guP p 40)) (guP p 40)) (guP p 40)) p:=rfl
 generalize lnI d p=R at*;by_cases h0:qd d (wo 1)=0
 .rw[Z6 h0]at hR;subst hR;rw[h0]at c55;generalize wo 1=o at*;clear hd hs h0;refine fY6 Tryz.func187 rfl ?_;refine gYc c78 ?_;refine gYn c55 ?_;refine gYd ?_;exact⟨lg0 (lc (lr rfl) (lc (li0 rfl) (lc (lr rfl) (lc (lr rfl) (lc (li0 rfl) (lc (lr rfl) (lc (lr rfl) ln0))))))),leG⟩
 rw[Z7 h0]at hR;have hn:nm d≠0:=fun c=>by unfold qx at hs;rw[Z6 c]at hs;omega
 have htb: -100000<=zg d/\zg d<=100000:=by
  have:=hd.exp;have:=hd.bits;unfold zg;rw[Z7 hn];omega
 have hg:=qat hp (m:=40) OA;have hg8:8<=guP p 40/\guP p 40<=512:=by unfold pcB at hg;simpa using hg
 obtain⟨b1,b2⟩:=lz_in hd hs hg;have b3:=qbp b1 b2 hg (pwF OA OA);have hlm:=qd8 hd hs (guP p 40);have c0:=x128 p 40 O OA;have c1:=znc hd;have c2:=zwh hd;have c3:=qej (qs d) (zxf hd).ri (guP p 40);have c4:=i191 (vl (qs d) (guP p 40)) (zfu _).ri (-(zg d));have c5:=zu2 (-1) OA;have c6:=zyx (lmI d (guP p 40)) (whI (-1)) hlm.1.ri (xm (n:= -1) OA).ri (guP p 40);have c7:=zu2 1 OA;have c8:=zyx (lmI d (guP p 40)) (whI 1) hlm.1.ri (xm (n:=1) OA).ri (guP p 40);have c9:=x132 _ _ b1.1.ri b2.1.ri (guP p 40);have c10:=x134 _ b3 _ hg;have c11:=zu2 (zg d) O;have c12:=x136 (guP p 40) hg8;have c13:=x135 (whI (zg d)) (l2I (guP p 40)) (xm (n:=zg d) O).ri (zfu _).ri (guP p 40);have c14:=zyx _ _ (qf4 (lzI d (guP p 40)) (guP p 40)).ri (zbv (whI (zg d)) (l2I (guP p 40)) (guP p 40)).ri (guP p 40);have c15:=qej _ (za6 (loI (lzI d (guP p 40)) (guP p 40)) (kw (whI (zg d)) (l2I (guP p 40)) (guP p 40)) (guP p 40)).ri p;rw[<-hR]at c15;have hw:qG.wrap (0-zg d)= -(zg d):=by rw[wI O];omega
 clear hR b1 b2 b3 hlm;unfold lzI lmI at*;generalize um (loI (yf (um (wc (vl (qs d) (guP p 40)) (-(zg d))) (whI (-1)) (guP p 40)) (um (wc (vl (qs d) (guP p 40)) (-(zg d))) (whI 1) (guP p 40)) (guP p 40)) (guP p 40)) (kw (whI (zg d)) (l2I (guP p 40)) (guP p 40)) (guP p 40)=I15 at*;generalize loI (yf (um (wc (vl (qs d) (guP p 40)) (-(zg d))) (whI (-1)) (guP p 40)) (um (wc (vl (qs d) (guP p 40)) (-(zg d))) (whI 1) (guP p 40)) (guP p 40)) (guP p 40)=I14 at*;generalize yf (um (wc (vl (qs d) (guP p 40)) (-(zg d))) (whI (-1)) (guP p 40)) (um (wc (vl (qs d) (guP p 40)) (-(zg d))) (whI 1) (guP p 40)) (guP p 40)=I13 at*;generalize kw (whI (zg d)) (l2I (guP p 40)) (guP p 40)=I12 at*;generalize um (wc (vl (qs d) (guP p 40)) (-(zg d))) (whI (-1)) (guP p 40)=I11 at*;generalize um (wc (vl (qs d) (guP p 40)) (-(zg d))) (whI 1) (guP p 40)=I10 at*;generalize wc (vl (qs d) (guP p 40)) (-(zg d))=I9 at*;generalize vl (qs d) (guP p 40)=I8 at*;generalize qs d=I7 at*;generalize whI (-1)=I6 at*;generalize whI 1=I5 at*;generalize whI (zg d)=I4 at*;generalize l2I (guP p 40)=I3 at*;generalize guP p 40=g at*;generalize zg d=t at*;generalize wo 1=o at*;generalize qd d o=C at*;clear hd hs hn;refine fY6 Tryz.func187 rfl ?_;refine gYc c78 ?_;refine gYn c55 ?_;refine gYd ?_;refine brI (fun k1=>?_) (fun _=>?_)
 .have k1:(C==0)=true:=k1;exact absurd (by simpa using k1) h0
 conv=>whnf
 refine gYn c0 ?_;refine gYn c1 ?_;refine gYn c2 ?_;refine gYc c3 ?_;rw[hw];refine gYc c4 ?_;refine gYd ?_;refine gYc c5 ?_;refine gYc c6 ?_;refine gYc c7 ?_;refine gYc c8 ?_;refine gYc c9 ?_;refine gYd ?_;refine gYc c10 ?_;refine gYc c11 ?_;refine gYc c12 ?_;refine gYc c13 ?_;refine gYc c14 ?_;refine gYc c15 ?_;refine gYd ?_;exact⟨lr rfl,leG⟩
def zx9(x:Iv)(p:Int):Iv:=if ftB x p=true/\0<qx x.lo then edI (lnI x.lo p) (lnI x.hi p)else wI0
theorem qf3(x:Iv)(p:Int):CI (zx9 x p):=by
 unfold zx9;split
 .exact qf9 (qf5 _ _) (qf5 _ _)
 .exact zg7
theorem x34(x:Iv)(hx:RI x)(p:Int):Fn 117 G0 [.agg (ivC x),.int .i64 p] (.agg (ivC (zx9 x p))) G0:=by
 have h84:=x84 x hx p;have h25:=i25;rw[e25]at h25;have hR:zx9 x p=if ftB x p=true/\0<qx x.lo then edI (lnI x.lo p) (lnI x.hi p)else wI0:=rfl
 generalize zx9 x p=R at*;by_cases hf:ftB x p=true
 rotate_left
 .rw[Z7 fun c=>hf c.1]at hR;subst hR;rw[show ftB x p=false by simpa using hf]at h84;clear hf hx;refine fY6 Tryz.func117 rfl ?_;refine gYn h84 ?_;refine gYn h25 ?_;exact⟨lr rfl,leG⟩
 rw[hf]at h84;have hf':=hf;unfold ftB at hf';rw[Bool.and_eq_true]at hf';have k:=(zq hx).1 hf'.1;have hp8:8<=p/\p<=512:=by have:=hf'.2;unfold pcB at this;simpa using this
 have m1:=zqn k.lo;by_cases h1:0<qx x.lo
 rotate_left
 .rw[Z7 fun c=>h1 c.2]at hR;subst hR;generalize qx x.lo=S at*;clear hf hf' k hx;refine fY6 Tryz.func117 rfl ?_;refine gYn h84 ?_;refine gYn m1 ?_;refine brI (fun k1=>?_) (fun k1=>?_)
  .conv=>whnf
   refine gYn h25 ?_;exact⟨lr rfl,leG⟩
  .have k1:¬S<=0:=Z3 k1;omega
 have h2:0<qx x.hi:=(yq x.hi).2.1.2 (by
  have:=(yq x.lo).2.1.1 h1;have:=k.dle;grind)
 rw[Z6 ⟨hf,h1⟩]at hR;have c1:=x88 k.lo h1 p hp8;have c2:=x88 k.hi h2 p hp8;have c3:=x86 (lnI x.lo p) (lnI x.hi p);rw[<-hR]at c3;clear hR;generalize lnI x.lo p=A at*;generalize lnI x.hi p=B at*;generalize qx x.lo=S at*;clear hf hf' k hx h2;refine fY6 Tryz.func117 rfl ?_;refine gYn h84 ?_;refine gYn m1 ?_;refine brI (fun k1=>?_) (fun _=>?_)
 .have k1:S<=0:=Z0 k1;omega
 conv=>whnf
 refine gYc c1 ?_;refine gYc c2 ?_;refine gYn c3 ?_;refine gYd ?_;exact⟨lr rfl,leG⟩
