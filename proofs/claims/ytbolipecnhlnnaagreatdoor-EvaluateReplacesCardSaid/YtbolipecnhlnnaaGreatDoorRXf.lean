/-
  exponent: halved arguments, power, Exp.
-/
import Derived.Test.YtbolipecnhlnnaaGreatDoorRXe
set_option linter.unusedVariables false
set_option linter.unusedSimpArgs false
open Rat renaming le_trans->q9,not_le->qd,le_of_lt->qn,le_refl->qA
namespace Go.Proofs.YtbolipecnhlnnaaGreatDoor
open Go Go.Sx
set_option maxRecDepth 100000
set_option maxHeartbeats 8000000
theorem qa9 {a b c:Rat} (h:a<=b) (g:b<c):a<c:=qd.1 fun k=>qd.2 g (q9 k h)
theorem qhy (y:Iv) (p:Int):CI (zv9 y p):=zfa _ _ _
def haI (p:Int):Nat->Iv->Iv
 |0,y=>zv9 y p
 |n+1,y=>sqI (haI p n (wh y (-1))) p
theorem qhw (p:Int): ∀(n:Nat) (y:Iv),CI (haI p n y)
 |0,y=>qhy y p
 | _+1,_=>qdf p
theorem x130 (p:Int) (hp:pcB p=true): ∀(n:Nat) (y:Iv),n<=100->bI (pw ((n:Int)-1)) y->Fn 155 G0 [.agg [.int .i64 p],.agg (ivC y),.int .i64 (n:Int)] (.agg (ivC (haI p n y))) G0:=by
 intro n
 induction n with
 |zero=>
  intro y _ hy;have h:=x199 y hy p hp;show Fn 155 G0 [.agg [.int .i64 p],.agg (ivC y),.int .i64 0] (.agg (ivC (zv9 y p))) G0;generalize zv9 y p=R at*;clear hy;obtain⟨⟨y1,y2,y3⟩,⟨y4,y5,y6⟩,y7⟩:=y;obtain⟨⟨r1,r2,r3⟩,⟨r4,r5,r6⟩,r7⟩:=R;have h:Fn 226 G0 [.agg [.int .i64 p],.agg [.bool y1,.sl .u32 y2,.int .i64 y3,.bool y4,.sl .u32 y5,.int .i64 y6,.bool y7]] (.agg [.bool r1,.sl .u32 r2,.int .i64 r3,.bool r4,.sl .u32 r5,.int .i64 r6,.bool r7]) G0:=h;show Fn 155 G0 [.agg [.int .i64 p],.agg [.bool y1,.sl .u32 y2,.int .i64 y3,.bool y4,.sl .u32 y5,.int .i64 y6,.bool y7],.int .i64 0] _ G0;refine fnT hT6 hmx Tryz.func155 rfl rfl (ex:= []) ?_;conv=>whnf
  refine gZc h ?_;conv=>whnf
  exact⟨lr rfl,leG⟩
 |succ n ih0=>
  intro y hn hy;have hs:=i191 y hy.1.ri (-1);have hb:=zp0 hy (-1);rw[zgi]at hb;have ih:=ih0 (wh y (-1)) (by omega) (by
   have e:(((n+1:Nat):Int)-1-1)=(n:Int)-1:=by omega
   rwa [e]at hb)
  have hq:=x200 _ (qhw p n (wh y (-1))).ri p;show Fn 155 G0 [.agg [.int .i64 p],.agg (ivC y),.int .i64 ((n+1:Nat):Int)] (.agg (ivC (sqI (haI p n (wh y (-1))) p))) G0;have hw:IntKind.i64.wrap (((n+1:Nat):Int)-1)=n:=by rw[wI (by omega)];omega
  generalize sqI (haI p n (wh y (-1))) p=R at*;generalize haI p n (wh y (-1))=V at*;generalize wh y (-1)=Z at*;clear hy hb ih0;generalize hN:((n+1:Nat):Int)=N at*;obtain⟨⟨y1,y2,y3⟩,⟨y4,y5,y6⟩,y7⟩:=y;obtain⟨⟨z1,z2,z3⟩,⟨z4,z5,z6⟩,z7⟩:=Z;obtain⟨⟨v1,v2,v3⟩,⟨v4,v5,v6⟩,v7⟩:=V;obtain⟨⟨r1,r2,r3⟩,⟨r4,r5,r6⟩,r7⟩:=R;have hs:Fn 130 G0 [.agg [.bool y1,.sl .u32 y2,.int .i64 y3,.bool y4,.sl .u32 y5,.int .i64 y6,.bool y7],.int .i64 (-1)] (.agg [.bool z1,.sl .u32 z2,.int .i64 z3,.bool z4,.sl .u32 z5,.int .i64 z6,.bool z7]) G0:=hs;have ih:Fn 155 G0 [.agg [.int .i64 p],.agg [.bool z1,.sl .u32 z2,.int .i64 z3,.bool z4,.sl .u32 z5,.int .i64 z6,.bool z7],.int .i64 n] (.agg [.bool v1,.sl .u32 v2,.int .i64 v3,.bool v4,.sl .u32 v5,.int .i64 v6,.bool v7]) G0:=ih;have hq:Fn 227 G0 [.agg [.bool v1,.sl .u32 v2,.int .i64 v3,.bool v4,.sl .u32 v5,.int .i64 v6,.bool v7],.int .i64 p] (.agg [.bool r1,.sl .u32 r2,.int .i64 r3,.bool r4,.sl .u32 r5,.int .i64 r6,.bool r7]) G0:=hq;show Fn 155 G0 [.agg [.int .i64 p],.agg [.bool y1,.sl .u32 y2,.int .i64 y3,.bool y4,.sl .u32 y5,.int .i64 y6,.bool y7],.int .i64 N] _ G0;refine fnT hT6 hmx Tryz.func155 rfl rfl (ex:= []) ?_;conv=>whnf
  refine brI (fun h1=>?_) (fun _=>?_)
  ·have h1:(N==0)=true:=h1;have h1:N=0:=by simpa using h1
   omega
  conv=>whnf
  refine gZc hs ?_;conv=>whnf
  rw[hw];refine gZc ih ?_;conv=>whnf
  refine gZc hq ?_;conv=>whnf
  (refine⟨by kernel_rfl,by kernel_rfl,?_⟩;(conv=>whnf))
  exact⟨lr rfl,leG⟩
def hvN (d:Dy):Nat:=(zg d+1).toNat
def poI (d:Dy) (p:Int):Iv:=if wl d=0 then whI 1 else qm (haI (guP p (hvN d+24)) (hvN d) (qm (qp d) (guP p (hvN d+24)))) p
theorem zzs {d:Dy} (h0:nm d≠0): -(pw (zg d))<=dv d/\dv d<=pw (zg d):=by
 have ht:zg d=bl (nm d)+d.e:=by unfold zg;rw[if_neg h0]
 have h1:=zbb (n:=nm d) (e:=d.e) (t:=zg d) (by omega);have h2:=zcy (nm d) d.e;unfold dv;split<;>constructor<;>grind
theorem qfm {d:Dy} (hm:mdB d=true) (h0:nm d≠0):zg d<=10:=by
 have hm:qt (za7 d) (wx 1000)<=0:=of_decide_eq_true hm;have h1:=xm.1 hm;rw[jr]at h1;have h2:dv (za7 d)=vN (nm d) d.e:=rfl;rw[h2]at h1;have ht:zg d=bl (nm d)+d.e:=by unfold zg;rw[if_neg h0]
 have h3:=ue (n:=nm d) (e:=d.e) (t:=zg d-1) (by omega) h0;have h4:((1000:Int):Rat)<pw 10:=by
  rw[show pw 10=((2^10:Nat):Rat)from zbf 10];decide
 have h5:=qa9 (q9 h3 h1) h4;have: ¬(10:Int)<=zg d-1:=fun c=>qd.2 h5 (zei.2 c)
 omega
theorem zq9 {p m:Int} (hp:8<=p/\p<=512) (hm:0<=m):pcB (guP p m)=true:=by
 unfold pcB guP;simp;omega
theorem zf2 {x:Iv} (p:Int):CI (qm x p):=by
 unfold qm;split
 ·rename_i h;exact kw (wg _ _ _ (qr h.2)) (wg _ _ _ (qr h.2))
 ·exact zh0
theorem zyl (d:Dy) (p:Int):CI (poI d p):=by
 unfold poI;split
 ·exact .inr ⟨rfl,ju 1 (by decide),ju 1 (by decide)⟩
 ·exact zf2 p
theorem x87 {d:Dy} (hd:VD d) (hm:mdB d=true) (p:Int) (hp:8<=p/\p<=512):Fn 68 G0 [.agg (dyC d),.int .i64 p] (.agg (ivC (poI d p))) G0:=by
 have h81:=zrx hd;have h126:=zwe 1 (by decide);have h127:=zn6 hd;have h77:=qdu hd;have hR:poI d p=if wl d=0 then whI 1 else qm (haI (guP p (hvN d+24)) (hvN d) (qm (qp d) (guP p (hvN d+24)))) p:=rfl
 generalize poI d p=R at*;by_cases h0:nm d=0
 ·have hs:wl d=0:=by unfold wl;rw[if_pos h0]
  rw[if_pos hs]at hR;rw[hs]at h81;rw[←hR]at h126;clear hd hm h127 h77 hR h0 hs;refine fnT hT6 hmx Tryz.func68 rfl rfl (ex:= []) ?_;conv=>whnf
  refine gZn h81 ?_;conv=>whnf
  refine gZc h126 ?_;conv=>whnf
  exact⟨lr rfl,leG⟩
 have hs:wl d≠0:=by unfold wl;rw[if_neg h0];split<;>decide
 have htop:=qfm hm h0;have hlow: -100000<=zg d:=by
  have:=hd.exp;unfold zg;rw[if_neg h0];omega
 rw[if_neg hs]at hR;have hn:hvN d<=11:=by unfold hvN;omega
 have hn2:zg d<=(hvN d:Int)-1:=by unfold hvN;omega
 have hg:=zq9 hp (m:=(hvN d:Int)+24) (by omega);have hg8:8<=guP p ((hvN d:Int)+24)/\guP p ((hvN d:Int)+24)<=512:=by unfold pcB at hg;simpa using hg
 have hpt:bI (pw ((hvN d:Int)-1)) (qp d):=by
  have:=zzs h0;have hle:pw (zg d)<=pw ((hvN d:Int)-1):=zei.2 hn2;refine⟨.inl (zrk hd),.inr ⟨?_,q9 this.2 hle⟩⟩;have h1:=this.1;show-(pw ((hvN d:Int)-1))<=dv d;grind
 have hr1:=zyb hpt (p:=guP p ((hvN d:Int)+24)) (pwF (by omega) (by omega));have c1:=x128 p ((hvN d:Int)+24) (by omega) (by omega);have c2:=qf6 _ hpt.1.ri (guP p ((hvN d:Int)+24));have c3:=x130 _ hg (hvN d) _ (by omega) hr1;have c4:=qf6 _ (qhw (guP p ((hvN d:Int)+24)) (hvN d) (qm (qp d) (guP p ((hvN d:Int)+24)))).ri p;rw[←hR]at c4;have hmax:(if(0:Int)>IntKind.i64.wrap (zg d+1)then 0 else IntKind.i64.wrap (zg d+1))=(hvN d:Int):=by
  rw[wI (by omega)];unfold hvN;split<;>omega
 have hw:IntKind.i64.wrap ((hvN d:Int)+24)=(hvN d:Int)+24:=wI (by omega);have hw2:IntKind.i64.wrap (zg d+1)=zg d+1:=wI (by omega);clear hR hr1 hpt hg hm;generalize haI (guP p ((hvN d:Int)+24)) (hvN d) (qm (qp d) (guP p ((hvN d:Int)+24)))=V at*;generalize qm (qp d) (guP p ((hvN d:Int)+24))=Z at*;generalize qp d=P at*;generalize guP p ((hvN d:Int)+24)=g at*;generalize (hvN d:Int)=N at*;generalize zg d=t at*;generalize wl d=S at*;clear hd h0;refine fnT hT6 hmx Tryz.func68 rfl rfl (ex:= []) ?_;conv=>whnf
 refine gZn h81 ?_;conv=>whnf
 refine brI (fun k1=>?_) (fun _=>?_)
 ·have k1:(S==0)=true:=k1;exact absurd (by simpa using k1) hs
 conv=>whnf
 refine gZn h127 ?_;conv=>whnf
 rw[hmax,hw];refine gZn c1 ?_;conv=>whnf
 refine gZn h77 ?_;conv=>whnf
 refine gZc c2 ?_;conv=>whnf
 refine gZc c3 ?_;conv=>whnf
 refine gZc c4 ?_;conv=>whnf
 (refine⟨by kernel_rfl,by kernel_rfl,?_⟩;(conv=>whnf))
 exact⟨lr rfl,leG⟩
def zrb (x:Iv) (p:Int):Iv:=if ftB x p=true/\mdB x.lo=true/\mdB x.hi=true then edI (poI x.lo p) (poI x.hi p)else wI0
theorem qhx (x:Iv) (p:Int):CI (zrb x p):=by
 unfold zrb;split
 ·exact zyn (zyl _ _) (zyl _ _)
 ·exact zh0
theorem x33 (x:Iv) (hx:RI x) (p:Int):Fn 20 G0 [.agg (ivC x),.int .i64 p] (.agg (ivC (zrb x p))) G0:=by
 have h84:=x84 x hx p;have h25:=i25;rw[e25]at h25;have hR:zrb x p=if ftB x p=true/\mdB x.lo=true/\mdB x.hi=true then edI (poI x.lo p) (poI x.hi p)else wI0:=rfl
 generalize zrb x p=R at*;by_cases hf:ftB x p=true
 rotate_left
 ·rw[if_neg fun c=>hf c.1]at hR;subst hR;rw[show ftB x p=false by simpa using hf]at h84;clear hf hx;refine fnT hT6 hmx Tryz.func20 rfl rfl (ex:= []) ?_;conv=>whnf
  refine gZn h84 ?_;conv=>whnf
  refine gZn h25 ?_;conv=>whnf
  exact⟨lr rfl,leG⟩
 rw[hf]at h84;have hf':=hf;unfold ftB at hf';rw[Bool.and_eq_true]at hf';have k:=(zp hx).1 hf'.1;have hp8:8<=p/\p<=512:=by have:=hf'.2;unfold pcB at this;simpa using this
 have m1:=x85 k.lo;have m2:=x85 k.hi;by_cases h1:mdB x.lo=true
 rotate_left
 ·rw[if_neg fun c=>h1 c.2.1]at hR;subst hR;rw[show mdB x.lo=false by simpa using h1]at m1;clear hf hf' k hx m2 h1;refine fnT hT6 hmx Tryz.func20 rfl rfl (ex:= []) ?_;conv=>whnf
  refine gZn h84 ?_;conv=>whnf
  refine gZc m1 ?_;conv=>whnf
  refine gZn h25 ?_;conv=>whnf
  exact⟨lr rfl,leG⟩
 rw[h1]at m1;by_cases h2:mdB x.hi=true
 rotate_left
 ·rw[if_neg fun c=>h2 c.2.2]at hR;subst hR;rw[show mdB x.hi=false by simpa using h2]at m2;clear hf hf' k hx h1 h2;refine fnT hT6 hmx Tryz.func20 rfl rfl (ex:= []) ?_;conv=>whnf
  refine gZn h84 ?_;conv=>whnf
  refine gZc m1 ?_;conv=>whnf
  refine gZc m2 ?_;conv=>whnf
  refine gZn h25 ?_;conv=>whnf
  exact⟨lr rfl,leG⟩
 rw[h2]at m2;rw[if_pos ⟨hf,h1,h2⟩]at hR;have c1:=x87 k.lo h1 p hp8;have c2:=x87 k.hi h2 p hp8;have c3:=x86 (poI x.lo p) (poI x.hi p);rw[←hR]at c3;clear hR;generalize poI x.lo p=A at*;generalize poI x.hi p=B at*;clear hf hf' k hx h1 h2;refine fnT hT6 hmx Tryz.func20 rfl rfl (ex:= []) ?_;conv=>whnf
 refine gZn h84 ?_;conv=>whnf
 refine gZc m1 ?_;conv=>whnf
 refine gZc m2 ?_;conv=>whnf
 refine gZc c1 ?_;conv=>whnf
 refine gZc c2 ?_;conv=>whnf
 refine gZn c3 ?_;conv=>whnf
 (refine⟨by kernel_rfl,by kernel_rfl,?_⟩;(conv=>whnf))
 exact⟨lr rfl,leG⟩
def inB (a b:Rat) (x:Iv):Prop:=VI x/\(x.all=true\/(a<=dv x.lo/\dv x.hi<=b))
theorem zs1 {a b:Rat} {x:Iv} (hx:inB a b x) {p:Int} (ha:Fp p.toNat a) (hb:Fp p.toNat b\/pw 16384<=b):inB a b (qm x p):=by
 unfold qm;split
 ·rename_i c;obtain⟨c1,hp⟩:=c;have k:=(zp hx.1.ri).1 c1;have R1:=jm k.lo (qr hp);have R2:=jm k.hi (qr hp);obtain⟨a1,a2⟩:=hx.2.resolve_left (by rw[k.all];decide);refine⟨zqr R1 R2 (kw (wg _ _ _ (qr hp)) (wg _ _ _ (qr hp))) k.dle,?_⟩
  cases h:(wa (qo x.lo p.toNat false) (qo x.hi p.toNat true)).all with
  |true=>exact .inl rfl
  |false=>
   right;rw[yg h];refine⟨(R1.1.2 a ha a1).2,?_⟩;rcases hb with hb|hb
   ·exact(R2.2.2 b hb a2).2
   ·rcases(R2.2.1 (uw.1 h).2).2 with ⟨_,_,_,_,_,c⟩|c
    ·exact q9 (qn c) hb
    ·have h1:=zij c;have h2:=zeh 16384;exact q9 (show dv (qo x.hi p.toNat true).1<=pw 16384 by grind) hb
 ·exact⟨.inr rfl,.inl rfl⟩
theorem zss {a b:Rat} {x:Iv} (hx:inB a b x) (k:Int):inB (a*pw k) (b*pw k) (wh x k):=by
 unfold wh;split
 ·rename_i c1;have kx:=(zp hx.1.ri).1 c1;obtain⟨a1,a2⟩:=hx.2.resolve_left (by rw[kx.all];decide);have hc:=kw (zck x.lo k) (zck x.hi k)
  cases ha:(wa (vj x.lo k) (vj x.hi k)).all with
  |true=>exact⟨zyp hc (fun c=>by rw[ha]at c;cases c),.inl ha⟩
  |false=>
   have e:=yg ha;obtain⟨o1,o2⟩:=uw.1 ha;have e1:dv (wa (vj x.lo k) (vj x.hi k)).lo =dv x.lo*pw k:=by rw[e];exact zb0 o1
   have e2:dv (wa (vj x.lo k) (vj x.hi k)).hi =dv x.hi*pw k:=by rw[e];exact zb0 o2
   refine⟨zyp hc fun _=>by rw[e1,e2];exact qv kx.dle (zeh k),.inr ?_⟩;rw[e1,e2];exact⟨qv a1 (zeh k),qv a2 (zeh k)⟩
 ·exact⟨.inr rfl,.inl rfl⟩
theorem zvo {a b c d e f:Rat} {x y:Iv} (hx:inB a b x) (hy:inB c d y) {p:Int} (hp:pcB p=true) (h1:e<=a+c) (h2:b+d<=f) (he:Fp p.toNat e) (hf:Fp p.toNat f):inB e f (uk x y p):=by
 refine⟨zea hx.1 hy.1 hp,?_⟩
 cases ha:(uk x y p).all with
 |true=>exact .inl rfl
 |false=>
  right;by_cases hk:KI x/\KI y
  ·rw[zp7 hk.1 hk.2 hp]at ha⊢;obtain⟨a1,a2⟩:=hx.2.resolve_left (by rw[hk.1.all];decide);obtain⟨b1,b2⟩:=hy.2.resolve_left (by rw[hk.2.all];decide);have R1:=zi2 hk.1.lo hk.2.lo (qr hp);have R2:=zi2 hk.1.hi hk.2.hi (qr hp);rw[yg ha];exact⟨(R1.1.2 e he (by grind)).2,(R2.2.2 f hf (by grind)).2⟩
  ·rw[qc7 hx.1.ri hy.1.ri hk]at ha;cases ha
theorem qc5 {B c:Rat} {x y:Iv} (hx:bI B x) (hy:inB 1 c y) {p:Int} (hp:pcB p=true) (hF:inF p.toNat B):bI B (ym x y p):=by
 refine⟨zbt hx.1 hy.1 hp,?_⟩
 cases ha:(ym x y p).all with
 |true=>exact .inl rfl
 |false=>
  right;by_cases hk:KI x/\KI y
  ·obtain⟨b1,b2⟩:=hy.2.resolve_left (by rw[hk.2.all];decide);have b3:=q9 b1 hk.2.dle;have hs:0<dv y.lo\/dv y.hi<0:= .inl (by grind);rw[zkg hk.1 hk.2 hs hp]at ha⊢;obtain⟨⟨a1,a2⟩,⟨a3,a4⟩⟩:=hx.ends hk.1;have q: ∀a n:Rat,-B<=a->a<=B->1<=n-> -B<=a/n/\a/n<=B:=fun a n c1 c2 c3=>by
    obtain⟨i1,i2⟩:=zii c3;have:=zew c1 c2 i1 i2
    rwa [Rat.mul_one,←Rat.div_def]at this
   refine zyi (zpt hk.1 hk.2 hs (qr hp)) hF ?_ ha;exact⟨q _ _ a1 a2 b1,q _ _ a1 a2 b3,q _ _ a3 a4 b1,q _ _ a3 a4 b3⟩
  ·rw[zu2 hx.1.ri hy.1.ri fun c=>hk ⟨c.1,c.2.1⟩]at ha;cases ha
theorem wc {p:Int} (hp:pcB p=true):bI (pw (-1)) (ym (whI 1) (whI 3) p):=by
 have k1:=yz (n:=1) (by decide);have k3:=yz (n:=3) (by decide);have e1:dv (whI 1).lo =1:=jr 1;have e1':dv (whI 1).hi =1:=jr 1;have e3:dv (whI 3).lo =3:=jr 3;have e3':dv (whI 3).hi =3:=jr 3;have hs:0<dv (whI 3).lo \/dv (whI 3).hi <0:= .inl (by rw[e3];decide);have ph:pw (-1)=1/2:=by decide+kernel
 refine⟨zbt (.inl k1) (.inl k3) hp,?_⟩
 cases ha:(ym (whI 1) (whI 3) p).all with
 |true=>exact .inl rfl
 |false=>
  right;rw[zkg k1 k3 hs hp]at ha⊢;refine zyi (zpt k1 k3 hs (qr hp)) (pwF (by decide) (by decide)) ?_ ha;unfold qcg;rw[e1,e1',e3,e3',ph];decide+kernel
def lgG (q:Iv) (p:Int):Nat->Nat->Iv->Iv->Iv×Iv
 |0,_,w,s=>(w,s)
 |f+1,n,w,s=>if smB w p=true then(w,s)else lgG q p f (n+2) (zac w q p) (uk s (ym (zac w q p) (whI n) p) p)
def loI (z:Iv) (p:Int):Iv:=wh (uk (lgG (sqI z p) p (p.toNat+2) 3 z z).2 (arI (lgG (sqI z p) p (p.toNat+2) 3 z z).1) p) 1
theorem zyk (x:Iv) (k:Int):CI (wh x k):=by
 unfold wh;split
 ·exact kw (zck _ _) (zck _ _)
 ·exact zh0
theorem qhv (z:Iv) (p:Int):CI (loI z p):=zyk _ _
theorem VI_CI {x:Iv} (h:VI x):CI x:=by
 rcases h with k|rfl
 ·exact .inr ⟨k.all,k.lo,k.hi⟩
 ·exact zh0
theorem x134 (z:Iv) (hz:bI (pw (-1)) z) (p:Int) (hp:pcB p=true):Fn 382 G0 [.agg [.int .i64 p],.agg (ivC z)] (.agg (ivC (loI z p))) G0:=by
 have hp8:8<=p/\p<=512:=by unfold pcB at hp;simpa using hp
 have hR:loI z p=wh (uk (lgG (sqI z p) p (p.toNat+2) 3 z z).2 (arI (lgG (sqI z p) p (p.toNat+2) 3 z z).1) p) 1:=rfl;generalize loI z p=R at*;have hq:=x200 z hz.1.ri p;have bq:=bI_sq hz (p:=p) (by rw[zgi];exact pwF (by omega) (by omega));rw[zgi]at bq;generalize sqI z p=Q at*;obtain⟨E,hE⟩: ∃E,lgG Q p (p.toNat+2) 3 z z=E:=⟨_,rfl⟩;rw[hE]at hR;have cz:=VI_CI hz.1;obtain⟨⟨z1,z2,z3⟩,⟨z4,z5,z6⟩,z7⟩:=z;obtain⟨⟨q1,q2,q3⟩,⟨q4,q5,q6⟩,q7⟩:=Q;have hq:Fn 227 G0 [.agg [.bool z1,.sl .u32 z2,.int .i64 z3,.bool z4,.sl .u32 z5,.int .i64 z6,.bool z7],.int .i64 p] (.agg [.bool q1,.sl .u32 q2,.int .i64 q3,.bool q4,.sl .u32 q5,.int .i64 q6,.bool q7]) G0:=hq;show Fn 382 G0 [.agg [.int .i64 p],.agg [.bool z1,.sl .u32 z2,.int .i64 z3,.bool z4,.sl .u32 z5,.int .i64 z6,.bool z7]] _ G0;refine fnT hT6 hmx Tryz.func382 rfl rfl (ex:= []) ?_;conv=>whnf
 refine gZc hq ?_;conv=>whnf
 (refine⟨by kernel_rfl,by kernel_rfl,?_⟩;(conv=>whnf))
 refine⟨Nat×Nat×Iv×Iv,fun x=>3<=x.2.1/\(x.2.1:Int)<=p+4/\(x.2.1:Int)+2*x.1=2*p+7/\bI (pw (2-x.2.1)) x.2.2.1/\CI x.2.2.2/\lgG ⟨⟨q1,q2,q3⟩,⟨q4,q5,q6⟩,q7⟩ p x.1 x.2.1 x.2.2.1 x.2.2.2=E,fun x=> [(8,.int .i64 x.2.1)],fun x=> [(6,.cells (ivC x.2.2.1)),(7,.cells (ivC x.2.2.2))],fun x=>x.1,
  (p.toNat+2,3,⟨⟨z1,z2,z3⟩,⟨z4,z5,z6⟩,z7⟩,⟨⟨z1,z2,z3⟩,⟨z4,z5,z6⟩,z7⟩),⟨Nat.le_refl 3,by simp only;omega,by simp only;omega,hz,cz,hE⟩,?_,fun x hx=>?_⟩
 ·((conv=>whnf);refine And.intro ?_ ?_;repeat' first|refine lc ?_ ?_|exact la0|exact lr rfl|exact ln0|refine lh1 ?_ ?_|exact lh0|exact bf0|exact bd0|refine bc0 ?_|exact bm0 rfl|exact bb0 rfl|exact bg0 rfl|exact li0 rfl|refine lg0 ?_|refine lt0 ?_|fail)
 (refine⟨by kernel_rfl,?_⟩;(conv=>whnf))
 obtain⟨f,n,w,s⟩:=x;obtain⟨hx1,hx0,hx2,hx3,hx4,hx5⟩:=hx;simp only at hx0 hx1 hx2 hx3 hx4 hx5
 cases f with
 |zero=>omega
 |succ f=>
  simp only[lgG]at hx5;have c5:=x202 w hx3.1.ri p (by omega);have hs:smB w p=false->(n:Int)<=p+2:=fun h=>by have:=qeq hx3 h;omega
  generalize smB w p=B at*
  cases B with
  |true=>
   rw[if_pos rfl]at hx5;have c6:=x203 _ hx3.1.ri;have c7:=qad _ _ hx4.ri (zyo hx3.1.ri).ri p;have c8:=i191 _ (zfa s (arI w) p).ri 1;rw[←hx5]at hR;simp only at hR;rw[←hR]at c8;clear hR hx5 hE hx3 hx4 hz bq cz hs;generalize uk s (arI w) p=D at*;generalize arI w=A at*;obtain⟨⟨w1,w2,w3⟩,⟨w4,w5,w6⟩,w7⟩:=w;obtain⟨⟨s1,s2,s3⟩,⟨s4,s5,s6⟩,s7⟩:=s;obtain⟨⟨d1,d2,d3⟩,⟨d4,d5,d6⟩,d7⟩:=D;obtain⟨⟨a1,a2,a3⟩,⟨a4,a5,a6⟩,a7⟩:=A;obtain⟨⟨r1,r2,r3⟩,⟨r4,r5,r6⟩,r7⟩:=R;have c5:Fn 308 [] [.agg [.int .i64 p],.agg [.bool w1,.sl .u32 w2,.int .i64 w3,.bool w4,.sl .u32 w5,.int .i64 w6,.bool w7]] (.bool true) []:=c5;have c6:Fn 309 [] [.agg [.bool w1,.sl .u32 w2,.int .i64 w3,.bool w4,.sl .u32 w5,.int .i64 w6,.bool w7]] (.agg [.bool a1,.sl .u32 a2,.int .i64 a3,.bool a4,.sl .u32 a5,.int .i64 a6,.bool a7]) []:=c6;have c7:Fn 307 G0 [.agg [.int .i64 p],.agg [.bool s1,.sl .u32 s2,.int .i64 s3,.bool s4,.sl .u32 s5,.int .i64 s6,.bool s7],.agg [.bool a1,.sl .u32 a2,.int .i64 a3,.bool a4,.sl .u32 a5,.int .i64 a6,.bool a7]] (.agg [.bool d1,.sl .u32 d2,.int .i64 d3,.bool d4,.sl .u32 d5,.int .i64 d6,.bool d7]) G0:=c7;have c8:Fn 130 G0 [.agg [.bool d1,.sl .u32 d2,.int .i64 d3,.bool d4,.sl .u32 d5,.int .i64 d6,.bool d7],.int .i64 1] (.agg [.bool r1,.sl .u32 r2,.int .i64 r3,.bool r4,.sl .u32 r5,.int .i64 r6,.bool r7]) G0:=c8;refine gZn c5 ?_;conv=>whnf
   refine gZn c6 ?_;conv=>whnf
   refine gZc c7 ?_;conv=>whnf
   refine gZc c8 ?_;conv=>whnf
   (refine⟨by kernel_rfl,by kernel_rfl,?_⟩;(conv=>whnf))
   exact⟨lr rfl,leG⟩
  |false=>
   rw[if_neg (by decide)]at hx5;have hn:=hs rfl;have b1:=zzw hx3 bq hp (by rw[←pwA];exact pwF (by omega) (by omega));rw[←pwA]at b1;have b2:=zvk b1 (n:=n) (by omega) (by omega) hp (pwF (by omega) (by omega));have c1:=x135 w ⟨⟨q1,q2,q3⟩,⟨q4,q5,q6⟩,q7⟩ hx3.1.ri bq.1.ri p;have c2:=zwe n (by omega);have c3:=x132 _ _ b1.1.ri (yz (n:=n) (by omega)).ri p;have c4:=qad s _ hx4.ri b2.1.ri p;have S4:=zfa s (ym (zac w ⟨⟨q1,q2,q3⟩,⟨q4,q5,q6⟩,q7⟩ p) (whI n) p) p;generalize zac w ⟨⟨q1,q2,q3⟩,⟨q4,q5,q6⟩,q7⟩ p=M at*;generalize whI n=W at*;generalize ym M W p=D at*;generalize uk s D p=S at*;have hb3:bI (pw (2-((n+2:Nat):Int))) M:=by
    have e:(2:Int)-n+(-1-1)=2-((n+2:Nat):Int):=by omega
    rwa [e]at b1
   clear b1 b2 hx3 hx4 hz hR hE cz;obtain⟨⟨w1,w2,w3⟩,⟨w4,w5,w6⟩,w7⟩:=w;obtain⟨⟨s1,s2,s3⟩,⟨s4,s5,s6⟩,s7⟩:=s;obtain⟨⟨m1,m2,m3⟩,⟨m4,m5,m6⟩,m7⟩:=M;obtain⟨⟨v1,v2,v3⟩,⟨v4,v5,v6⟩,v7⟩:=W;obtain⟨⟨d1,d2,d3⟩,⟨d4,d5,d6⟩,d7⟩:=D;obtain⟨⟨u1,u2,u3⟩,⟨u4,u5,u6⟩,u7⟩:=S;have c5:Fn 308 [] [.agg [.int .i64 p],.agg [.bool w1,.sl .u32 w2,.int .i64 w3,.bool w4,.sl .u32 w5,.int .i64 w6,.bool w7]] (.bool false) []:=c5;have c1:Fn 306 G0 [.agg [.int .i64 p],.agg [.bool w1,.sl .u32 w2,.int .i64 w3,.bool w4,.sl .u32 w5,.int .i64 w6,.bool w7],.agg [.bool q1,.sl .u32 q2,.int .i64 q3,.bool q4,.sl .u32 q5,.int .i64 q6,.bool q7]] (.agg [.bool m1,.sl .u32 m2,.int .i64 m3,.bool m4,.sl .u32 m5,.int .i64 m6,.bool m7]) G0:=c1;have c2:Fn 152 G0 [.int .i64 n] (.agg [.bool v1,.sl .u32 v2,.int .i64 v3,.bool v4,.sl .u32 v5,.int .i64 v6,.bool v7]) G0:=c2;have c3:Fn 305 G0 [.agg [.int .i64 p],.agg [.bool m1,.sl .u32 m2,.int .i64 m3,.bool m4,.sl .u32 m5,.int .i64 m6,.bool m7],.agg [.bool v1,.sl .u32 v2,.int .i64 v3,.bool v4,.sl .u32 v5,.int .i64 v6,.bool v7]] (.agg [.bool d1,.sl .u32 d2,.int .i64 d3,.bool d4,.sl .u32 d5,.int .i64 d6,.bool d7]) G0:=c3;have c4:Fn 307 G0 [.agg [.int .i64 p],.agg [.bool s1,.sl .u32 s2,.int .i64 s3,.bool s4,.sl .u32 s5,.int .i64 s6,.bool s7],.agg [.bool d1,.sl .u32 d2,.int .i64 d3,.bool d4,.sl .u32 d5,.int .i64 d6,.bool d7]] (.agg [.bool u1,.sl .u32 u2,.int .i64 u3,.bool u4,.sl .u32 u5,.int .i64 u6,.bool u7]) G0:=c4;refine gZn c5 ?_;conv=>whnf
   refine gZc c1 ?_;conv=>whnf
   refine gZc c2 ?_;conv=>whnf
   refine gZc c3 ?_;conv=>whnf
   refine gZc c4 ?_;conv=>whnf
   (refine⟨by kernel_rfl,by kernel_rfl,?_⟩;(conv=>whnf))
   refine⟨(f,n+2,⟨⟨m1,m2,m3⟩,⟨m4,m5,m6⟩,m7⟩,⟨⟨u1,u2,u3⟩,⟨u4,u5,u6⟩,u7⟩),⟨by simp only;omega,by simp only;omega,by simp only;omega,hb3,S4,hx5⟩,by show f<f+1;omega,?_⟩
   ((conv=>whnf);refine And.intro ?_ ?_;repeat' first|refine lc ?_ ?_|exact la0|exact lr rfl|exact ln0|refine lh1 ?_ ?_|exact lh0|exact bf0|exact bd0|refine bc0 ?_|exact bm0 rfl|exact bb0 rfl|exact bg0 rfl|exact li0 rfl|refine lg0 ?_|refine lt0 ?_|fail)
   exact ai0 (by rw[wI (by simp only;omega)];simp only;omega)
def l2I (p:Int):Iv:=qm (loI (ym (whI 1) (whI 3) (guP p 16)) (guP p 16)) p
theorem x136 (p:Int) (hp:8<=p/\p<=512):Fn 383 G0 [.int .i64 p] (.agg (ivC (l2I p))) G0:=by
 have hg:=zq9 hp (m:=16) (by decide);have c0:=x128 p 16 (by omega) (by decide);have c1:=zwe 1 (by decide);have c2:=zwe 3 (by decide);have c3:=x132 _ _ (yz (n:=1) (by decide)).ri (yz (n:=3) (by decide)).ri (guP p 16);have c4:=x134 _ (wc hg) _ hg;have c5:=qf6 _ (qhv (ym (whI 1) (whI 3) (guP p 16)) (guP p 16)).ri p;show Fn 383 G0 [.int .i64 p] (.agg (ivC (qm (loI (ym (whI 1) (whI 3) (guP p 16)) (guP p 16)) p))) G0;generalize qm (loI (ym (whI 1) (whI 3) (guP p 16)) (guP p 16)) p=R at*;generalize loI (ym (whI 1) (whI 3) (guP p 16)) (guP p 16)=L at*;generalize ym (whI 1) (whI 3) (guP p 16)=D at*;generalize guP p 16=g at*;generalize whI 1=V at*;generalize whI 3=W at*;obtain⟨⟨v1,v2,v3⟩,⟨v4,v5,v6⟩,v7⟩:=V;obtain⟨⟨w1,w2,w3⟩,⟨w4,w5,w6⟩,w7⟩:=W;obtain⟨⟨d1,d2,d3⟩,⟨d4,d5,d6⟩,d7⟩:=D;obtain⟨⟨l1,l2,l3⟩,⟨l4,l5,l6⟩,l7⟩:=L;obtain⟨⟨r1,r2,r3⟩,⟨r4,r5,r6⟩,r7⟩:=R;have c1:Fn 152 G0 [.int .i64 1] (.agg [.bool v1,.sl .u32 v2,.int .i64 v3,.bool v4,.sl .u32 v5,.int .i64 v6,.bool v7]) G0:=c1;have c2:Fn 152 G0 [.int .i64 3] (.agg [.bool w1,.sl .u32 w2,.int .i64 w3,.bool w4,.sl .u32 w5,.int .i64 w6,.bool w7]) G0:=c2;have c3:Fn 305 G0 [.agg [.int .i64 g],.agg [.bool v1,.sl .u32 v2,.int .i64 v3,.bool v4,.sl .u32 v5,.int .i64 v6,.bool v7],.agg [.bool w1,.sl .u32 w2,.int .i64 w3,.bool w4,.sl .u32 w5,.int .i64 w6,.bool w7]] (.agg [.bool d1,.sl .u32 d2,.int .i64 d3,.bool d4,.sl .u32 d5,.int .i64 d6,.bool d7]) G0:=c3;have c4:Fn 382 G0 [.agg [.int .i64 g],.agg [.bool d1,.sl .u32 d2,.int .i64 d3,.bool d4,.sl .u32 d5,.int .i64 d6,.bool d7]] (.agg [.bool l1,.sl .u32 l2,.int .i64 l3,.bool l4,.sl .u32 l5,.int .i64 l6,.bool l7]) G0:=c4;have c5:Fn 154 G0 [.agg [.bool l1,.sl .u32 l2,.int .i64 l3,.bool l4,.sl .u32 l5,.int .i64 l6,.bool l7],.int .i64 p] (.agg [.bool r1,.sl .u32 r2,.int .i64 r3,.bool r4,.sl .u32 r5,.int .i64 r6,.bool r7]) G0:=c5;refine fnT hT6 hmx Tryz.func383 rfl rfl (ex:= []) ?_;conv=>whnf
 refine brI (fun h=>?_) (fun h=>?_)
 ·have h:=of_decide_eq_true h;omega
 conv=>whnf
 refine brI (fun h=>?_) (fun h=>?_)
 ·have h:=of_decide_eq_true h;omega
 conv=>whnf
 refine gZn c0 ?_;conv=>whnf
 refine gZc c1 ?_;conv=>whnf
 refine gZc c2 ?_;conv=>whnf
 refine gZc c3 ?_;conv=>whnf
 refine gZc c4 ?_;conv=>whnf
 refine gZc c5 ?_;conv=>whnf
 (refine⟨by kernel_rfl,by kernel_rfl,?_⟩;(conv=>whnf))
 exact⟨lr rfl,leG⟩
def lmI (d:Dy) (g:Int):Iv:=wh (qm (qp d) g) (-(zg d))
def lzI (d:Dy) (g:Int):Iv:=ym (uk (lmI d g) (whI (-1)) g) (uk (lmI d g) (whI 1) g) g
def lnI (d:Dy) (p:Int):Iv:=if qt d (wx 1)=0 then⟨d0,d0,false⟩else
 qm (uk (loI (lzI d (guP p 40)) (guP p 40)) (zac (whI (zg d)) (l2I (guP p 40)) (guP p 40)) (guP p 40)) p
theorem zym (d:Dy) (p:Int):CI (lnI d p):=by
 unfold lnI;split
 ·exact .inr ⟨rfl,qf,qf⟩
 ·exact zf2 p
theorem qft {d:Dy} (hd:VD d) (hs:0<wl d) (g:Int):inB (pw (-1)) (pw 0) (lmI d g):=by
 have hn:nm d≠0:=fun c=>by unfold wl at hs;rw[if_pos c]at hs;omega
 have hneg:d.neg=false:=by
  unfold wl at hs;rw[if_neg hn]at hs
  cases h:d.neg with
  |true=>rw[h]at hs;simp at hs
  |false=>rfl
 have ht:zg d=bl (nm d)+d.e:=by unfold zg;rw[if_neg hn]
 have hv:dv d=vN (nm d) d.e:=by unfold dv;rw[hneg];rfl
 have h1:=zbb (n:=nm d) (e:=d.e) (t:=zg d) (by omega);have h2:=ue (n:=nm d) (e:=d.e) (t:=zg d-1) (by omega) hn;rw[←hv]at h1 h2;have he:=hd.exp;have hbl:1<=bl (nm d):=by
  have:bl (nm d)≠0:=fun c=>hn (xn.1 c)
  omega
 have hpt:inB (pw (zg d-1)) (pw (zg d)) (qp d):=⟨.inl (zrk hd),.inr ⟨h2,qn h1⟩⟩;have hr:=zs1 hpt (p:=g) (.inl (pwF (by omega) (by omega))) (by
  by_cases hbig:zg d<16384
  ·exact .inl (.inl (pwF (by omega) hbig))
  ·exact .inr (zei.2 (by omega)))
 have:=zss hr (-(zg d));rw[←pwA,←pwA,show zg d-1+ -(zg d)= -1 by omega,show zg d+ -(zg d)=0 by omega]at this;exact this
theorem qd5 (n:Int) (h: -4611686018427387904<=n/\n<=4611686018427387904):inB (n:Rat) (n:Rat) (whI n):=by
 have e:dv (whI n).lo =(n:Rat):=jr n;have e':dv (whI n).hi =(n:Rat):=jr n;exact⟨.inl (yz h),.inr (by rw[e,e'];exact⟨qA,qA⟩)⟩
theorem lz_in {d:Dy} (hd:VD d) (hs:0<wl d) {g:Int} (hg:pcB g=true):bI (pw (-1)) (uk (lmI d g) (whI (-1)) g)/\inB 1 (pw 1) (uk (lmI d g) (whI 1) g):=by
 have h:=qft hd hs g;have ph:pw (-1)=1/2:=by decide+kernel
 have p0:pw 0=1:=rfl;have p1:pw 1=2:=by decide+kernel
 have F1:inF g.toNat (pw (-1)):=pwF (by decide) (by decide);have F0:inF g.toNat (pw 0):=pwF (by decide) (by decide);have F2:inF g.toNat (pw 1):=pwF (by decide) (by decide);have n1:((-1:Int):Rat)= -1:=rfl;have n2:((1:Int):Rat)=1:=rfl;have w1:=qd5 (-1) (by decide);have w2:=qd5 1 (by decide);rw[n1]at w1;rw[n2]at w2;exact⟨zvo h w1 hg (by rw[ph];decide+kernel) (by rw[ph,p0];decide+kernel) (.inr (by rw[Rat.neg_neg];exact F1)) (.inl F1),
  zvo h w2 hg (by rw[ph];decide+kernel) (by rw[p0,p1];decide+kernel) (.inl (by rw[←p0];exact F0)) (.inl F2)⟩
theorem x88 {d:Dy} (hd:VD d) (hs:0<wl d) (p:Int) (hp:8<=p/\p<=512):Fn 345 G0 [.agg (dyC d),.int .i64 p] (.agg (ivC (lnI d p))) G0:=by
 have c78:=v77 1 (by decide);have c55:=v81 hd (ju 1 (by decide));have hR:lnI d p=if qt d (wx 1)=0 then⟨d0,d0,false⟩else qm (uk (loI (lzI d (guP p 40)) (guP p 40)) (zac (whI (zg d)) (l2I (guP p 40)) (guP p 40)) (guP p 40)) p:=rfl
 generalize lnI d p=R at*;by_cases h0:qt d (wx 1)=0
 ·rw[if_pos h0]at hR;subst hR;rw[h0]at c55;generalize wx 1=o at*;clear hd hs h0;refine fnT hT6 hmx Tryz.func345 rfl rfl (ex:= []) ?_;conv=>whnf
  refine gZc c78 ?_;conv=>whnf
  refine gZn c55 ?_;conv=>whnf
  (refine⟨by kernel_rfl,by kernel_rfl,?_⟩;(conv=>whnf))
  exact⟨lg0 (lc (lr rfl) (lc (li0 rfl) (lc (lr rfl) (lc (lr rfl) (lc (li0 rfl) (lc (lr rfl) (lc (lr rfl) ln0))))))),leG⟩
 rw[if_neg h0]at hR;have hn:nm d≠0:=fun c=>by unfold wl at hs;rw[if_pos c]at hs;omega
 have htb: -100000<=zg d/\zg d<=100000:=by
  have:=hd.exp;have:=hd.bits;unfold zg;rw[if_neg hn];omega
 have hg:=zq9 hp (m:=40) (by decide);have hg8:8<=guP p 40/\guP p 40<=512:=by unfold pcB at hg;simpa using hg
 obtain⟨b1,b2⟩:=lz_in hd hs hg;have b3:=qc5 b1 b2 hg (pwF (by decide) (by decide));have hlm:=qft hd hs (guP p 40);have c0:=x128 p 40 (by omega) (by decide);have c1:=zn6 hd;have c2:=qdu hd;have c3:=qf6 (qp d) (zrk hd).ri (guP p 40);have c4:=i191 (qm (qp d) (guP p 40)) (zf2 _).ri (-(zg d));have c5:=zwe (-1) (by decide);have c6:=qad (lmI d (guP p 40)) (whI (-1)) hlm.1.ri (yz (n:= -1) (by decide)).ri (guP p 40);have c7:=zwe 1 (by decide);have c8:=qad (lmI d (guP p 40)) (whI 1) hlm.1.ri (yz (n:=1) (by decide)).ri (guP p 40);have c9:=x132 _ _ b1.1.ri b2.1.ri (guP p 40);have c10:=x134 _ b3 _ hg;have c11:=zwe (zg d) (by omega);have c12:=x136 (guP p 40) hg8;have c13:=x135 (whI (zg d)) (l2I (guP p 40)) (yz (n:=zg d) (by omega)).ri (zf2 _).ri (guP p 40);have c14:=qad _ _ (qhv (lzI d (guP p 40)) (guP p 40)).ri (zv0 (whI (zg d)) (l2I (guP p 40)) (guP p 40)).ri (guP p 40);have c15:=qf6 _ (zfa (loI (lzI d (guP p 40)) (guP p 40)) (zac (whI (zg d)) (l2I (guP p 40)) (guP p 40)) (guP p 40)).ri p;rw[←hR]at c15;have hw:IntKind.i64.wrap (0-zg d)= -(zg d):=by rw[wI (by omega)];omega
 clear hR b1 b2 b3 hlm;unfold lzI lmI at*;generalize uk (loI (ym (uk (wh (qm (qp d) (guP p 40)) (-(zg d))) (whI (-1)) (guP p 40)) (uk (wh (qm (qp d) (guP p 40)) (-(zg d))) (whI 1) (guP p 40)) (guP p 40)) (guP p 40)) (zac (whI (zg d)) (l2I (guP p 40)) (guP p 40)) (guP p 40)=I15 at*;generalize loI (ym (uk (wh (qm (qp d) (guP p 40)) (-(zg d))) (whI (-1)) (guP p 40)) (uk (wh (qm (qp d) (guP p 40)) (-(zg d))) (whI 1) (guP p 40)) (guP p 40)) (guP p 40)=I14 at*;generalize ym (uk (wh (qm (qp d) (guP p 40)) (-(zg d))) (whI (-1)) (guP p 40)) (uk (wh (qm (qp d) (guP p 40)) (-(zg d))) (whI 1) (guP p 40)) (guP p 40)=I13 at*;generalize zac (whI (zg d)) (l2I (guP p 40)) (guP p 40)=I12 at*;generalize uk (wh (qm (qp d) (guP p 40)) (-(zg d))) (whI (-1)) (guP p 40)=I11 at*;generalize uk (wh (qm (qp d) (guP p 40)) (-(zg d))) (whI 1) (guP p 40)=I10 at*;generalize wh (qm (qp d) (guP p 40)) (-(zg d))=I9 at*;generalize qm (qp d) (guP p 40)=I8 at*;generalize qp d=I7 at*;generalize whI (-1)=I6 at*;generalize whI 1=I5 at*;generalize whI (zg d)=I4 at*;generalize l2I (guP p 40)=I3 at*;generalize guP p 40=g at*;generalize zg d=t at*;generalize wx 1=o at*;generalize qt d o=C at*;clear hd hs hn;refine fnT hT6 hmx Tryz.func345 rfl rfl (ex:= []) ?_;conv=>whnf
 refine gZc c78 ?_;conv=>whnf
 refine gZn c55 ?_;conv=>whnf
 (refine⟨by kernel_rfl,by kernel_rfl,?_⟩;(conv=>whnf))
 refine brI (fun k1=>?_) (fun _=>?_)
 ·have k1:(C==0)=true:=k1;exact absurd (by simpa using k1) h0
 conv=>whnf
 refine gZn c0 ?_;conv=>whnf
 refine gZn c1 ?_;conv=>whnf
 refine gZn c2 ?_;conv=>whnf
 refine gZc c3 ?_;conv=>whnf
 rw[hw];refine gZc c4 ?_;conv=>whnf
 (refine⟨by kernel_rfl,by kernel_rfl,?_⟩;(conv=>whnf))
 refine gZc c5 ?_;conv=>whnf
 refine gZc c6 ?_;conv=>whnf
 refine gZc c7 ?_;conv=>whnf
 refine gZc c8 ?_;conv=>whnf
 refine gZc c9 ?_;conv=>whnf
 (refine⟨by kernel_rfl,by kernel_rfl,?_⟩;(conv=>whnf))
 refine gZc c10 ?_;conv=>whnf
 refine gZc c11 ?_;conv=>whnf
 refine gZc c12 ?_;conv=>whnf
 refine gZc c13 ?_;conv=>whnf
 refine gZc c14 ?_;conv=>whnf
 refine gZc c15 ?_;conv=>whnf
 (refine⟨by kernel_rfl,by kernel_rfl,?_⟩;(conv=>whnf))
 exact⟨lr rfl,leG⟩
def zrp (x:Iv) (p:Int):Iv:=if ftB x p=true/\0<wl x.lo then edI (lnI x.lo p) (lnI x.hi p)else wI0
theorem qhu (x:Iv) (p:Int):CI (zrp x p):=by
 unfold zrp;split
 ·exact zyn (zym _ _) (zym _ _)
 ·exact zh0
theorem x34 (x:Iv) (hx:RI x) (p:Int):Fn 269 G0 [.agg (ivC x),.int .i64 p] (.agg (ivC (zrp x p))) G0:=by
 have h84:=x84 x hx p;have h25:=i25;rw[e25]at h25;have hR:zrp x p=if ftB x p=true/\0<wl x.lo then edI (lnI x.lo p) (lnI x.hi p)else wI0:=rfl
 generalize zrp x p=R at*;by_cases hf:ftB x p=true
 rotate_left
 ·rw[if_neg fun c=>hf c.1]at hR;subst hR;rw[show ftB x p=false by simpa using hf]at h84;clear hf hx;refine fnT hT6 hmx Tryz.func269 rfl rfl (ex:= []) ?_;conv=>whnf
  refine gZn h84 ?_;conv=>whnf
  refine gZn h25 ?_;conv=>whnf
  exact⟨lr rfl,leG⟩
 rw[hf]at h84;have hf':=hf;unfold ftB at hf';rw[Bool.and_eq_true]at hf';have k:=(zp hx).1 hf'.1;have hp8:8<=p/\p<=512:=by have:=hf'.2;unfold pcB at this;simpa using this
 have m1:=zrx k.lo;by_cases h1:0<wl x.lo
 rotate_left
 ·rw[if_neg fun c=>h1 c.2]at hR;subst hR;generalize wl x.lo=S at*;clear hf hf' k hx;refine fnT hT6 hmx Tryz.func269 rfl rfl (ex:= []) ?_;conv=>whnf
  refine gZn h84 ?_;conv=>whnf
  refine gZn m1 ?_;conv=>whnf
  refine brI (fun k1=>?_) (fun k1=>?_)
  ·conv=>whnf
   refine gZn h25 ?_;conv=>whnf
   exact⟨lr rfl,leG⟩
  ·have k1: ¬S<=0:=of_decide_eq_false k1;omega
 have h2:0<wl x.hi:=(uf x.hi).2.1.2 (by
  have:=(uf x.lo).2.1.1 h1;have:=k.dle;grind)
 rw[if_pos ⟨hf,h1⟩]at hR;have c1:=x88 k.lo h1 p hp8;have c2:=x88 k.hi h2 p hp8;have c3:=x86 (lnI x.lo p) (lnI x.hi p);rw[←hR]at c3;clear hR;generalize lnI x.lo p=A at*;generalize lnI x.hi p=B at*;generalize wl x.lo=S at*;clear hf hf' k hx h2;refine fnT hT6 hmx Tryz.func269 rfl rfl (ex:= []) ?_;conv=>whnf
 refine gZn h84 ?_;conv=>whnf
 refine gZn m1 ?_;conv=>whnf
 refine brI (fun k1=>?_) (fun _=>?_)
 ·have k1:S<=0:=of_decide_eq_true k1;omega
 conv=>whnf
 refine gZc c1 ?_;conv=>whnf
 refine gZc c2 ?_;conv=>whnf
 refine gZn c3 ?_;conv=>whnf
 (refine⟨by kernel_rfl,by kernel_rfl,?_⟩;(conv=>whnf))
 exact⟨lr rfl,leG⟩
end Go.Proofs.YtbolipecnhlnnaaGreatDoor
