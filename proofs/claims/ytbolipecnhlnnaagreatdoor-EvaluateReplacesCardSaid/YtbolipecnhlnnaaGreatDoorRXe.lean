/-
  Intervals that lie within a bound: products, quotients, squares, halves, roundings; small ones.
-/
import Derived.Test.YtbolipecnhlnnaaGreatDoorRXa
import Derived.Scope
import Derived.ControlIn
set_option linter.unusedVariables false
set_option linter.unusedSimpArgs false
open Rat renaming mul_nonneg->q2,le_trans->q3,neg_neg->q4,le_of_lt->q5,le_refl->q6
namespace Go.Proofs.YtbolipecnhlnnaaGreatDoor
open Go Go.Sx
set_option maxHeartbeats 2000000
def bI (B:Rat) (x:Iv):Prop:=VI x/\(x.all=true\/(-B<=dv x.lo/\dv x.hi<=B))
theorem bI_w (B:Rat):bI B wI0:=⟨.inr rfl,.inl rfl⟩
theorem qe7 {a b:Int} (h:a<b):pw a<pw b:=Rat.not_le.1 fun c=>by have:=zei.1 c;omega
theorem pwF {p:Nat} {t:Int} (h1: -16384<=t) (h2:t<16384):inF p (pw t):=⟨1,t,(zn5 t).symm,Nat.one_le_two_pow,h1,qe7 h2⟩
theorem zeh (t:Int):0<=pw t:=q5 (zcs t)
theorem zgi (t:Int):pw t*pw (-1)=pw (t-1):=by rw[←pwA];rfl
theorem zrk {d:Dy} (h:VD d):KI (qp d):=⟨rfl,h,h,xm.2 q6⟩
theorem zew {a b B C:Rat} (h1: -B<=a) (h2:a<=B) (h3: -C<=b) (h4:b<=C): -(B*C)<=a*b/\a*b<=B*C:=by
 have m1:=q2 (show 0<=B-a by grind) (show 0<=C+b by grind);have m2:=q2 (show 0<=B+a by grind) (show 0<=C-b by grind);have m3:=q2 (show 0<=B-a by grind) (show 0<=C-b by grind);have m4:=q2 (show 0<=B+a by grind) (show 0<=C+b by grind);constructor<;>grind
theorem zyi {p:Nat} {op:Rat->Rat->Rat} {dn up:Dy->Dy->Dy×Int} {x y:Iv} (f:F4 p op dn up x y) {b:Rat} (hb:inF p b) (h:qcg op x y (fun z=> -b<=z/\z<=b)) (ha:(kp dn up x y).all =false):
 -b<=dv (kp dn up x y).lo /\dv (kp dn up x y).hi <=b:=by
 obtain⟨_,_,h3,h4,_,_⟩:=zlu ha;obtain⟨a1,a2,a3,a4⟩:=h;have hn:Fp p (-b):= .inr (by rw[q4];exact hb);have hp:Fp p b:= .inl hb;exact⟨h3 (-b) (f.rt1.1.2 (-b) hn a1.1).2 (f.rt2.1.2 (-b) hn a2.1).2 (f.rt3.1.2 (-b) hn a3.1).2 (f.rt4.1.2 (-b) hn a4.1).2,
  h4 b (f.rt1.2.2 b hp a1.2).2 (f.rt2.2.2 b hp a2.2).2 (f.rt3.2.2 b hp a3.2).2 (f.rt4.2.2 b hp a4.2).2⟩
theorem bI.ends {B:Rat} {x:Iv} (h:bI B x) (k:KI x):(-B<=dv x.lo/\dv x.lo<=B)/\(-B<=dv x.hi/\dv x.hi<=B):=by
 rcases h.2 with c|⟨c1,c2⟩
 ·rw[k.all]at c;cases c
 ·have:=k.dle;exact⟨⟨c1,q3 this c2⟩,⟨q3 c1 this,c2⟩⟩
theorem zzw {B C:Rat} {x y:Iv} (hx:bI B x) (hy:bI C y) {p:Int} (hp:pcB p=true) (hF:inF p.toNat (B*C)):bI (B*C) (zac x y p):=by
 refine⟨zlc hx.1 hy.1 hp,?_⟩
 cases ha:(zac x y p).all with
 |true=>exact .inl rfl
 |false=>
  right;by_cases hk:KI x/\KI y
  ·rw[zzb hk.1 hk.2 hp]at ha⊢;obtain⟨⟨a1,a2⟩,⟨a3,a4⟩⟩:=hx.ends hk.1;obtain⟨⟨b1,b2⟩,⟨b3,b4⟩⟩:=hy.ends hk.2;exact zyi (zzc hk.1 hk.2 (qr hp)) hF ⟨zew a1 a2 b1 b2,zew a1 a2 b3 b4,zew a3 a4 b1 b2,zew a3 a4 b3 b4⟩ ha
  ·rw[qfh hx.1.ri hy.1.ri hk]at ha;cases ha
def whI (n:Int):Iv:=qp (wx n)
theorem yz {n:Int} (h: -4611686018427387904<=n/\n<=4611686018427387904):KI (whI n):=zrk (ju n h)
theorem zqz {n:Int} (h:1<=n):(1:Rat)<=(n:Rat):=by
 have:=(Rat.intCast_le_intCast (a:=1) (b:=n)).2 h;simpa using this
theorem zii {n:Rat} (h:1<=n): -1<=n⁻¹ /\n⁻¹ <=1:=by
 have h0:0<n:=by grind
 have hi:0<n⁻¹ :=Rat.inv_pos.2 h0;have hm:=Rat.mul_inv_cancel n (by grind);have:=q2 (show 0<=n-1 by grind) (q5 hi);constructor<;>grind
theorem zvk {B:Rat} {x:Iv} (hx:bI B x) {n:Int} (h1:1<=n) (h2:n<=4611686018427387904) {p:Int} (hp:pcB p=true) (hF:inF p.toNat B):bI B (ym x (whI n) p):=by
 have kn:=yz (n:=n) (by omega);have hn:=zqz h1;have e:dv (whI n).lo =(n:Rat):=jr n;have e':dv (whI n).hi =(n:Rat):=jr n;have hs:0<dv (whI n).lo \/dv (whI n).hi <0:= .inl (by rw[e];grind);refine⟨zbt hx.1 (.inl kn) hp,?_⟩
 cases ha:(ym x (whI n) p).all with
 |true=>exact .inl rfl
 |false=>
  right;by_cases hk:KI x
  ·rw[zkg hk kn hs hp]at ha⊢;obtain⟨⟨a1,a2⟩,⟨a3,a4⟩⟩:=hx.ends hk;obtain⟨i1,i2⟩:=zii hn;have q: ∀a:Rat,-B<=a->a<=B-> -B<=a/(n:Rat)/\a/(n:Rat)<=B:=fun a c1 c2=>by
    have:=zew c1 c2 i1 i2
    rwa [Rat.mul_one,←Rat.div_def]at this
   refine zyi (zpt hk kn hs (qr hp)) hF ?_ ha;unfold qcg;rw[e,e'];exact⟨q _ a1 a2,q _ a1 a2,q _ a3 a4,q _ a3 a4⟩
  ·rw[zu2 hx.1.ri kn.ri fun c=>hk c.1]at ha;cases ha
theorem zyp {x:Iv} (h:CI x) (hd:x.all=false->dv x.lo<=dv x.hi):VI x:=by
 cases ha:x.all with
 |true=>
  rcases h with rfl|⟨c,_⟩
  ·exact .inr rfl
  ·rw[ha]at c;cases c
 |false=>exact .inl (zrl h ha (hd ha))
theorem zyb {B:Rat} {x:Iv} (hx:bI B x) {p:Int} (hF:inF p.toNat B):bI B (qm x p):=by
 unfold qm;split
 ·rename_i c;obtain⟨c1,hp⟩:=c;have k:=(zp hx.1.ri).1 c1;have R1:=jm k.lo (qr hp);have R2:=jm k.hi (qr hp);obtain⟨⟨a1,a2⟩,⟨a3,a4⟩⟩:=hx.ends k;refine⟨zqr R1 R2 (kw (wg _ _ _ (qr hp)) (wg _ _ _ (qr hp))) k.dle,?_⟩
  cases ha:(wa (qo x.lo p.toNat false) (qo x.hi p.toNat true)).all with
  |true=>exact .inl rfl
  |false=>
   right;rw[yg ha];exact⟨(R1.1.2 (-B) (.inr (by rw[q4];exact hF)) a1).2,(R2.2.2 B (.inl hF) a4).2⟩
 ·exact bI_w B
theorem zb0 {d:Dy} {k:Int} (h:(vj d k).2=0):dv (vj d k).1=dv d*pw k:=by
 unfold vj at h⊢;split at h
 ·cases h
 ·rename_i c;rw[if_neg c];unfold ckN at h⊢;split at h
  ·rename_i c2;rw[if_pos c2,zl3];have e:vN (nm d) (d.e+k)=vN (nm d) d.e*pw k:=by unfold vN;rw[pwA,Rat.mul_assoc]
   rw[e];unfold dv;split
   ·grind
   ·rfl
  ·cases h
theorem zp0 {B:Rat} {x:Iv} (hx:bI B x) (k:Int):bI (B*pw k) (wh x k):=by
 unfold wh;split
 ·rename_i c1;have kx:=(zp hx.1.ri).1 c1;obtain⟨⟨a1,a2⟩,⟨a3,a4⟩⟩:=hx.ends kx;have hc:=kw (zck x.lo k) (zck x.hi k)
  cases ha:(wa (vj x.lo k) (vj x.hi k)).all with
  |true=>exact⟨zyp hc (fun c=>by rw[ha]at c;cases c),.inl ha⟩
  |false=>
   have e:=yg ha;obtain⟨o1,o2⟩:=uw.1 ha;have e1:dv (wa (vj x.lo k) (vj x.hi k)).lo =dv x.lo*pw k:=by rw[e];exact zb0 o1
   have e2:dv (wa (vj x.lo k) (vj x.hi k)).hi =dv x.hi*pw k:=by rw[e];exact zb0 o2
   refine⟨zyp hc fun _=>by rw[e1,e2];exact qv kx.dle (zeh k),.inr ?_⟩;rw[e1,e2];exact⟨by rw[←Rat.neg_mul];exact qv a1 (zeh k),qv a4 (zeh k)⟩
 ·exact bI_w _
def sqI (x:Iv) (p:Int):Iv:=if kB x=true/\pcB p=true then wa (jv (zb3 x) (zb3 x) p.toNat false) (jv (jx x) (jx x) p.toNat true)else wI0
theorem zzd {B:Rat} {x:Iv} (hx:bI B x) (k:KI x):0<=dv (jx x)/\dv (jx x)<=B/\(jx x).neg =false:=by
 obtain⟨⟨a1,a2⟩,⟨a3,a4⟩⟩:=hx.ends k;have hm:jx x=yf (za7 x.lo) (za7 x.hi):=rfl;obtain⟨_,_,h3⟩:=zgm (za7 x.lo) (za7 x.hi);rw[hm];rcases h3 with e|e<;>rw[e,zpp]
 ·exact⟨wd _,by unfold qx;split<;>grind,rfl⟩
 ·exact⟨wd _,by unfold qx;split<;>grind,rfl⟩
theorem qdf {x:Iv} (p:Int):CI (sqI x p):=by
 unfold sqI;split
 ·rename_i h;exact kw (kb _ _ _ _ (qr h.2)) (kb _ _ _ _ (qr h.2))
 ·exact zh0
theorem bI_sq {B:Rat} {x:Iv} (hx:bI B x) {p:Int} (hF:inF p.toNat (B*B)):bI (B*B) (sqI x p):=by
 unfold sqI;split
 ·rename_i c;obtain⟨c1,hp⟩:=c;have k:=(zp hx.1.ri).1 c1;obtain⟨g1,g2,_⟩:=zzd hx k;obtain⟨l1,l2,l3⟩:=zhh k q6 k.dle;have l4:=q3 l2 l3;have R1:=za0 (ze6 k) (ze6 k) (qr hp);have R2:=za0 (za4 k) (za4 k) (qr hp);have s1:dv (zb3 x)*dv (zb3 x)<=dv (jx x)*dv (jx x):=zi8 l1 l4;have s2:dv (jx x)*dv (jx x)<=B*B:=zi8 g1 g2;have s0:0<=dv (zb3 x)*dv (zb3 x):=q2 l1 l1;refine⟨zqr R1 R2 (kw (kb _ _ _ _ (qr hp)) (kb _ _ _ _ (qr hp))) s1,?_⟩
  cases ha:(wa (jv (zb3 x) (zb3 x) p.toNat false) (jv (jx x) (jx x) p.toNat true)).all with
  |true=>exact .inl rfl
  |false=>
   right;rw[yg ha];refine⟨?_,(R2.2.2 (B*B) (.inl hF) s2).2⟩;exact(R1.1.2 (-(B*B)) (.inr (by rw[q4];exact hF)) (by grind)).2
 ·exact bI_w _
def smB (x:Iv) (p:Int):Bool:= !kB x||(decide (wl (jx x)=0)||decide (zg (jx x)<= -p))
theorem qeq {x:Iv} {p t:Int} (hx:bI (pw t) x) (h:smB x p=false): -p<=t:=by
 unfold smB at h;rw[Bool.or_eq_false_iff,Bool.or_eq_false_iff]at h;obtain⟨h1,h2,h3⟩:=h;have k:=(zp hx.1.ri).1 (by simpa using h1);have h2:=of_decide_eq_false h2;have h3:=of_decide_eq_false h3;obtain⟨g1,g2,g3⟩:=zzd hx k;have hn:nm (jx x)≠0:=fun c=>h2 (by unfold wl;rw[if_pos c])
 unfold zg at h3;rw[if_neg hn]at h3;have hv:dv (jx x)=vN (nm (jx x)) (jx x).e :=by unfold dv;rw[g3];rfl
 have ht:=ue (n:=nm (jx x)) (e:=(jx x).e) (t:=(bl (nm (jx x)):Int)+(jx x).e -1) (by omega) hn;rw[←hv]at ht;have:=zei.1 (q3 ht g2);omega
theorem zq6:kB wI0=false:=rfl
set_option maxRecDepth 100000
set_option maxHeartbeats 8000000
theorem zwe (n:Int) (h: -4611686018427387904<=n/\n<=4611686018427387904):Fn 152 G0 [.int .i64 n] (.agg (ivC (whI n))) G0:=by
 have h78:=v77 n h;have h77:=qdu (ju n h);show Fn 152 G0 [.int .i64 n] (.agg (ivC (qp (wx n)))) G0;generalize wx n=d at*;obtain⟨d1,d2,d3⟩:=d;have h78:Fn 83 G0 [.int .i64 n] (.agg [.bool d1,.sl .u32 d2,.int .i64 d3]) G0:=h78;have h77:Fn 82 [] [.agg [.bool d1,.sl .u32 d2,.int .i64 d3]] (.agg [.bool d1,.sl .u32 d2,.int .i64 d3,.bool d1,.sl .u32 d2,.int .i64 d3,.bool false]) []:=h77;refine fnT hT6 hmx Tryz.func152 rfl rfl (ex:= []) ?_;conv=>whnf
 refine gZc h78 ?_;conv=>whnf
 refine gZn h77 ?_;conv=>whnf
 exact⟨lr rfl,leG⟩
def guP (p m:Int):Int:=min (p+m) 512
theorem x128 (p m:Int) (hp:0<=p/\p<=1000) (hm:0<=m/\m<=1000):Fn 153 [] [.int .i64 p,.int .i64 m] (.agg [.int .i64 (guP p m)]) []:=by
 refine fnT hT6 hmx Tryz.func153 rfl rfl (ex:= []) ?_;conv=>whnf
 exact⟨lg0 (lc (ai0 (by rw[wI (by omega)];unfold guP;rw[Int.min_def];split<;>split<;>omega)) ln0),lh0⟩
theorem x132 (x y:Iv) (hx:RI x) (hy:RI y) (p:Int):Fn 305 G0 [.agg [.int .i64 p],.agg (ivC x),.agg (ivC y)] (.agg (ivC (ym x y p))) G0:=by
 have h:=i85 x y hx hy p;generalize ym x y p=R at*;clear hx hy;refine fnT hT6 hmx Tryz.func305 rfl rfl (ex:= []) ?_;conv=>whnf
 refine gZc h ?_;conv=>whnf
 exact⟨lr rfl,leG⟩
theorem qad (x y:Iv) (hx:RI x) (hy:RI y) (p:Int):Fn 307 G0 [.agg [.int .i64 p],.agg (ivC x),.agg (ivC y)] (.agg (ivC (uk x y p))) G0:=by
 have h:=i82 x y hx hy p;generalize uk x y p=R at*;clear hx hy;refine fnT hT6 hmx Tryz.func307 rfl rfl (ex:= []) ?_;conv=>whnf
 refine gZc h ?_;conv=>whnf
 exact⟨lr rfl,leG⟩
theorem x135 (x y:Iv) (hx:RI x) (hy:RI y) (p:Int):Fn 306 G0 [.agg [.int .i64 p],.agg (ivC x),.agg (ivC y)] (.agg (ivC (zac x y p))) G0:=by
 have h:=i84 x y hx hy p;generalize zac x y p=R at*;clear hx hy;refine fnT hT6 hmx Tryz.func306 rfl rfl (ex:= []) ?_;conv=>whnf
 refine gZc h ?_;conv=>whnf
 exact⟨lr rfl,leG⟩
theorem zsn (d:Dy):wl d=0\/wl d=1\/wl d= -1:=by
 unfold wl;split
 ·exact .inl rfl
 ·split
  ·exact .inr (.inr rfl)
  ·exact .inr (.inl rfl)
theorem x202 (x:Iv) (hx:RI x) (p:Int) (hp:0<=p/\p<=1000):Fn 308 [] [.agg [.int .i64 p],.agg (ivC x)] (.bool (smB x p)) []:=by
 have h120:=i182 x hx;have hw:IntKind.i64.wrap (0-p)= -p:=by rw[wI (by omega)];omega
 have hR:smB x p=(!kB x||(decide (wl (jx x)=0)||decide (zg (jx x)<= -p))):=rfl;generalize smB x p=R at*;by_cases hk:kB x=true
 ·have k:=(zp hx).1 hk;rw[if_pos hk,hk]at h120;rw[hk,Bool.not_true,Bool.false_or]at hR;have vm:=za4 k;have h81:=zrx vm;have h127:=zn6 vm;have hs:=zsn (jx x);generalize jx x=M at*;generalize wl M=S at*;generalize zg M=t at*;clear hk k hx vm;rcases hs with rfl|rfl|rfl
  ·subst hR;refine fnT hT6 hmx Tryz.func308 rfl rfl (ex:= []) ?_;conv=>whnf
   refine gZn h120 ?_;conv=>whnf
   refine gZn h81 ?_;conv=>whnf
   (refine⟨by kernel_rfl,by kernel_rfl,?_⟩;(conv=>whnf))
   exact⟨lr rfl,lh0⟩
  ·refine fnT hT6 hmx Tryz.func308 rfl rfl (ex:= []) ?_;conv=>whnf
   refine gZn h120 ?_;conv=>whnf
   refine gZn h81 ?_;conv=>whnf
   refine gZn h127 ?_;conv=>whnf
   (refine⟨by kernel_rfl,by kernel_rfl,?_⟩;(conv=>whnf))
   exact⟨ab0 (by rw[hw,hR];rfl),lh0⟩
  ·refine fnT hT6 hmx Tryz.func308 rfl rfl (ex:= []) ?_;conv=>whnf
   refine gZn h120 ?_;conv=>whnf
   refine gZn h81 ?_;conv=>whnf
   refine gZn h127 ?_;conv=>whnf
   (refine⟨by kernel_rfl,by kernel_rfl,?_⟩;(conv=>whnf))
   exact⟨ab0 (by rw[hw,hR];rfl),lh0⟩
 ·have hk:kB x=false:=by simpa using hk
  rw[hk,if_neg (by simp)]at h120;rw[hk]at hR;subst hR;clear hk hx;refine fnT hT6 hmx Tryz.func308 rfl rfl (ex:= []) ?_;conv=>whnf
  refine gZn h120 ?_;conv=>whnf
  (refine⟨by kernel_rfl,by kernel_rfl,?_⟩;(conv=>whnf))
  exact⟨lr rfl,lh0⟩
def arI (x:Iv):Iv:=if kB x=true then⟨yw (jx x),jx x,false⟩else wI0
theorem zyo {x:Iv} (hx:RI x):CI (arI x):=by
 unfold arI;split
 ·rename_i h;have k:=(zp hx).1 h;exact .inr ⟨rfl,xo (za4 k),za4 k⟩
 ·exact zh0
theorem x203 (x:Iv) (hx:RI x):Fn 309 [] [.agg (ivC x)] (.agg (ivC (arI x))) []:=by
 have h120:=i182 x hx;have h25:=i25;rw[e25]at h25;have hR:arI x=if kB x=true then⟨yw (jx x),jx x,false⟩else wI0:=rfl
 generalize arI x=R at*;by_cases hk:kB x=true
 ·have k:=(zp hx).1 hk;rw[if_pos hk,hk]at h120;rw[if_pos hk]at hR;have vm:=za4 k;have h76:=qag vm;rw[show(if nm (jx x)=0 then d0 else⟨!(jx x).neg,(jx x).m,(jx x).e⟩)=yw (jx x)from rfl]at h76;generalize yw (jx x)=N at*;generalize jx x=M at*;subst hR;clear hk k hx vm;refine fnT hT6 hmx Tryz.func309 rfl rfl (ex:= []) ?_;conv=>whnf
  refine gZn h120 ?_;conv=>whnf
  refine gZn h76 ?_;conv=>whnf
  (refine⟨by kernel_rfl,by kernel_rfl,?_⟩;(conv=>whnf))
  exact⟨lr rfl,lh0⟩
 ·have hk:kB x=false:=by simpa using hk
  rw[hk,if_neg (by simp)]at h120;rw[if_neg (by rw[hk];simp)]at hR;subst hR;clear hk hx;refine fnT hT6 hmx Tryz.func309 rfl rfl (ex:= []) ?_;conv=>whnf
  refine gZn h120 ?_;conv=>whnf
  refine gZn h25 ?_;conv=>whnf
  exact⟨lr rfl,lh0⟩
theorem x200 (x:Iv) (h:RI x) (p:Int):Fn 227 G0 [.agg (ivC x),.int .i64 p] (.agg (ivC (sqI x p))) G0:=by
 have h79:=i137 x h;have h127:=zzj p;have h25:=i25;rw[e25]at h25;have hR:sqI x p=if kB x=true/\pcB p=true then wa (jv (zb3 x) (zb3 x) p.toNat false) (jv (jx x) (jx x) p.toNat true)else wI0:=rfl
 generalize sqI x p=R at*;have hA:zvp x=if kB x=true then⟨zb3 x,jx x,false⟩else wI0:=rfl
 by_cases hk:kB x=true
 ·rw[hA,if_pos hk]at h79;by_cases hp:pcB p=true
  ·rw[hp]at h127;rw[if_pos ⟨hk,hp⟩]at hR;have kx:=(zp h).1 hk;obtain⟨q,rfl,hq⟩:=kg.1 hp;rw[Int.toNat_natCast]at hR;have n1:=qdl (ze6 kx) (ze6 kx) q hq;have n2:=qdk (za4 kx) (za4 kx) q hq;have n3:=qdv (jv (zb3 x) (zb3 x) q false) (jv (jx x) (jx x) q true);rw[←hR]at n3;generalize jv (zb3 x) (zb3 x) q false=a at*;generalize jv (jx x) (jx x) q true=b at*;generalize zb3 x=g at*;generalize jx x=m at*;clear kx h hk hR hA;obtain⟨⟨a1,a2,a3⟩,e⟩:=a;obtain⟨⟨b1,b2,b3⟩,f⟩:=b;refine fnT hT6 hmx Tryz.func227 rfl rfl (ex:= []) ?_;conv=>whnf
   refine gZn h79 ?_;conv=>whnf
   refine gZn h127 ?_;conv=>whnf
   refine gZc n1 ?_;conv=>whnf
   refine gZc n2 ?_;conv=>whnf
   refine gZn n3 ?_;conv=>whnf
   exact⟨lr rfl,leG⟩
  ·rw[if_neg fun c=>hp c.2]at hR;rw[show pcB p=false by simpa using hp]at h127;subst hR;generalize zb3 x=g at*;generalize jx x=m at*;clear h hk hp hA;refine fnT hT6 hmx Tryz.func227 rfl rfl (ex:= []) ?_;conv=>whnf
   refine gZn h79 ?_;conv=>whnf
   refine gZn h127 ?_;conv=>whnf
   refine gZn h25 ?_;conv=>whnf
   exact⟨lr rfl,leG⟩
 ·rw[hA,if_neg hk]at h79;rw[if_neg fun c=>hk c.1]at hR;subst hR;clear h hk hA;refine fnT hT6 hmx Tryz.func227 rfl rfl (ex:= []) ?_;conv=>whnf
  refine gZn h79 ?_;conv=>whnf
  refine gZn h25 ?_;conv=>whnf
  exact⟨lr rfl,leG⟩
def edI (a b:Iv):Iv:=if a.all=true\/b.all=true then wI0 else⟨a.lo,b.hi,false⟩
theorem zyn {a b:Iv} (ha:CI a) (hb:CI b):CI (edI a b):=by
 unfold edI;split
 ·exact zh0
 ·rename_i h;rcases ha with rfl|⟨_,a1,_⟩
  ·exact absurd (.inl rfl) h
  ·rcases hb with rfl|⟨_,_,b1⟩
   ·exact absurd (.inr rfl) h
   ·exact .inr ⟨rfl,a1,b1⟩
theorem x86 (a b:Iv):Fn 67 [] [.agg (ivC a),.agg (ivC b)] (.agg (ivC (edI a b))) []:=by
 have h25:=i25;rw[e25]at h25;obtain⟨⟨a1,a2,a3⟩,⟨a4,a5,a6⟩,a7⟩:=a;obtain⟨⟨b1,b2,b3⟩,⟨b4,b5,b6⟩,b7⟩:=b;show Fn 67 [] [.agg [.bool a1,.sl .u32 a2,.int .i64 a3,.bool a4,.sl .u32 a5,.int .i64 a6,.bool a7],.agg [.bool b1,.sl .u32 b2,.int .i64 b3,.bool b4,.sl .u32 b5,.int .i64 b6,.bool b7]] _ []
 cases a7 with
 |true=>
  refine fnT hT6 hmx Tryz.func67 rfl rfl (ex:= []) ?_;conv=>whnf
  refine gZn h25 ?_;conv=>whnf
  exact⟨lr rfl,lh0⟩
 |false=>
  cases b7 with
  |true=>
   refine fnT hT6 hmx Tryz.func67 rfl rfl (ex:= []) ?_;conv=>whnf
   refine gZn h25 ?_;conv=>whnf
   exact⟨lr rfl,lh0⟩
  |false=>
   refine fnT hT6 hmx Tryz.func67 rfl rfl (ex:= []) ?_;conv=>whnf
   exact⟨lr rfl,lh0⟩
def ftB (x:Iv) (p:Int):Bool:=kB x&&pcB p
theorem kB_vi {x:Iv} (hx:RI x) (vx:VI x):kB x= !x.all:=by
 rcases vx with k|rfl
 ·rw[(zp hx).2 k,k.all];rfl
 ·rfl
theorem x84 (x:Iv) (hx:RI x) (p:Int):Fn 64 [] [.agg (ivC x),.int .i64 p] (.bool (ftB x p)) []:=by
 have h17:=i51 x hx;have hR:ftB x p=(kB x&&pcB p):=rfl;have hp:pcB p=true<->8<=p/\p<=512:=by unfold pcB;simp
 generalize ftB x p=R at*;by_cases ha:x.all=true
 ·have hk:kB x=false:=by
   by_cases c:kB x=true
   ·have:=(zp hx).1 c;rw[this.all]at ha;cases ha
   ·simpa using c
  rw[hk,Bool.false_and]at hR;subst hR;clear h17 hx hk;obtain⟨⟨x1,x2,x3⟩,⟨x4,x5,x6⟩,x7⟩:=x;obtain rfl:x7=true:=ha;show Fn 64 [] [.agg [.bool x1,.sl .u32 x2,.int .i64 x3,.bool x4,.sl .u32 x5,.int .i64 x6,.bool true],.int .i64 p] _ [];refine fnT hT6 hmx Tryz.func64 rfl rfl (ex:= []) ?_;conv=>whnf
  exact⟨lr rfl,lh0⟩
 have ha:x.all=false:=by simpa using ha
 by_cases hv:viB x=true
 ·have vx:=(zcx hx).1 hv;rw[hv]at h17;rw[kB_vi hx vx,ha,Bool.not_false,Bool.true_and]at hR;clear hv vx hx;obtain⟨⟨x1,x2,x3⟩,⟨x4,x5,x6⟩,x7⟩:=x;obtain rfl:x7=false:=ha;have h17:Fn 35 [] [.agg [.bool x1,.sl .u32 x2,.int .i64 x3,.bool x4,.sl .u32 x5,.int .i64 x6,.bool false]] (.bool true) []:=h17;show Fn 64 [] [.agg [.bool x1,.sl .u32 x2,.int .i64 x3,.bool x4,.sl .u32 x5,.int .i64 x6,.bool false],.int .i64 p] _ [];refine fnT hT6 hmx Tryz.func64 rfl rfl (ex:= []) ?_;conv=>whnf
  refine gZn h17 ?_;conv=>whnf
  refine brI (fun k1=>?_) (fun k1=>?_)
  ·have k1:8<=p:=of_decide_eq_true k1;conv=>whnf
   refine⟨ab0 ?_,lh0⟩;rw[hR,Bool.eq_iff_iff,decide_eq_true_eq,hp];exact⟨fun h=>⟨k1,h⟩,fun h=>h.2⟩
  ·have k1: ¬8<=p:=of_decide_eq_false k1;rw[show pcB p=false by rw[←Bool.not_eq_true,hp];omega]at hR;subst hR;conv=>whnf
   exact⟨lr rfl,lh0⟩
 ·have hk:kB x=false:=by
   by_cases c:kB x=true
   ·exact absurd ((zcx hx).2 (.inl ((zp hx).1 c))) hv
   ·simpa using c
  rw[hk,Bool.false_and]at hR;subst hR;rw[show viB x=false by simpa using hv]at h17;clear hv hx hk;obtain⟨⟨x1,x2,x3⟩,⟨x4,x5,x6⟩,x7⟩:=x;obtain rfl:x7=false:=ha;have h17:Fn 35 [] [.agg [.bool x1,.sl .u32 x2,.int .i64 x3,.bool x4,.sl .u32 x5,.int .i64 x6,.bool false]] (.bool false) []:=h17;show Fn 64 [] [.agg [.bool x1,.sl .u32 x2,.int .i64 x3,.bool x4,.sl .u32 x5,.int .i64 x6,.bool false],.int .i64 p] _ [];refine fnT hT6 hmx Tryz.func64 rfl rfl (ex:= []) ?_;conv=>whnf
  refine gZn h17 ?_;conv=>whnf
  exact⟨lr rfl,lh0⟩
def mdB (d:Dy):Bool:=decide (qt (za7 d) (wx 1000)<=0)
theorem x85 {d:Dy} (hd:VD d):Fn 65 G0 [.agg (dyC d)] (.bool (mdB d)) G0:=by
 have h125:=qea hd;have h78:=v77 1000 (by decide);have h55:=v81 (zec hd) (ju 1000 (by decide));have hR:mdB d=decide (qt (za7 d) (wx 1000)<=0):=rfl;generalize mdB d=R at*;generalize qt (za7 d) (wx 1000)=C at*;generalize za7 d=a at*;generalize wx 1000=t at*;clear hd;refine fnT hT6 hmx Tryz.func65 rfl rfl (ex:= []) ?_;conv=>whnf
 refine gZn h125 ?_;conv=>whnf
 refine gZc h78 ?_;conv=>whnf
 refine gZn h55 ?_;conv=>whnf
 exact⟨ab0 (by rw[hR]),leG⟩
theorem zso {P:Program} {T:Tab} {res:List ResultVar} {ex:List Nat} {r:AV} {H':Hp} {c b:Code} {σ:St} (e:c= .scope b) (h:SemOK P T res ex r H' b σ):SemOK P T res ex r H' c σ:=
 ⟨fun c0 a w Q hr hq=>by
  subst e;exact wpIn_wide.2 (wp_scope_straight (wpIn_wide.1 (h.sem c0 a w (Exit.noGoto Q) hr fun x τ a w hr hf=>by
   cases x with
   |normal=>exact hq _ τ a w hr hf
   |ret=>exact hq _ τ a w hr hf
   |exit _=>exact hf.elim
   |goto _=>exact hf.elim
   |panic _=>exact hf.elim
   |outgrown=>exact hf.elim)))⟩
theorem zsp {P:Program} {T:Tab} {res:List ResultVar} {ex:List Nat} {r:AV} {H':Hp} {c b:Code} {l:Nat} {σ:St} (e:c= .seq (.label l) b) (h:SemOK P T res ex r H' b σ):SemOK P T res ex r H' c σ:=
 ⟨fun c0 a w Q hr hq=>by
  subst e;exact wpIn_seq (wpIn_label (h.sem c0 a w Q hr hq))⟩
def qah:Code->Code
 | .scope b=>b
 | _=> .skip
def qai:Code->Code
 | .seq (.label _) b=>b
 | _=> .skip
def exG (y:Iv) (p:Int):Nat->Nat->Iv->Iv->Iv×Iv
 |0,_,t,s=>(t,s)
 |f+1,n,t,s=>if smB (ym (zac t y p) (whI n) p) p=true then(ym (zac t y p) (whI n) p,uk s (ym (zac t y p) (whI n) p) p)else exG y p f (n+1) (ym (zac t y p) (whI n) p) (uk s (ym (zac t y p) (whI n) p) p)
def zv9 (y:Iv) (p:Int):Iv:=uk (exG y p (p.toNat+2) 1 (whI 1) (whI 1)).2 (arI (exG y p (p.toNat+2) 1 (whI 1) (whI 1)).1) p
theorem qhe:bI (pw 0) (whI 1):=by
 refine⟨.inl (yz (by decide)),.inr ?_⟩;have e:dv (whI 1).lo =1:=jr 1;have e':dv (whI 1).hi =1:=jr 1;have e2:pw 0=1:=rfl;rw[e,e',e2];constructor<;>decide
noncomputable def zvi:Code:=Tryz.f226.body.getD .skip
noncomputable def qf4:Code:=qah (zl4 1 zvi)
noncomputable def qgt:Code:=qai (zl4 1 qf4)
theorem x199 (y:Iv) (hy:bI (pw (-1)) y) (p:Int) (hp:pcB p=true):Fn 226 G0 [.agg [.int .i64 p],.agg (ivC y)] (.agg (ivC (zv9 y p))) G0:=by
 have hp8:8<=p/\p<=512:=by unfold pcB at hp;simpa using hp
 have hR:zv9 y p=uk (exG y p (p.toNat+2) 1 (whI 1) (whI 1)).2 (arI (exG y p (p.toNat+2) 1 (whI 1) (whI 1)).1) p:=rfl;generalize zv9 y p=R at*;obtain⟨E,hE⟩: ∃E,exG y p (p.toNat+2) 1 (whI 1) (whI 1)=E:=⟨_,rfl⟩;rw[hE]at hR;have hw1:=zwe 1 (by decide);have cw:CI (whI 1):= .inr ⟨rfl,(yz (n:=1) (by decide)).lo,(yz (n:=1) (by decide)).hi⟩;have bw:=qhe;have hst: ∃w:Iv,w=whI 1:=⟨_,rfl⟩;obtain⟨w,hw⟩:=hst;rw[←hw]at hw1 cw bw hE;clear hw;obtain⟨⟨y1,y2,y3⟩,⟨y4,y5,y6⟩,y7⟩:=y;obtain⟨⟨w1,w2,w3⟩,⟨w4,w5,w6⟩,w7⟩:=w;show Fn 226 G0 [.agg [.int .i64 p],.agg [.bool y1,.sl .u32 y2,.int .i64 y3,.bool y4,.sl .u32 y5,.int .i64 y6,.bool y7]] _ G0;have hw1:Fn 152 G0 [.int .i64 1] (.agg [.bool w1,.sl .u32 w2,.int .i64 w3,.bool w4,.sl .u32 w5,.int .i64 w6,.bool w7]) G0:=hw1;refine jc (code:=zvi) hT6 hmx Tryz.func226 rfl rfl (ex:= []) ?_;conv=>whnf
 refine yd hT6 hmx 1 (fun _:Unit=>⟨[.any,.any,.ptr 2 0,.ptr 3 0,.ptr 4 0]++zf1 27,[(2,.cells [.int .i64 p]),(3,.cells [.bool y1,.sl .u32 y2,.int .i64 y3,.bool y4,.sl .u32 y5,.int .i64 y6,.bool y7]),(4,.cells [.any,.any,.any,.any,.any,.any,.any]),(5,.free),(6,.free),(qu,.gst JT)]⟩) (fun _=>by kernel_rfl) ?_ (fun _=>?_)
 ·conv=>whnf
  refine⟨(),?_⟩
  ((conv=>whnf);refine And.intro ?_ ?_;repeat' first|refine lc ?_ ?_|exact la0|exact lr rfl|exact ln0|refine lh1 ?_ ?_|exact lh0|exact bf0|exact bd0|refine bc0 ?_|exact bm0 rfl|exact bb0 rfl|exact bg0 rfl|exact li0 rfl|refine lg0 ?_|refine lt0 ?_|fail)
 refine zso (b:=qf4) (by kernel_rfl) ?_;refine yd hT6 hmx 1 (fun _:Unit=>⟨[.any,.any,.ptr 2 0,.ptr 3 0,.ptr 4 0,.ptr 5 0,.ptr 6 0]++zf1 25,[(2,.cells [.int .i64 p]),(3,.cells [.bool y1,.sl .u32 y2,.int .i64 y3,.bool y4,.sl .u32 y5,.int .i64 y6,.bool y7]),(4,.cells [.any,.any,.any,.any,.any,.any,.any]),(5,.cells [.bool w1,.sl .u32 w2,.int .i64 w3,.bool w4,.sl .u32 w5,.int .i64 w6,.bool w7]),(6,.cells [.bool w1,.sl .u32 w2,.int .i64 w3,.bool w4,.sl .u32 w5,.int .i64 w6,.bool w7]),(qu,.gst JT)]⟩) (fun _=>by kernel_rfl) ?_ (fun _=>?_)
 ·conv=>whnf
  refine gZc hw1 ?_;conv=>whnf
  refine gZc hw1 ?_;conv=>whnf
  refine⟨(),?_⟩
  ((conv=>whnf);refine And.intro ?_ ?_;repeat' first|refine lc ?_ ?_|exact la0|exact lr rfl|exact ln0|refine lh1 ?_ ?_|exact lh0|exact bf0|exact bd0|refine bc0 ?_|exact bm0 rfl|exact bb0 rfl|exact bg0 rfl|exact li0 rfl|refine lg0 ?_|refine lt0 ?_|fail)
 refine zsp (l:=0) (b:=qgt) (by kernel_rfl) ?_;refine yc hT6 hmx ?_;conv=>whnf
 refine⟨Nat×Nat×Iv×Iv,fun x=>1<=x.2.1/\(x.2.1:Int)<=p+1/\(x.2.1:Int)+x.1=p+3/\bI (pw (1-x.2.1)) x.2.2.1/\CI x.2.2.2/\exG ⟨⟨y1,y2,y3⟩,⟨y4,y5,y6⟩,y7⟩ p x.1 x.2.1 x.2.2.1 x.2.2.2=E,fun x=> [(7,.int .i64 x.2.1)],fun x=> [(5,.cells (ivC x.2.2.1)),(6,.cells (ivC x.2.2.2))],fun x=>x.1,
  (p.toNat+2,1,⟨⟨w1,w2,w3⟩,⟨w4,w5,w6⟩,w7⟩,⟨⟨w1,w2,w3⟩,⟨w4,w5,w6⟩,w7⟩),⟨Nat.le_refl 1,by simp only;omega,by simp only;omega,bw,cw,hE⟩,?_,fun x hx=>?_⟩
 ·((conv=>whnf);refine And.intro ?_ ?_;repeat' first|refine lc ?_ ?_|exact la0|exact lr rfl|exact ln0|refine lh1 ?_ ?_|exact lh0|exact bf0|exact bd0|refine bc0 ?_|exact bm0 rfl|exact bb0 rfl|exact bg0 rfl|exact li0 rfl|refine lg0 ?_|refine lt0 ?_|fail)
 (refine⟨by kernel_rfl,?_⟩;(conv=>whnf))
 obtain⟨f,n,t,s⟩:=x;obtain⟨hx1,hx0,hx2,hx3,hx4,hx5⟩:=hx;simp only at hx0 hx1 hx2 hx3 hx4 hx5
 cases f with
 |zero=>omega
 |succ f=>
  simp only[exG]at hx5;have b1:=zzw hx3 hy hp (by rw[zgi];exact pwF (by omega) (by omega));rw[zgi]at b1;have b2:=zvk b1 (n:=n) (by omega) (by omega) hp (pwF (by omega) (by omega));have c1:=x135 t ⟨⟨y1,y2,y3⟩,⟨y4,y5,y6⟩,y7⟩ hx3.1.ri hy.1.ri p;have c2:=zwe n (by omega);have c3:=x132 _ _ b1.1.ri (yz (n:=n) (by omega)).ri p;have c4:=qad s _ hx4.ri b2.1.ri p;have S4:=zfa s (ym (zac t ⟨⟨y1,y2,y3⟩,⟨y4,y5,y6⟩,y7⟩ p) (whI n) p) p;have c5:=x202 _ b2.1.ri p (by omega);have c6:=x203 _ b2.1.ri;have c7:=qad _ _ S4.ri (zyo b2.1.ri).ri p;have hs:smB (ym (zac t ⟨⟨y1,y2,y3⟩,⟨y4,y5,y6⟩,y7⟩ p) (whI n) p) p=false->(n:Int)<=p:=fun h=>by have:=qeq b2 h;omega
  generalize zac t ⟨⟨y1,y2,y3⟩,⟨y4,y5,y6⟩,y7⟩ p=M at*;generalize whI n=W at*;generalize ym M W p=D at*;generalize uk s D p=S at*;generalize smB D p=B at*;have hb3:bI (pw (1-((n+1:Nat):Int))) D:=by
   have e:(1:Int)-n-1=1-((n+1:Nat):Int):=by omega
   rwa [e]at b2
  clear b1 b2 hx3 hx4 hy
  cases B with
  |true=>
   rw[if_pos rfl]at hx5;rw[←hx5]at hR;simp only at hR;rw[←hR]at c7;clear hR hx5 hE;generalize arI D=A at*;obtain⟨⟨t1,t2,t3⟩,⟨t4,t5,t6⟩,t7⟩:=t;obtain⟨⟨s1,s2,s3⟩,⟨s4,s5,s6⟩,s7⟩:=s;obtain⟨⟨m1,m2,m3⟩,⟨m4,m5,m6⟩,m7⟩:=M;obtain⟨⟨v1,v2,v3⟩,⟨v4,v5,v6⟩,v7⟩:=W;obtain⟨⟨d1,d2,d3⟩,⟨d4,d5,d6⟩,d7⟩:=D;obtain⟨⟨z1,z2,z3⟩,⟨z4,z5,z6⟩,z7⟩:=S;obtain⟨⟨a1,a2,a3⟩,⟨a4,a5,a6⟩,a7⟩:=A;obtain⟨⟨r1,r2,r3⟩,⟨r4,r5,r6⟩,r7⟩:=R;have c1:Fn 306 G0 [.agg [.int .i64 p],.agg [.bool t1,.sl .u32 t2,.int .i64 t3,.bool t4,.sl .u32 t5,.int .i64 t6,.bool t7],.agg [.bool y1,.sl .u32 y2,.int .i64 y3,.bool y4,.sl .u32 y5,.int .i64 y6,.bool y7]] (.agg [.bool m1,.sl .u32 m2,.int .i64 m3,.bool m4,.sl .u32 m5,.int .i64 m6,.bool m7]) G0:=c1;have c2:Fn 152 G0 [.int .i64 n] (.agg [.bool v1,.sl .u32 v2,.int .i64 v3,.bool v4,.sl .u32 v5,.int .i64 v6,.bool v7]) G0:=c2;have c3:Fn 305 G0 [.agg [.int .i64 p],.agg [.bool m1,.sl .u32 m2,.int .i64 m3,.bool m4,.sl .u32 m5,.int .i64 m6,.bool m7],.agg [.bool v1,.sl .u32 v2,.int .i64 v3,.bool v4,.sl .u32 v5,.int .i64 v6,.bool v7]] (.agg [.bool d1,.sl .u32 d2,.int .i64 d3,.bool d4,.sl .u32 d5,.int .i64 d6,.bool d7]) G0:=c3;have c4:Fn 307 G0 [.agg [.int .i64 p],.agg [.bool s1,.sl .u32 s2,.int .i64 s3,.bool s4,.sl .u32 s5,.int .i64 s6,.bool s7],.agg [.bool d1,.sl .u32 d2,.int .i64 d3,.bool d4,.sl .u32 d5,.int .i64 d6,.bool d7]] (.agg [.bool z1,.sl .u32 z2,.int .i64 z3,.bool z4,.sl .u32 z5,.int .i64 z6,.bool z7]) G0:=c4;have c5:Fn 308 [] [.agg [.int .i64 p],.agg [.bool d1,.sl .u32 d2,.int .i64 d3,.bool d4,.sl .u32 d5,.int .i64 d6,.bool d7]] (.bool true) []:=c5;have c6:Fn 309 [] [.agg [.bool d1,.sl .u32 d2,.int .i64 d3,.bool d4,.sl .u32 d5,.int .i64 d6,.bool d7]] (.agg [.bool a1,.sl .u32 a2,.int .i64 a3,.bool a4,.sl .u32 a5,.int .i64 a6,.bool a7]) []:=c6
   have c7:Fn 307 G0 [.agg [.int .i64 p],.agg [.bool z1,.sl .u32 z2,.int .i64 z3,.bool z4,.sl .u32 z5,.int .i64 z6,.bool z7],.agg [.bool a1,.sl .u32 a2,.int .i64 a3,.bool a4,.sl .u32 a5,.int .i64 a6,.bool a7]] (.agg [.bool r1,.sl .u32 r2,.int .i64 r3,.bool r4,.sl .u32 r5,.int .i64 r6,.bool r7]) G0:=c7;refine gZc c1 ?_;conv=>whnf
   refine gZc c2 ?_;conv=>whnf
   refine gZc c3 ?_;conv=>whnf
   (refine⟨by kernel_rfl,by kernel_rfl,?_⟩;(conv=>whnf))
   refine gZc c4 ?_;conv=>whnf
   refine gZn c5 ?_;conv=>whnf
   refine gZn c6 ?_;conv=>whnf
   refine gZc c7 ?_;conv=>whnf
   (refine⟨by kernel_rfl,by kernel_rfl,?_⟩;(conv=>whnf))
   exact⟨lr rfl,leG⟩
  |false=>
   rw[if_neg (by decide)]at hx5;have hn:=hs rfl;clear hR c6 c7 hE;obtain⟨⟨t1,t2,t3⟩,⟨t4,t5,t6⟩,t7⟩:=t;obtain⟨⟨s1,s2,s3⟩,⟨s4,s5,s6⟩,s7⟩:=s;obtain⟨⟨m1,m2,m3⟩,⟨m4,m5,m6⟩,m7⟩:=M;obtain⟨⟨v1,v2,v3⟩,⟨v4,v5,v6⟩,v7⟩:=W;obtain⟨⟨d1,d2,d3⟩,⟨d4,d5,d6⟩,d7⟩:=D;obtain⟨⟨z1,z2,z3⟩,⟨z4,z5,z6⟩,z7⟩:=S;have c1:Fn 306 G0 [.agg [.int .i64 p],.agg [.bool t1,.sl .u32 t2,.int .i64 t3,.bool t4,.sl .u32 t5,.int .i64 t6,.bool t7],.agg [.bool y1,.sl .u32 y2,.int .i64 y3,.bool y4,.sl .u32 y5,.int .i64 y6,.bool y7]] (.agg [.bool m1,.sl .u32 m2,.int .i64 m3,.bool m4,.sl .u32 m5,.int .i64 m6,.bool m7]) G0:=c1;have c2:Fn 152 G0 [.int .i64 n] (.agg [.bool v1,.sl .u32 v2,.int .i64 v3,.bool v4,.sl .u32 v5,.int .i64 v6,.bool v7]) G0:=c2;have c3:Fn 305 G0 [.agg [.int .i64 p],.agg [.bool m1,.sl .u32 m2,.int .i64 m3,.bool m4,.sl .u32 m5,.int .i64 m6,.bool m7],.agg [.bool v1,.sl .u32 v2,.int .i64 v3,.bool v4,.sl .u32 v5,.int .i64 v6,.bool v7]] (.agg [.bool d1,.sl .u32 d2,.int .i64 d3,.bool d4,.sl .u32 d5,.int .i64 d6,.bool d7]) G0:=c3;have c4:Fn 307 G0 [.agg [.int .i64 p],.agg [.bool s1,.sl .u32 s2,.int .i64 s3,.bool s4,.sl .u32 s5,.int .i64 s6,.bool s7],.agg [.bool d1,.sl .u32 d2,.int .i64 d3,.bool d4,.sl .u32 d5,.int .i64 d6,.bool d7]] (.agg [.bool z1,.sl .u32 z2,.int .i64 z3,.bool z4,.sl .u32 z5,.int .i64 z6,.bool z7]) G0:=c4;have c5:Fn 308 [] [.agg [.int .i64 p],.agg [.bool d1,.sl .u32 d2,.int .i64 d3,.bool d4,.sl .u32 d5,.int .i64 d6,.bool d7]] (.bool false) []:=c5;refine gZc c1 ?_;conv=>whnf
   refine gZc c2 ?_;conv=>whnf
   refine gZc c3 ?_;conv=>whnf
   (refine⟨by kernel_rfl,by kernel_rfl,?_⟩;(conv=>whnf))
   refine gZc c4 ?_;conv=>whnf
   refine gZn c5 ?_;conv=>whnf
   refine⟨(f,n+1,⟨⟨d1,d2,d3⟩,⟨d4,d5,d6⟩,d7⟩,⟨⟨z1,z2,z3⟩,⟨z4,z5,z6⟩,z7⟩),⟨by simp only;omega,by simp only;omega,by simp only;omega,hb3,S4,hx5⟩,by show f<f+1;omega,?_⟩
   ((conv=>whnf);refine And.intro ?_ ?_;repeat' first|refine lc ?_ ?_|exact la0|exact lr rfl|exact ln0|refine lh1 ?_ ?_|exact lh0|exact bf0|exact bd0|refine bc0 ?_|exact bm0 rfl|exact bb0 rfl|exact bg0 rfl|exact li0 rfl|refine lg0 ?_|refine lt0 ?_|fail)
   exact ai0 (by rw[wI (by simp only;omega)];simp only;omega)
end Go.Proofs.YtbolipecnhlnnaaGreatDoor
