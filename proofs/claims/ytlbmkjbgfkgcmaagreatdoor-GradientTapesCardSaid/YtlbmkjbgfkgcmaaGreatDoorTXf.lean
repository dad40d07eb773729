/- Intervals that lie within a bound: products, quotients, squares, halves, roundings; small ones. -/
import Derived.Test.YtlbmkjbgfkgcmaaGreatDoorTXa
import Derived.Scope
import Derived.ControlIn
set_option linter.all false
open Rat renaming le_trans->q0,mul_nonneg->qA,le_of_lt->qB,le_refl->qC,neg_neg->qD,not_le->qE,mul_one->qF,div_def->qG
open Go.IntKind renaming i64->qH
namespace Go.Proofs.YtlbmkjbgfkgcmaaGreatDoor
open Go Go.Sx
set_option maxHeartbeats 2000000
def bI(B:Rat)(x:Iv):Prop:=VI x/\(x.all=true\/(-B<=dv x.lo/\dv x.hi<=B))
theorem bI_w(B:Rat):bI B wI0:=⟨.inr rfl,.inl rfl⟩
theorem qea{a b:Int}(h:a<b):pw a<pw b:=qE.1 fun c=>by have:=zjs.1 c;omega
theorem pwF{p:Nat}{t:Int}(h1: -16384<=t)(h2:t<16384):inF p (pw t):=⟨1,t,(znx t).symm,Nat.one_le_two_pow,h1,qea h2⟩
theorem zm2(t:Int):0<=pw t:=qB (zc3 t)
theorem zgo(t:Int):pw t*pw (-1)=pw (t-1):=by rw[<-pwA];rfl
theorem zxw{d:Dy}(h:VD d):KI (qt d):=⟨rfl,h,h,zbx.2 qC⟩
theorem ze9{a b B C:Rat}(h1: -B<=a)(h2:a<=B)(h3: -C<=b)(h4:b<=C): -(B*C)<=a*b/\a*b<=B*C:=by
 have m1:=qA (show 0<=B-a by grind) (show 0<=C+b by grind);have m2:=qA (show 0<=B+a by grind) (show 0<=C-b by grind);have m3:=qA (show 0<=B-a by grind) (show 0<=C-b by grind);have m4:=qA (show 0<=B+a by grind) (show 0<=C+b by grind);constructor<;>grind
theorem zxx{p:Nat}{op:Rat->Rat->Rat}{dn up:Dy->Dy->Dy×Int}{x y:Iv}(f:F4 p op dn up x y){b:Rat}(hb:inF p b)(h:qbf op x y (fun z=> -b<=z/\z<=b))(ha:(jt dn up x y).all =false):
 -b<=dv (jt dn up x y).lo /\dv (jt dn up x y).hi <=b:=by
 obtain⟨_,_,h3,h4,_,_⟩:=zl0 ha;obtain⟨a1,a2,a3,a4⟩:=h;have hn:Fp p (-b):=.inr (by rw[qD];exact hb);have hp:Fp p b:=.inl hb;exact⟨h3 (-b) (f.rt1.1.2 (-b) hn a1.1).2 (f.rt2.1.2 (-b) hn a2.1).2 (f.rt3.1.2 (-b) hn a3.1).2 (f.rt4.1.2 (-b) hn a4.1).2,
  h4 b (f.rt1.2.2 b hp a1.2).2 (f.rt2.2.2 b hp a2.2).2 (f.rt3.2.2 b hp a3.2).2 (f.rt4.2.2 b hp a4.2).2⟩
theorem bI.ends{B:Rat}{x:Iv}(h:bI B x)(k:KI x):(-B<=dv x.lo/\dv x.lo<=B)/\(-B<=dv x.hi/\dv x.hi<=B):=by
 rcases h.2 with c|⟨c1,c2⟩
 .rw[k.all]at c;cases c
 .have:=k.dle;exact⟨⟨c1,q0 this c2⟩,⟨q0 c1 this,c2⟩⟩
theorem zy7{B C:Rat}{x y:Iv}(hx:bI B x)(hy:bI C y){p:Int}(hp:pcB p=true)(hF:inF p.toNat (B*C)):bI (B*C) (ja x y p):=by
 refine⟨qeh hx.1 hy.1 hp,?_⟩
 cases ha:(ja x y p).all with
 |true=>exact .inl rfl
 |false=>
  right;by_cases hk:KI x/\KI y
  .rw[zyj hk.1 hk.2 hp]at ha⊢;obtain⟨⟨a1,a2⟩,⟨a3,a4⟩⟩:=hx.ends hk.1;obtain⟨⟨b1,b2⟩,⟨b3,b4⟩⟩:=hy.ends hk.2;exact zxx (zyk hk.1 hk.2 (vj hp)) hF ⟨ze9 a1 a2 b1 b2,ze9 a1 a2 b3 b4,ze9 a3 a4 b1 b2,ze9 a3 a4 b3 b4⟩ ha
  .rw[qef hx.1.ri hy.1.ri hk]at ha;cases ha
def whI(n:Int):Iv:=qt (wg n)
theorem xx{n:Int}(h: -4611686018427387904<=n/\n<=4611686018427387904):KI (whI n):=zxw (wu n h)
theorem zqj{n:Int}(h:1<=n):(1:Rat)<=(n:Rat):=by
 have:=(Rat.intCast_le_intCast (a:=1) (b:=n)).2 h;simpa using this
theorem zit{n:Rat}(h:1<=n): -1<=n⁻¹ /\n⁻¹ <=1:=by
 have h0:0<n:=by grind
 have hi:0<n⁻¹ :=Rat.inv_pos.2 h0;have hm:=Rat.mul_inv_cancel n (by grind);have:=qA (show 0<=n-1 by grind) (qB hi);constructor<;>grind
theorem zur{B:Rat}{x:Iv}(hx:bI B x){n:Int}(h1:1<=n)(h2:n<=4611686018427387904){p:Int}(hp:pcB p=true)(hF:inF p.toNat B):bI B (uq x (whI n) p):=by
 have kn:=xx (n:=n) O;have hn:=zqj h1;have e:dv (whI n).lo =(n:Rat):=zbu n;have e':dv (whI n).hi =(n:Rat):=zbu n;have hs:0<dv (whI n).lo \/dv (whI n).hi <0:=.inl (by rw[e];grind);refine⟨znm hx.1 (.inl kn) hp,?_⟩
 cases ha:(uq x (whI n) p).all with
 |true=>exact .inl rfl
 |false=>
  right;by_cases hk:KI x
  .rw[zkj hk kn hs hp]at ha⊢;obtain⟨⟨a1,a2⟩,⟨a3,a4⟩⟩:=hx.ends hk;obtain⟨i1,i2⟩:=zit hn;have q:∀a:Rat,-B<=a->a<=B-> -B<=a/(n:Rat)/\a/(n:Rat)<=B:=fun a c1 c2=>by
    have:=ze9 c1 c2 i1 i2
    rwa [qF,<-qG]at this
   refine zxx (zpp hk kn hs (vj hp)) hF ?_ ha;unfold qbf;rw[e,e'];exact⟨q _ a1 a2,q _ a1 a2,q _ a3 a4,q _ a3 a4⟩
  .rw[zub hx.1.ri kn.ri fun c=>hk c.1]at ha;cases ha
theorem zx1{x:Iv}(h:CI x)(hd:x.all=false->dv x.lo<=dv x.hi):VI x:=by
 cases ha:x.all with
 |true=>
  rcases h with rfl|⟨c,_⟩
  .exact .inr rfl
  .rw[ha]at c;cases c
 |false=>exact .inl (qcf h ha (hd ha))
theorem zxq{B:Rat}{x:Iv}(hx:bI B x){p:Int}(hF:inF p.toNat B):bI B (vh x p):=by
 unfold vh;split
 .rename_i c;obtain⟨c1,hp⟩:=c;have k:=(zw hx.1.ri).1 c1;have R1:=zca k.lo (vj hp);have R2:=zca k.hi (vj hp);obtain⟨⟨a1,a2⟩,⟨a3,a4⟩⟩:=hx.ends k;refine⟨zv3 R1 R2 (yb (jk _ _ _ (vj hp)) (jk _ _ _ (vj hp))) k.dle,?_⟩
  cases ha:(vl (qm x.lo p.toNat false) (qm x.hi p.toNat true)).all with
  |true=>exact .inl rfl
  |false=>
   right;rw[zdb ha];exact⟨(R1.1.2 (-B) (.inr (by rw[qD];exact hF)) a1).2,(R2.2.2 B (.inl hF) a4).2⟩
 .exact bI_w B
theorem zft{d:Dy}{k:Int}(h:(ql d k).2=0):dv (ql d k).1=dv d*pw k:=by
 unfold ql at h⊢;split at h
 .cases h
 .rename_i c;rw[Z7 c];unfold ckN at h⊢;split at h
  .rename_i c2;rw[Z6 c2,zel];have e:vN (nm d) (d.e+k)=vN (nm d) d.e*pw k:=by unfold vN;rw[pwA,Rat.mul_assoc]
   rw[e];unfold dv;split
   .grind
   .rfl
  .cases h
theorem zxp{B:Rat}{x:Iv}(hx:bI B x)(k:Int):bI (B*pw k) (wj x k):=by
 unfold wj;split
 .rename_i c1;have kx:=(zw hx.1.ri).1 c1;obtain⟨⟨a1,a2⟩,⟨a3,a4⟩⟩:=hx.ends kx;have hc:=yb (zab x.lo k) (zab x.hi k)
  cases ha:(vl (ql x.lo k) (ql x.hi k)).all with
  |true=>exact⟨zx1 hc (fun c=>by rw[ha]at c;cases c),.inl ha⟩
  |false=>
   have e:=zdb ha;obtain⟨o1,o2⟩:=zd4.1 ha;have e1:dv (vl (ql x.lo k) (ql x.hi k)).lo =dv x.lo*pw k:=by rw[e];exact zft o1
   have e2:dv (vl (ql x.lo k) (ql x.hi k)).hi =dv x.hi*pw k:=by rw[e];exact zft o2
   refine⟨zx1 hc fun _=>by rw[e1,e2];exact vz kx.dle (zm2 k),.inr ?_⟩;rw[e1,e2];exact⟨by rw[<-Rat.neg_mul];exact vz a1 (zm2 k),vz a4 (zm2 k)⟩
 .exact bI_w _
def sqI(x:Iv)(p:Int):Iv:=if kB x=true/\pcB p=true then vl (ug (zcw x) (zcw x) p.toNat false) (ug (ul x) (ul x) p.toNat true)else wI0
theorem zym{B:Rat}{x:Iv}(hx:bI B x)(k:KI x):0<=dv (ul x)/\dv (ul x)<=B/\(ul x).neg =false:=by
 obtain⟨⟨a1,a2⟩,⟨a3,a4⟩⟩:=hx.ends k;have hm:ul x=uk (yq x.lo) (yq x.hi):=rfl;obtain⟨_,_,h3⟩:=xm (yq x.lo) (yq x.hi);rw[hm];rcases h3 with e|e<;>rw[e,zbc]
 .exact⟨zgl _,by unfold zc2;split<;>grind,rfl⟩
 .exact⟨zgl _,by unfold zc2;split<;>grind,rfl⟩
theorem CI_sq{x:Iv}(p:Int):CI (sqI x p):=by
 unfold sqI;split
 .rename_i h;exact yb (zac _ _ _ _ (vj h.2)) (zac _ _ _ _ (vj h.2))
 .exact zhu
theorem bI_sq{B:Rat}{x:Iv}(hx:bI B x){p:Int}(hF:inF p.toNat (B*B)):bI (B*B) (sqI x p):=by
 unfold sqI;split
 .rename_i c;obtain⟨c1,hp⟩:=c;have k:=(zw hx.1.ri).1 c1;obtain⟨g1,g2,_⟩:=zym hx k;obtain⟨l1,l2,l3⟩:=zy9 k qC k.dle;have l4:=q0 l2 l3;have R1:=zin (zjb k) (zjb k) (vj hp);have R2:=zin (zb3 k) (zb3 k) (vj hp);have s1:dv (zcw x)*dv (zcw x)<=dv (ul x)*dv (ul x):=zrp l1 l4;have s2:dv (ul x)*dv (ul x)<=B*B:=zrp g1 g2;have s0:0<=dv (zcw x)*dv (zcw x):=qA l1 l1;refine⟨zv3 R1 R2 (yb (zac _ _ _ _ (vj hp)) (zac _ _ _ _ (vj hp))) s1,?_⟩
  cases ha:(vl (ug (zcw x) (zcw x) p.toNat false) (ug (ul x) (ul x) p.toNat true)).all with
  |true=>exact .inl rfl
  |false=>
   right;rw[zdb ha];refine⟨?_,(R2.2.2 (B*B) (.inl hF) s2).2⟩;exact(R1.1.2 (-(B*B)) (.inr (by rw[qD];exact hF)) (by grind)).2
 .exact bI_w _
def smB(x:Iv)(p:Int):Bool:= !kB x||(decide (qs (ul x)=0)||decide (zn (ul x)<= -p))
theorem qdu{x:Iv}{p t:Int}(hx:bI (pw t) x)(h:smB x p=false): -p<=t:=by
 unfold smB at h;rw[Bool.or_eq_false_iff,Bool.or_eq_false_iff]at h;obtain⟨h1,h2,h3⟩:=h;have k:=(zw hx.1.ri).1 (by simpa using h1);have h2:=Z3 h2;have h3:=Z3 h3;obtain⟨g1,g2,g3⟩:=zym hx k;have hn:nm (ul x)≠0:=fun c=>h2 (by unfold qs;rw[Z6 c])
 unfold zn at h3;rw[Z7 hn]at h3;have hv:dv (ul x)=vN (nm (ul x)) (ul x).e :=by unfold dv;rw[g3];rfl
 have ht:=yd (n:=nm (ul x)) (e:=(ul x).e) (t:=(bl (nm (ul x)):Int)+(ul x).e -1) O hn;rw[<-hv]at ht;have:=zjs.1 (q0 ht g2);omega
set_option maxRecDepth 100000
set_option maxHeartbeats 8000000
theorem zvk(n:Int)(h: -4611686018427387904<=n/\n<=4611686018427387904):Fn 237 G0 [.int .i64 n] (.agg (ivC (whI n))) G0:=by
 have h78:=v77 n h;have h77:=zyr (wu n h);show Fn 237 G0 [.int .i64 n] (.agg (ivC (qt (wg n)))) G0;generalize wg n=d at*;obtain⟨d1,d2,d3⟩:=d;have h78:Fn 112 G0 [.int .i64 n] (.agg [.bool d1,.sl .u32 d2,.int .i64 d3]) G0:=h78;have h77:Fn 20 [] [.agg [.bool d1,.sl .u32 d2,.int .i64 d3]] (.agg [.bool d1,.sl .u32 d2,.int .i64 d3,.bool d1,.sl .u32 d2,.int .i64 d3,.bool false]) []:=h77;refine fY6 Tryz.func237 rfl ?_;refine gYc h78 ?_;refine gYn h77 ?_;exact⟨lr rfl,leG⟩
def guP(p m:Int):Int:=min (p+m) 512
theorem x128(p m:Int)(hp:0<=p/\p<=1000)(hm:0<=m/\m<=1000):Fn 238 [] [.int .i64 p,.int .i64 m] (.agg [.int .i64 (guP p m)]) []:=by
 refine fY6 Tryz.func238 rfl ?_;exact⟨lg0 (lc (ai0 (by rw[wI O];unfold guP;rw[Int.min_def];split<;>split<;>omega)) ln0),lh0⟩
theorem x132(x y:Iv)(hx:RI x)(hy:RI y)(p:Int):Fn 241 G0 [.agg [.int .i64 p],.agg (ivC x),.agg (ivC y)] (.agg (ivC (uq x y p))) G0:=by
 have h:=i85 x y hx hy p;generalize uq x y p=R at*;clear hx hy;refine fY6 Tryz.func241 rfl ?_;refine gYc h ?_;exact⟨lr rfl,leG⟩
theorem zzm(x y:Iv)(hx:RI x)(hy:RI y)(p:Int):Fn 242 G0 [.agg [.int .i64 p],.agg (ivC x),.agg (ivC y)] (.agg (ivC (kp x y p))) G0:=by
 have h:=i82 x y hx hy p;generalize kp x y p=R at*;clear hx hy;refine fY6 Tryz.func242 rfl ?_;refine gYc h ?_;exact⟨lr rfl,leG⟩
theorem x135(x y:Iv)(hx:RI x)(hy:RI y)(p:Int):Fn 244 G0 [.agg [.int .i64 p],.agg (ivC x),.agg (ivC y)] (.agg (ivC (ja x y p))) G0:=by
 have h:=i84 x y hx hy p;generalize ja x y p=R at*;clear hx hy;refine fY6 Tryz.func244 rfl ?_;refine gYc h ?_;exact⟨lr rfl,leG⟩
theorem zr3(d:Dy):qs d=0\/qs d=1\/qs d= -1:=by
 unfold qs;split
 .exact .inl rfl
 .split
  .exact .inr (.inr rfl)
  .exact .inr (.inl rfl)
theorem x202(x:Iv)(hx:RI x)(p:Int)(hp:0<=p/\p<=1000):Fn 278 [] [.agg [.int .i64 p],.agg (ivC x)] (.bool (smB x p)) []:=by
 have h120:=i182 x hx;have hw:qH.wrap (0-p)= -p:=by rw[wI O];omega
 have hR:smB x p=(!kB x||(decide (qs (ul x)=0)||decide (zn (ul x)<= -p))):=rfl;generalize smB x p=R at*;by_cases hk:kB x=true
 .have k:=(zw hx).1 hk;rw[Z6 hk,hk]at h120;rw[hk,Bool.not_true,Bool.false_or]at hR;have vm:=zb3 k;have h81:=zq9 vm;have h127:=zn0 vm;have hs:=zr3 (ul x);generalize ul x=M at*;generalize qs M=S at*;generalize zn M=t at*;clear hk k hx vm;rcases hs with rfl|rfl|rfl
  .subst hR;refine fY6 Tryz.func278 rfl ?_;refine gYn h120 ?_;refine gYn h81 ?_;refine gYd ?_;exact⟨lr rfl,lh0⟩
  .refine fY6 Tryz.func278 rfl ?_;refine gYn h120 ?_;refine gYn h81 ?_;refine gYn h127 ?_;refine gYd ?_;exact⟨ab0 (by rw[hw,hR];rfl),lh0⟩
  .refine fY6 Tryz.func278 rfl ?_;refine gYn h120 ?_;refine gYn h81 ?_;refine gYn h127 ?_;refine gYd ?_;exact⟨ab0 (by rw[hw,hR];rfl),lh0⟩
 .have hk:kB x=false:=by simpa using hk
  rw[hk,Z7 OC]at h120;rw[hk]at hR;subst hR;clear hk hx;refine fY6 Tryz.func278 rfl ?_;refine gYn h120 ?_;refine gYd ?_;exact⟨lr rfl,lh0⟩
def arI(x:Iv):Iv:=if kB x=true then⟨jp (ul x),ul x,false⟩else wI0
theorem qgr{x:Iv}(hx:RI x):CI (arI x):=by
 unfold arI;split
 .rename_i h;have k:=(zw hx).1 h;exact .inr ⟨rfl,yt (zb3 k),zb3 k⟩
 .exact zhu
theorem x203(x:Iv)(hx:RI x):Fn 279 [] [.agg (ivC x)] (.agg (ivC (arI x))) []:=by
 have h120:=i182 x hx;have h25:=i25;rw[e25]at h25;have hR:arI x=if kB x=true then⟨jp (ul x),ul x,false⟩else wI0:=rfl
 generalize arI x=R at*;by_cases hk:kB x=true
 .have k:=(zw hx).1 hk;rw[Z6 hk,hk]at h120;rw[Z6 hk]at hR;have vm:=zb3 k;have h76:=zzq vm;rw[show(if nm (ul x)=0 then d0 else⟨!(ul x).neg,(ul x).m,(ul x).e⟩)=jp (ul x)from rfl]at h76;generalize jp (ul x)=N at*;generalize ul x=M at*;subst hR;clear hk k hx vm;refine fY6 Tryz.func279 rfl ?_;refine gYn h120 ?_;refine gYn h76 ?_;refine gYd ?_;exact⟨lr rfl,lh0⟩
 .have hk:kB x=false:=by simpa using hk
  rw[hk,Z7 OC]at h120;rw[Z7 (by rw[hk];simp)]at hR;subst hR;clear hk hx;refine fY6 Tryz.func279 rfl ?_;refine gYn h120 ?_;refine gYn h25 ?_;exact⟨lr rfl,lh0⟩
theorem x200(x:Iv)(h:RI x)(p:Int):Fn 277 G0 [.agg (ivC x),.int .i64 p] (.agg (ivC (sqI x p))) G0:=by
 have h79:=i137 x h;have h127:=zwz p;have h25:=i25;rw[e25]at h25;have hR:sqI x p=if kB x=true/\pcB p=true then vl (ug (zcw x) (zcw x) p.toNat false) (ug (ul x) (ul x) p.toNat true)else wI0:=rfl
 generalize sqI x p=R at*;have hA:zp1 x=if kB x=true then⟨zcw x,ul x,false⟩else wI0:=rfl
 by_cases hk:kB x=true
 .rw[hA,Z6 hk]at h79;by_cases hp:pcB p=true
  .rw[hp]at h127;rw[Z6 ⟨hk,hp⟩]at hR;have kx:=(zw h).1 hk;obtain⟨q,rfl,hq⟩:=ux.1 hp;rw[Int.toNat_natCast]at hR;have n1:=v132 (zjb kx) (zjb kx) q hq;have n2:=v133 (zb3 kx) (zb3 kx) q hq;have n3:=qc2 (ug (zcw x) (zcw x) q false) (ug (ul x) (ul x) q true);rw[<-hR]at n3;generalize ug (zcw x) (zcw x) q false=a at*;generalize ug (ul x) (ul x) q true=b at*;generalize zcw x=g at*;generalize ul x=m at*;clear kx h hk hR hA;obtain⟨⟨a1,a2,a3⟩,e⟩:=a;obtain⟨⟨b1,b2,b3⟩,f⟩:=b;refine fY6 Tryz.func277 rfl ?_;refine gYn h79 ?_;refine gYn h127 ?_;refine gYc n1 ?_;refine gYc n2 ?_;refine gYn n3 ?_;exact⟨lr rfl,leG⟩
  .rw[Z7 fun c=>hp c.2]at hR;rw[show pcB p=false by simpa using hp]at h127;subst hR;generalize zcw x=g at*;generalize ul x=m at*;clear h hk hp hA;refine fY6 Tryz.func277 rfl ?_;refine gYn h79 ?_;refine gYn h127 ?_;refine gYn h25 ?_;exact⟨lr rfl,leG⟩
 .rw[hA,Z7 hk]at h79;rw[Z7 fun c=>hk c.1]at hR;subst hR;clear h hk hA;refine fY6 Tryz.func277 rfl ?_;refine gYn h79 ?_;refine gYn h25 ?_;exact⟨lr rfl,leG⟩
def edI(a b:Iv):Iv:=if a.all=true\/b.all=true then wI0 else⟨a.lo,b.hi,false⟩
theorem qgq{a b:Iv}(ha:CI a)(hb:CI b):CI (edI a b):=by
 unfold edI;split
 .exact zhu
 .rename_i h;rcases ha with rfl|⟨_,a1,_⟩
  .exact absurd (.inl rfl) h
  .rcases hb with rfl|⟨_,_,b1⟩
   .exact absurd (.inr rfl) h
   .exact .inr ⟨rfl,a1,b1⟩
theorem x86(a b:Iv):Fn 185 [] [.agg (ivC a),.agg (ivC b)] (.agg (ivC (edI a b))) []:=by
 have h25:=i25;rw[e25]at h25;obtain⟨⟨a1,a2,a3⟩,⟨a4,a5,a6⟩,a7⟩:=a;obtain⟨⟨b1,b2,b3⟩,⟨b4,b5,b6⟩,b7⟩:=b;show Fn 185 [] [.agg [.bool a1,.sl .u32 a2,.int .i64 a3,.bool a4,.sl .u32 a5,.int .i64 a6,.bool a7],.agg [.bool b1,.sl .u32 b2,.int .i64 b3,.bool b4,.sl .u32 b5,.int .i64 b6,.bool b7]] _ []
 cases a7 with
 |true=>
  refine fY6 Tryz.func185 rfl ?_;refine gYn h25 ?_;exact⟨lr rfl,lh0⟩
 |false=>
  cases b7 with
  |true=>
   refine fY6 Tryz.func185 rfl ?_;refine gYn h25 ?_;exact⟨lr rfl,lh0⟩
  |false=>
   refine fY6 Tryz.func185 rfl ?_;exact⟨lr rfl,lh0⟩
def ftB(x:Iv)(p:Int):Bool:=kB x&&pcB p
theorem kB_vi{x:Iv}(hx:RI x)(vx:VI x):kB x= !x.all:=by
 rcases vx with k|rfl
 .rw[(zw hx).2 k,k.all];rfl
 .rfl
theorem x84(x:Iv)(hx:RI x)(p:Int):Fn 183 [] [.agg (ivC x),.int .i64 p] (.bool (ftB x p)) []:=by
 have h17:=i51 x hx;have hR:ftB x p=(kB x&&pcB p):=rfl;have hp:pcB p=true<->8<=p/\p<=512:=by unfold pcB;simp
 generalize ftB x p=R at*;by_cases ha:x.all=true
 .have hk:kB x=false:=by
   by_cases c:kB x=true
   .have:=(zw hx).1 c;rw[this.all]at ha;cases ha
   .simpa using c
  rw[hk,Bool.false_and]at hR;subst hR;clear h17 hx hk;obtain⟨⟨x1,x2,x3⟩,⟨x4,x5,x6⟩,x7⟩:=x;obtain rfl:x7=true:=ha;show Fn 183 [] [.agg [.bool x1,.sl .u32 x2,.int .i64 x3,.bool x4,.sl .u32 x5,.int .i64 x6,.bool true],.int .i64 p] _ [];refine fY6 Tryz.func183 rfl ?_;exact⟨lr rfl,lh0⟩
 have ha:x.all=false:=by simpa using ha
 by_cases hv:viB x=true
 .have vx:=(zgb hx).1 hv;rw[hv]at h17;rw[kB_vi hx vx,ha,Bool.not_false,Bool.true_and]at hR;clear hv vx hx;obtain⟨⟨x1,x2,x3⟩,⟨x4,x5,x6⟩,x7⟩:=x;obtain rfl:x7=false:=ha;have h17:Fn 52 [] [.agg [.bool x1,.sl .u32 x2,.int .i64 x3,.bool x4,.sl .u32 x5,.int .i64 x6,.bool false]] (.bool true) []:=h17;show Fn 183 [] [.agg [.bool x1,.sl .u32 x2,.int .i64 x3,.bool x4,.sl .u32 x5,.int .i64 x6,.bool false],.int .i64 p] _ [];refine fY6 Tryz.func183 rfl ?_;refine gYn h17 ?_;refine brI (fun k1=>?_) (fun k1=>?_)
  .have k1:8<=p:=Z0 k1;conv=>whnf
   refine⟨ab0 ?_,lh0⟩;rw[hR,Bool.eq_iff_iff,Z4,hp];exact⟨fun h=>⟨k1,h⟩,fun h=>h.2⟩
  .have k1:¬8<=p:=Z3 k1;rw[show pcB p=false by rw[<-Bool.not_eq_true,hp];omega]at hR;subst hR;conv=>whnf
   exact⟨lr rfl,lh0⟩
 .have hk:kB x=false:=by
   by_cases c:kB x=true
   .exact absurd ((zgb hx).2 (.inl ((zw hx).1 c))) hv
   .simpa using c
  rw[hk,Bool.false_and]at hR;subst hR;rw[show viB x=false by simpa using hv]at h17;clear hv hx hk;obtain⟨⟨x1,x2,x3⟩,⟨x4,x5,x6⟩,x7⟩:=x;obtain rfl:x7=false:=ha;have h17:Fn 52 [] [.agg [.bool x1,.sl .u32 x2,.int .i64 x3,.bool x4,.sl .u32 x5,.int .i64 x6,.bool false]] (.bool false) []:=h17;show Fn 183 [] [.agg [.bool x1,.sl .u32 x2,.int .i64 x3,.bool x4,.sl .u32 x5,.int .i64 x6,.bool false],.int .i64 p] _ [];refine fY6 Tryz.func183 rfl ?_;refine gYn h17 ?_;exact⟨lr rfl,lh0⟩
def mdB(d:Dy):Bool:=decide (wa (yq d) (wg 1000)<=0)
theorem x85{d:Dy}(hd:VD d):Fn 184 G0 [.agg (dyC d)] (.bool (mdB d)) G0:=by
 have h125:=qdf hd;have h78:=v77 1000 OA;have h55:=v81 (zb4 hd) (wu 1000 OA);have hR:mdB d=decide (wa (yq d) (wg 1000)<=0):=rfl;generalize mdB d=R at*;generalize wa (yq d) (wg 1000)=C at*;generalize yq d=a at*;generalize wg 1000=t at*;clear hd;refine fY6 Tryz.func184 rfl ?_;refine gYn h125 ?_;refine gYc h78 ?_;refine gYn h55 ?_;exact⟨ab0 (by rw[hR]),leG⟩
theorem zr5{P:Program}{T:Tab}{res:List ResultVar}{ex:List Nat}{r:AV}{H':Hp}{c b:Code}{Y:St}(e:c=.scope b)(h:SemOK P T res ex r H' b Y):SemOK P T res ex r H' c Y:=
 ⟨fun c0 a w Q hr hq=>by
  subst e;exact wpIn_wide.2 (wp_scope_straight (wpIn_wide.1 (h.sem c0 a w (Exit.noGoto Q) hr fun x K a w hr hf=>by
   cases x with
   |normal=>exact hq _ K a w hr hf
   |ret=>exact hq _ K a w hr hf
   |exit _=>exact hf.elim
   |goto _=>exact hf.elim
   |panic _=>exact hf.elim
   |outgrown=>exact hf.elim)))⟩
theorem zr7{P:Program}{T:Tab}{res:List ResultVar}{ex:List Nat}{r:AV}{H':Hp}{c b:Code}{l:Nat}{Y:St}(e:c=.seq (.label l) b)(h:SemOK P T res ex r H' b Y):SemOK P T res ex r H' c Y:=
 ⟨fun c0 a w Q hr hq=>by
  subst e;exact wpIn_seq (wpIn_label (h.sem c0 a w Q hr hq))⟩
def zzr:Code->Code
 |.scope b=>b
 | _=>.skip
def zzs:Code->Code
 |.seq (.label _) b=>b
 | _=>.skip
def exG(y:Iv)(p:Int):Nat->Nat->Iv->Iv->Iv×Iv
 |0,_,t,s=>(t,s)
 |f+1,n,t,s=>if smB (uq (ja t y p) (whI n) p) p=true then(uq (ja t y p) (whI n) p,kp s (uq (ja t y p) (whI n) p) p)else exG y p f (n+1) (uq (ja t y p) (whI n) p) (kp s (uq (ja t y p) (whI n) p) p)
def qbi(y:Iv)(p:Int):Iv:=kp (exG y p (p.toNat+2) 1 (whI 1) (whI 1)).2 (arI (exG y p (p.toNat+2) 1 (whI 1) (whI 1)).1) p
theorem qf5:bI (pw 0) (whI 1):=by
 refine⟨.inl (xx OA),.inr ?_⟩;have e:dv (whI 1).lo =1:=zbu 1;have e':dv (whI 1).hi =1:=zbu 1;have e2:pw 0=1:=rfl;rw[e,e',e2];constructor<;>decide
noncomputable def zuq:Code:=Tryz.f276.body.getD .skip
noncomputable def qey:Code:=zzr (zh4 1 zuq)
noncomputable def qfd:Code:=zzs (zh4 1 qey)
theorem x199(y:Iv)(hy:bI (pw (-1)) y)(p:Int)(hp:pcB p=true):Fn 276 G0 [.agg [.int .i64 p],.agg (ivC y)] (.agg (ivC (qbi y p))) G0:=by
 have hp8:8<=p/\p<=512:=by unfold pcB at hp;simpa using hp
 have hR:qbi y p=kp (exG y p (p.toNat+2) 1 (whI 1) (whI 1)).2 (arI (exG y p (p.toNat+2) 1 (whI 1) (whI 1)).1) p:=rfl;generalize qbi y p=R at*;obtain⟨E,hE⟩:∃E,exG y p (p.toNat+2) 1 (whI 1) (whI 1)=E:=⟨_,rfl⟩;rw[hE]at hR;have hw1:=zvk 1 OA;have cw:CI (whI 1):=.inr ⟨rfl,(xx (n:=1) OA).lo,(xx (n:=1) OA).hi⟩;have bw:=qf5;have hst:∃w:Iv,w=whI 1:=⟨_,rfl⟩;obtain⟨w,hw⟩:=hst;rw[<-hw]at hw1 cw bw hE;clear hw;obtain⟨⟨y1,y2,y3⟩,⟨y4,y5,y6⟩,y7⟩:=y;obtain⟨⟨w1,w2,w3⟩,⟨w4,w5,w6⟩,w7⟩:=w;show Fn 276 G0 [.agg [.int .i64 p],.agg [.bool y1,.sl .u32 y2,.int .i64 y3,.bool y4,.sl .u32 y5,.int .i64 y6,.bool y7]] _ G0;have hw1:Fn 237 G0 [.int .i64 1] (.agg [.bool w1,.sl .u32 w2,.int .i64 w3,.bool w4,.sl .u32 w5,.int .i64 w6,.bool w7]) G0:=hw1;refine qr (code:=zuq) hT6 hmx Tryz.func276 rfl rfl (ex:= []) ?_;conv=>whnf
 refine jm hT6 hmx 1 (fun _:Unit=>⟨[.any,.any,.ptr 2 0,.ptr 3 0,.ptr 4 0]++uo 27,[(2,.cells [.int .i64 p]),(3,.cells [.bool y1,.sl .u32 y2,.int .i64 y3,.bool y4,.sl .u32 y5,.int .i64 y6,.bool y7]),(4,.cells [.any,.any,.any,.any,.any,.any,.any]),(5,.free),(6,.free),(qi,.gst JT)]⟩) (fun _=>Z) ?_ (fun _=>?_)
 .conv=>whnf
  refine⟨(),?_⟩;exact KZ0
 refine zr5 (b:=qey) Z ?_;refine jm hT6 hmx 1 (fun _:Unit=>⟨[.any,.any,.ptr 2 0,.ptr 3 0,.ptr 4 0,.ptr 5 0,.ptr 6 0]++uo 25,[(2,.cells [.int .i64 p]),(3,.cells [.bool y1,.sl .u32 y2,.int .i64 y3,.bool y4,.sl .u32 y5,.int .i64 y6,.bool y7]),(4,.cells [.any,.any,.any,.any,.any,.any,.any]),(5,.cells [.bool w1,.sl .u32 w2,.int .i64 w3,.bool w4,.sl .u32 w5,.int .i64 w6,.bool w7]),(6,.cells [.bool w1,.sl .u32 w2,.int .i64 w3,.bool w4,.sl .u32 w5,.int .i64 w6,.bool w7]),(qi,.gst JT)]⟩) (fun _=>Z) ?_ (fun _=>?_)
 .conv=>whnf
  refine gYc hw1 ?_;refine gYc hw1 ?_;refine⟨(),?_⟩;exact KZ0
 refine zr7 (l:=0) (b:=qfd) Z ?_;refine ww hT6 hmx ?_;conv=>whnf
 refine⟨Nat×Nat×Iv×Iv,fun x=>1<=x.2.1/\(x.2.1:Int)<=p+1/\(x.2.1:Int)+x.1=p+3/\bI (pw (1-x.2.1)) x.2.2.1/\CI x.2.2.2/\exG ⟨⟨y1,y2,y3⟩,⟨y4,y5,y6⟩,y7⟩ p x.1 x.2.1 x.2.2.1 x.2.2.2=E,fun x=> [(7,.int .i64 x.2.1)],fun x=> [(5,.cells (ivC x.2.2.1)),(6,.cells (ivC x.2.2.2))],fun x=>x.1,
  (p.toNat+2,1,⟨⟨w1,w2,w3⟩,⟨w4,w5,w6⟩,w7⟩,⟨⟨w1,w2,w3⟩,⟨w4,w5,w6⟩,w7⟩),⟨Nat.le_refl 1,OD,OD,bw,cw,hE⟩,?_,fun x hx=>?_⟩
 .exact KZ0
 refine gYe ?_;obtain⟨f,n,t,s⟩:=x;obtain⟨hx1,hx0,hx2,hx3,hx4,hx5⟩:=hx;simp only at hx0 hx1 hx2 hx3 hx4 hx5
 cases f with
 |zero=>omega
 |succ f=>
  simp only[exG]at hx5;have b1:=zy7 hx3 hy hp (by rw[zgo];exact pwF O O);rw[zgo]at b1;have b2:=zur b1 (n:=n) O O hp (pwF O O);have c1:=x135 t ⟨⟨y1,y2,y3⟩,⟨y4,y5,y6⟩,y7⟩ hx3.1.ri hy.1.ri p;have c2:=zvk n O;have c3:=x132 _ _ b1.1.ri (xx (n:=n) O).ri p;have c4:=zzm s _ hx4.ri b2.1.ri p;have S4:=zax s (uq (ja t ⟨⟨y1,y2,y3⟩,⟨y4,y5,y6⟩,y7⟩ p) (whI n) p) p;have c5:=x202 _ b2.1.ri p O;have c6:=x203 _ b2.1.ri;have c7:=zzm _ _ S4.ri (qgr b2.1.ri).ri p;have hs:smB (uq (ja t ⟨⟨y1,y2,y3⟩,⟨y4,y5,y6⟩,y7⟩ p) (whI n) p) p=false->(n:Int)<=p:=fun h=>by have:=qdu b2 h;omega
  generalize ja t ⟨⟨y1,y2,y3⟩,⟨y4,y5,y6⟩,y7⟩ p=M at*;generalize whI n=W at*;generalize uq M W p=D at*;generalize kp s D p=S at*;generalize smB D p=B at*;have hb3:bI (pw (1-((n+1:Nat):Int))) D:=by
   have e:(1:Int)-n-1=1-((n+1:Nat):Int):=O
   rwa [e]at b2
  clear b1 b2 hx3 hx4 hy
  cases B with
  |true=>
   rw[Z6 rfl]at hx5;rw[<-hx5]at hR;simp only at hR;rw[<-hR]at c7;clear hR hx5 hE;generalize arI D=A at*;obtain⟨⟨t1,t2,t3⟩,⟨t4,t5,t6⟩,t7⟩:=t;obtain⟨⟨s1,s2,s3⟩,⟨s4,s5,s6⟩,s7⟩:=s;obtain⟨⟨m1,m2,m3⟩,⟨m4,m5,m6⟩,m7⟩:=M;obtain⟨⟨v1,v2,v3⟩,⟨v4,v5,v6⟩,v7⟩:=W;obtain⟨⟨d1,d2,d3⟩,⟨d4,d5,d6⟩,d7⟩:=D;obtain⟨⟨z1,z2,z3⟩,⟨z4,z5,z6⟩,z7⟩:=S;obtain⟨⟨a1,a2,a3⟩,⟨a4,a5,a6⟩,a7⟩:=A;obtain⟨⟨r1,r2,r3⟩,⟨r4,r5,r6⟩,r7⟩:=R;have c1:Fn 244 G0 [.agg [.int .i64 p],.agg [.bool t1,.sl .u32 t2,.int .i64 t3,.bool t4,.sl .u32 t5,.int .i64 t6,.bool t7],.agg [.bool y1,.sl .u32 y2,.int .i64 y3,.bool y4,.sl .u32 y5,.int .i64 y6,.bool y7]] (.agg [.bool m1,.sl .u32 m2,.int .i64 m3,.bool m4,.sl .u32 m5,.int .i64 m6,.bool m7]) G0:=c1;have c2:Fn 237 G0 [.int .i64 n] (.agg [.bool v1,.sl .u32 v2,.int .i64 v3,.bool v4,.sl .u32 v5,.int .i64 v6,.bool v7]) G0:=c2;have c3:Fn 241 G0 [.agg [.int .i64 p],.agg [.bool m1,.sl .u32 m2,.int .i64 m3,.bool m4,.sl .u32 m5,.int .i64 m6,.bool m7],.agg [.bool v1,.sl .u32 v2,.int .i64 v3,.bool v4,.sl .u32 v5,.int .i64 v6,.bool v7]] (.agg [.bool d1,.sl .u32 d2,.int .i64 d3,.bool d4,.sl .u32 d5,.int .i64 d6,.bool d7]) G0:=c3;have c4:Fn 242 G0 [.agg [.int .i64 p],.agg [.bool s1,.sl .u32 s2,.int .i64 s3,.bool s4,.sl .u32 s5,.int .i64 s6,.bool s7],.agg [.bool d1,.sl .u32 d2,.int .i64 d3,.bool d4,.sl .u32 d5,.int .i64 d6,.bool d7]] (.agg [.bool z1,.sl .u32 z2,.int .i64 z3,.bool z4,.sl .u32 z5,.int .i64 z6,.bool z7]) G0:=c4;have c5:Fn 278 [] [.agg [.int .i64 p],.agg [.bool d1,.sl .u32 d2,.int .i64 d3,.bool d4,.sl .u32 d5,.int .i64 d6,.bool d7]] (.bool true) []:=c5;have c6:Fn 279 [] [.agg [.bool d1,.sl .u32 d2,.int .i64 d3,.bool d4,.sl .u32 d5,.int .i64 d6,.bool d7]] (.agg [.bool a1,.sl .u32 a2,.int .i64 a3,.bool a4,.sl .u32 a5,.int .i64 a6,.bool a7]) []:=c6
   have c7:Fn 242 G0 [.agg [.int .i64 p],.agg [.bool z1,.sl .u32 z2,.int .i64 z3,.bool z4,.sl .u32 z5,.int .i64 z6,.bool z7],.agg [.bool a1,.sl .u32 a2,.int .i64 a3,.bool a4,.sl .u32 a5,.int .i64 a6,.bool a7]] (.agg [.bool r1,.sl .u32 r2,.int .i64 r3,.bool r4,.sl .u32 r5,.int .i64 r6,.bool r7]) G0:=c7;refine gYc c1 ?_;refine gYc c2 ?_;refine gYc c3 ?_;refine gYd ?_;refine gYc c4 ?_;refine gYn c5 ?_;refine gYn c6 ?_;refine gYc c7 ?_;refine gYd ?_;exact⟨lr rfl,leG⟩
  |false=>
   rw[Z7 OA]at hx5;have hn:=hs rfl;clear hR c6 c7 hE;obtain⟨⟨t1,t2,t3⟩,⟨t4,t5,t6⟩,t7⟩:=t;obtain⟨⟨s1,s2,s3⟩,⟨s4,s5,s6⟩,s7⟩:=s;obtain⟨⟨m1,m2,m3⟩,⟨m4,m5,m6⟩,m7⟩:=M;obtain⟨⟨v1,v2,v3⟩,⟨v4,v5,v6⟩,v7⟩:=W;obtain⟨⟨d1,d2,d3⟩,⟨d4,d5,d6⟩,d7⟩:=D;obtain⟨⟨z1,z2,z3⟩,⟨z4,z5,z6⟩,z7⟩:=S;have c1:Fn 244 G0 [.agg [.int .i64 p],.agg [.bool t1,.sl .u32 t2,.int .i64 t3,.bool t4,.sl .u32 t5,.int .i64 t6,.bool t7],.agg [.bool y1,.sl .u32 y2,.int .i64 y3,.bool y4,.sl .u32 y5,.int .i64 y6,.bool y7]] (.agg [.bool m1,.sl .u32 m2,.int .i64 m3,.bool m4,.sl .u32 m5,.int .i64 m6,.bool m7]) G0:=c1;have c2:Fn 237 G0 [.int .i64 n] (.agg [.bool v1,.sl .u32 v2,.int .i64 v3,.bool v4,.sl .u32 v5,.int .i64 v6,.bool v7]) G0:=c2;have c3:Fn 241 G0 [.agg [.int .i64 p],.agg [.bool m1,.sl .u32 m2,.int .i64 m3,.bool m4,.sl .u32 m5,.int .i64 m6,.bool m7],.agg [.bool v1,.sl .u32 v2,.int .i64 v3,.bool v4,.sl .u32 v5,.int .i64 v6,.bool v7]] (.agg [.bool d1,.sl .u32 d2,.int .i64 d3,.bool d4,.sl .u32 d5,.int .i64 d6,.bool d7]) G0:=c3;have c4:Fn 242 G0 [.agg [.int .i64 p],.agg [.bool s1,.sl .u32 s2,.int .i64 s3,.bool s4,.sl .u32 s5,.int .i64 s6,.bool s7],.agg [.bool d1,.sl .u32 d2,.int .i64 d3,.bool d4,.sl .u32 d5,.int .i64 d6,.bool d7]] (.agg [.bool z1,.sl .u32 z2,.int .i64 z3,.bool z4,.sl .u32 z5,.int .i64 z6,.bool z7]) G0:=c4;have c5:Fn 278 [] [.agg [.int .i64 p],.agg [.bool d1,.sl .u32 d2,.int .i64 d3,.bool d4,.sl .u32 d5,.int .i64 d6,.bool d7]] (.bool false) []:=c5;refine gYc c1 ?_;refine gYc c2 ?_;refine gYc c3 ?_;refine gYd ?_;refine gYc c4 ?_;refine gYn c5 ?_;refine⟨(f,n+1,⟨⟨d1,d2,d3⟩,⟨d4,d5,d6⟩,d7⟩,⟨⟨z1,z2,z3⟩,⟨z4,z5,z6⟩,z7⟩),⟨OD,OD,OD,hb3,S4,hx5⟩,by show f<f+1;omega,?_⟩;exact KZ0
theorem qab{a b c:Rat}(h:a<=b)(g:b<c):a<c:=qE.1 fun k=>qE.2 g (q0 k h)
theorem CI_ex(y:Iv)(p:Int):CI (qbi y p):=zax _ _ _
def haI(p:Int):Nat->Iv->Iv
 |0,y=>qbi y p
 |n+1,y=>sqI (haI p n (wj y (-1))) p
theorem qgn(p:Int):∀(n:Nat)(y:Iv),CI (haI p n y)
 |0,y=>CI_ex y p
 | _+1,_=>CI_sq p
theorem x130(p:Int)(hp:pcB p=true):∀(n:Nat)(y:Iv),n<=100->bI (pw ((n:Int)-1)) y->Fn 240 G0 [.agg [.int .i64 p],.agg (ivC y),.int .i64 (n:Int)] (.agg (ivC (haI p n y))) G0:=by
 intro n
 induction n with
 |zero=>
  intro y _ hy;have h:=x199 y hy p hp;show Fn 240 G0 [.agg [.int .i64 p],.agg (ivC y),.int .i64 0] (.agg (ivC (qbi y p))) G0;generalize qbi y p=R at*;clear hy;obtain⟨⟨y1,y2,y3⟩,⟨y4,y5,y6⟩,y7⟩:=y;obtain⟨⟨r1,r2,r3⟩,⟨r4,r5,r6⟩,r7⟩:=R;have h:Fn 276 G0 [.agg [.int .i64 p],.agg [.bool y1,.sl .u32 y2,.int .i64 y3,.bool y4,.sl .u32 y5,.int .i64 y6,.bool y7]] (.agg [.bool r1,.sl .u32 r2,.int .i64 r3,.bool r4,.sl .u32 r5,.int .i64 r6,.bool r7]) G0:=h;show Fn 240 G0 [.agg [.int .i64 p],.agg [.bool y1,.sl .u32 y2,.int .i64 y3,.bool y4,.sl .u32 y5,.int .i64 y6,.bool y7],.int .i64 0] _ G0;refine fY6 Tryz.func240 rfl ?_;refine gYc h ?_;exact⟨lr rfl,leG⟩
 |succ n ih0=>
  intro y hn hy;have hs:=i191 y hy.1.ri (-1);have hb:=zxp hy (-1);rw[zgo]at hb;have ih:=ih0 (wj y (-1)) O (by
   have e:(((n+1:Nat):Int)-1-1)=(n:Int)-1:=O
   rwa [e]at hb)
  have hq:=x200 _ (qgn p n (wj y (-1))).ri p;show Fn 240 G0 [.agg [.int .i64 p],.agg (ivC y),.int .i64 ((n+1:Nat):Int)] (.agg (ivC (sqI (haI p n (wj y (-1))) p))) G0;have hw:qH.wrap (((n+1:Nat):Int)-1)=n:=by rw[wI O];omega
  generalize sqI (haI p n (wj y (-1))) p=R at*;generalize haI p n (wj y (-1))=V at*;generalize wj y (-1)=Zq at*;clear hy hb ih0;generalize hN:((n+1:Nat):Int)=N at*;obtain⟨⟨y1,y2,y3⟩,⟨y4,y5,y6⟩,y7⟩:=y;obtain⟨⟨z1,z2,z3⟩,⟨z4,z5,z6⟩,z7⟩:=Zq;obtain⟨⟨v1,v2,v3⟩,⟨v4,v5,v6⟩,v7⟩:=V;obtain⟨⟨r1,r2,r3⟩,⟨r4,r5,r6⟩,r7⟩:=R;have hs:Fn 133 G0 [.agg [.bool y1,.sl .u32 y2,.int .i64 y3,.bool y4,.sl .u32 y5,.int .i64 y6,.bool y7],.int .i64 (-1)] (.agg [.bool z1,.sl .u32 z2,.int .i64 z3,.bool z4,.sl .u32 z5,.int .i64 z6,.bool z7]) G0:=hs;have ih:Fn 240 G0 [.agg [.int .i64 p],.agg [.bool z1,.sl .u32 z2,.int .i64 z3,.bool z4,.sl .u32 z5,.int .i64 z6,.bool z7],.int .i64 n] (.agg [.bool v1,.sl .u32 v2,.int .i64 v3,.bool v4,.sl .u32 v5,.int .i64 v6,.bool v7]) G0:=ih;have hq:Fn 277 G0 [.agg [.bool v1,.sl .u32 v2,.int .i64 v3,.bool v4,.sl .u32 v5,.int .i64 v6,.bool v7],.int .i64 p] (.agg [.bool r1,.sl .u32 r2,.int .i64 r3,.bool r4,.sl .u32 r5,.int .i64 r6,.bool r7]) G0:=hq;show Fn 240 G0 [.agg [.int .i64 p],.agg [.bool y1,.sl .u32 y2,.int .i64 y3,.bool y4,.sl .u32 y5,.int .i64 y6,.bool y7],.int .i64 N] _ G0;refine fY6 Tryz.func240 rfl ?_;refine brI (fun h1=>?_) (fun _=>?_)
  .have h1:(N==0)=true:=h1;have h1:N=0:=by simpa using h1
   omega
  conv=>whnf
  refine gYc hs ?_;rw[hw];refine gYc ih ?_;refine gYc hq ?_;refine gYd ?_;exact⟨lr rfl,leG⟩
def hvN(d:Dy):Nat:=(zn d+1).toNat
def poI(d:Dy)(p:Int):Iv:=if qs d=0 then whI 1 else vh (haI (guP p (hvN d+24)) (hvN d) (vh (qt d) (guP p (hvN d+24)))) p
theorem qfj{d:Dy}(h0:nm d≠0): -(pw (zn d))<=dv d/\dv d<=pw (zn d):=by
 have ht:zn d=bl (nm d)+d.e:=by unfold zn;rw[Z7 h0]
 have h1:=zdq (n:=nm d) (e:=d.e) (t:=zn d) O;have h2:=zkv (nm d) d.e;unfold dv;split<;>constructor<;>grind
theorem qen{d:Dy}(hm:mdB d=true)(h0:nm d≠0):zn d<=10:=by
 have hm:wa (yq d) (wg 1000)<=0:=Z0 hm;have h1:=zbx.1 hm;rw[zbu]at h1;have h2:dv (yq d)=vN (nm d) d.e:=rfl;rw[h2]at h1;have ht:zn d=bl (nm d)+d.e:=by unfold zn;rw[Z7 h0]
 have h3:=yd (n:=nm d) (e:=d.e) (t:=zn d-1) O h0;have h4:((1000:Int):Rat)<pw 10:=by
  rw[show pw 10=((2^10:Nat):Rat)from zso 10];decide
 have h5:=qab (q0 h3 h1) h4;have:¬(10:Int)<=zn d-1:=fun c=>qE.2 h5 (zjs.2 c)
 omega
theorem qa7{p m:Int}(hp:8<=p/\p<=512)(hm:0<=m):pcB (guP p m)=true:=by
 unfold pcB guP;simp;omega
theorem zga{x:Iv}(p:Int):CI (vh x p):=by
 unfold vh;split
 .rename_i h;exact yb (jk _ _ _ (vj h.2)) (jk _ _ _ (vj h.2))
 .exact zhu
theorem qgj(d:Dy)(p:Int):CI (poI d p):=by
 unfold poI;split
 .exact .inr ⟨rfl,wu 1 OA,wu 1 OA⟩
 .exact zga p
theorem x87{d:Dy}(hd:VD d)(hm:mdB d=true)(p:Int)(hp:8<=p/\p<=512):Fn 186 G0 [.agg (dyC d),.int .i64 p] (.agg (ivC (poI d p))) G0:=by
 have h81:=zq9 hd;have h126:=zvk 1 OA;have h127:=zn0 hd;have h77:=zyr hd;have hR:poI d p=if qs d=0 then whI 1 else vh (haI (guP p (hvN d+24)) (hvN d) (vh (qt d) (guP p (hvN d+24)))) p:=rfl
 generalize poI d p=R at*;by_cases h0:nm d=0
 .have hs:qs d=0:=by unfold qs;rw[Z6 h0]
  rw[Z6 hs]at hR;rw[hs]at h81;rw[<-hR]at h126;clear hd hm h127 h77 hR h0 hs;refine fY6 Tryz.func186 rfl ?_;refine gYn h81 ?_;refine gYc h126 ?_;exact⟨lr rfl,leG⟩
 have hs:qs d≠0:=by unfold qs;rw[Z7 h0];split<;>decide
 have htop:=qen hm h0;have hlow: -100000<=zn d:=by
  have:=hd.exp;unfold zn;rw[Z7 h0];omega
 rw[Z7 hs]at hR;have hn:hvN d<=11:=by unfold hvN;omega
 have hn2:zn d<=(hvN d:Int)-1:=by unfold hvN;omega
 have hg:=qa7 hp (m:=(hvN d:Int)+24) O;have hg8:8<=guP p ((hvN d:Int)+24)/\guP p ((hvN d:Int)+24)<=512:=by unfold pcB at hg;simpa using hg
 have hpt:bI (pw ((hvN d:Int)-1)) (qt d):=by
  have:=qfj h0;have hle:pw (zn d)<=pw ((hvN d:Int)-1):=zjs.2 hn2;refine⟨.inl (zxw hd),.inr ⟨?_,q0 this.2 hle⟩⟩;have h1:=this.1;show-(pw ((hvN d:Int)-1))<=dv d;grind
 have hr1:=zxq hpt (p:=guP p ((hvN d:Int)+24)) (pwF O O);have c1:=x128 p ((hvN d:Int)+24) O O;have c2:=qez _ hpt.1.ri (guP p ((hvN d:Int)+24));have c3:=x130 _ hg (hvN d) _ O hr1;have c4:=qez _ (qgn (guP p ((hvN d:Int)+24)) (hvN d) (vh (qt d) (guP p ((hvN d:Int)+24)))).ri p;rw[<-hR]at c4;have hmax:(if(0:Int)>qH.wrap (zn d+1)then 0 else qH.wrap (zn d+1))=(hvN d:Int):=by
  rw[wI O];unfold hvN;split<;>omega
 have hw:qH.wrap ((hvN d:Int)+24)=(hvN d:Int)+24:=wI O;have hw2:qH.wrap (zn d+1)=zn d+1:=wI O;clear hR hr1 hpt hg hm;generalize haI (guP p ((hvN d:Int)+24)) (hvN d) (vh (qt d) (guP p ((hvN d:Int)+24)))=V at*;generalize vh (qt d) (guP p ((hvN d:Int)+24))=Zq at*;generalize qt d=P at*;generalize guP p ((hvN d:Int)+24)=g at*;generalize (hvN d:Int)=N at*;generalize zn d=t at*;generalize qs d=S at*;clear hd h0;refine fY6 Tryz.func186 rfl ?_;refine gYn h81 ?_;refine brI (fun k1=>?_) (fun _=>?_)
 .have k1:(S==0)=true:=k1;exact absurd (by simpa using k1) hs
 conv=>whnf
 refine gYn h127 ?_;rw[hmax,hw];refine gYn c1 ?_;refine gYn h77 ?_;refine gYc c2 ?_;refine gYc c3 ?_;refine gYc c4 ?_;refine gYd ?_;exact⟨lr rfl,leG⟩
def zyx(x:Iv)(p:Int):Iv:=if ftB x p=true/\mdB x.lo=true/\mdB x.hi=true then edI (poI x.lo p) (poI x.hi p)else wI0
theorem qgo(x:Iv)(p:Int):CI (zyx x p):=by
 unfold zyx;split
 .exact qgq (qgj _ _) (qgj _ _)
 .exact zhu
theorem x33(x:Iv)(hx:RI x)(p:Int):Fn 116 G0 [.agg (ivC x),.int .i64 p] (.agg (ivC (zyx x p))) G0:=by
 have h84:=x84 x hx p;have h25:=i25;rw[e25]at h25;have hR:zyx x p=if ftB x p=true/\mdB x.lo=true/\mdB x.hi=true then edI (poI x.lo p) (poI x.hi p)else wI0:=rfl
 generalize zyx x p=R at*;by_cases hf:ftB x p=true
 rotate_left
 .rw[Z7 fun c=>hf c.1]at hR;subst hR;rw[show ftB x p=false by simpa using hf]at h84;clear hf hx;refine fY6 Tryz.func116 rfl ?_;refine gYn h84 ?_;refine gYn h25 ?_;exact⟨lr rfl,leG⟩
 rw[hf]at h84;have hf':=hf;unfold ftB at hf';rw[Bool.and_eq_true]at hf';have k:=(zw hx).1 hf'.1;have hp8:8<=p/\p<=512:=by have:=hf'.2;unfold pcB at this;simpa using this
 have m1:=x85 k.lo;have m2:=x85 k.hi;by_cases h1:mdB x.lo=true
 rotate_left
 .rw[Z7 fun c=>h1 c.2.1]at hR;subst hR;rw[show mdB x.lo=false by simpa using h1]at m1;clear hf hf' k hx m2 h1;refine fY6 Tryz.func116 rfl ?_;refine gYn h84 ?_;refine gYc m1 ?_;refine gYn h25 ?_;exact⟨lr rfl,leG⟩
 rw[h1]at m1;by_cases h2:mdB x.hi=true
 rotate_left
 .rw[Z7 fun c=>h2 c.2.2]at hR;subst hR;rw[show mdB x.hi=false by simpa using h2]at m2;clear hf hf' k hx h1 h2;refine fY6 Tryz.func116 rfl ?_;refine gYn h84 ?_;refine gYc m1 ?_;refine gYc m2 ?_;refine gYn h25 ?_;exact⟨lr rfl,leG⟩
 rw[h2]at m2;rw[Z6 ⟨hf,h1,h2⟩]at hR;have c1:=x87 k.lo h1 p hp8;have c2:=x87 k.hi h2 p hp8;have c3:=x86 (poI x.lo p) (poI x.hi p);rw[<-hR]at c3;clear hR;generalize poI x.lo p=A at*;generalize poI x.hi p=B at*;clear hf hf' k hx h1 h2;refine fY6 Tryz.func116 rfl ?_;refine gYn h84 ?_;refine gYc m1 ?_;refine gYc m2 ?_;refine gYc c1 ?_;refine gYc c2 ?_;refine gYn c3 ?_;refine gYd ?_;exact⟨lr rfl,leG⟩
def inB(a b:Rat)(x:Iv):Prop:=VI x/\(x.all=true\/(a<=dv x.lo/\dv x.hi<=b))
theorem zsh{a b:Rat}{x:Iv}(hx:inB a b x){p:Int}(ha:Fp p.toNat a)(hb:Fp p.toNat b\/pw 16384<=b):inB a b (vh x p):=by
 unfold vh;split
 .rename_i c;obtain⟨c1,hp⟩:=c;have k:=(zw hx.1.ri).1 c1;have R1:=zca k.lo (vj hp);have R2:=zca k.hi (vj hp);obtain⟨a1,a2⟩:=hx.2.resolve_left (by rw[k.all];decide);refine⟨zv3 R1 R2 (yb (jk _ _ _ (vj hp)) (jk _ _ _ (vj hp))) k.dle,?_⟩
  cases h:(vl (qm x.lo p.toNat false) (qm x.hi p.toNat true)).all with
  |true=>exact .inl rfl
  |false=>
   right;rw[zdb h];refine⟨(R1.1.2 a ha a1).2,?_⟩;rcases hb with hb|hb
   .exact(R2.2.2 b hb a2).2
   .rcases(R2.2.1 (zd4.1 h).2).2 with ⟨_,_,_,_,_,c⟩|c
    .exact q0 (qB c) hb
    .have h1:=ziu c;have h2:=zm2 16384;exact q0 (show dv (qm x.hi p.toNat true).1<=pw 16384 by grind) hb
 .exact⟨.inr rfl,.inl rfl⟩
theorem zsa{a b:Rat}{x:Iv}(hx:inB a b x)(k:Int):inB (a*pw k) (b*pw k) (wj x k):=by
 unfold wj;split
 .rename_i c1;have kx:=(zw hx.1.ri).1 c1;obtain⟨a1,a2⟩:=hx.2.resolve_left (by rw[kx.all];decide);have hc:=yb (zab x.lo k) (zab x.hi k)
  cases ha:(vl (ql x.lo k) (ql x.hi k)).all with
  |true=>exact⟨zx1 hc (fun c=>by rw[ha]at c;cases c),.inl ha⟩
  |false=>
   have e:=zdb ha;obtain⟨o1,o2⟩:=zd4.1 ha;have e1:dv (vl (ql x.lo k) (ql x.hi k)).lo =dv x.lo*pw k:=by rw[e];exact zft o1
   have e2:dv (vl (ql x.lo k) (ql x.hi k)).hi =dv x.hi*pw k:=by rw[e];exact zft o2
   refine⟨zx1 hc fun _=>by rw[e1,e2];exact vz kx.dle (zm2 k),.inr ?_⟩;rw[e1,e2];exact⟨vz a1 (zm2 k),vz a2 (zm2 k)⟩
 .exact⟨.inr rfl,.inl rfl⟩
theorem zuu{a b c d e f:Rat}{x y:Iv}(hx:inB a b x)(hy:inB c d y){p:Int}(hp:pcB p=true)(h1:e<=a+c)(h2:b+d<=f)(he:Fp p.toNat e)(hf:Fp p.toNat f):inB e f (kp x y p):=by
 refine⟨qf9 hx.1 hy.1 hp,?_⟩
 cases ha:(kp x y p).all with
 |true=>exact .inl rfl
 |false=>
  right;by_cases hk:KI x/\KI y
  .rw[zuv hk.1 hk.2 hp]at ha⊢;obtain⟨a1,a2⟩:=hx.2.resolve_left (by rw[hk.1.all];decide);obtain⟨b1,b2⟩:=hy.2.resolve_left (by rw[hk.2.all];decide);have R1:=zja hk.1.lo hk.2.lo (vj hp);have R2:=zja hk.1.hi hk.2.hi (vj hp);rw[zdb ha];exact⟨(R1.1.2 e he (by grind)).2,(R2.2.2 f hf (by grind)).2⟩
  .rw[qf8 hx.1.ri hy.1.ri hk]at ha;cases ha
theorem qb8{B c:Rat}{x y:Iv}(hx:bI B x)(hy:inB 1 c y){p:Int}(hp:pcB p=true)(hF:inF p.toNat B):bI B (uq x y p):=by
 refine⟨znm hx.1 hy.1 hp,?_⟩
 cases ha:(uq x y p).all with
 |true=>exact .inl rfl
 |false=>
  right;by_cases hk:KI x/\KI y
  .obtain⟨b1,b2⟩:=hy.2.resolve_left (by rw[hk.2.all];decide);have b3:=q0 b1 hk.2.dle;have hs:0<dv y.lo\/dv y.hi<0:=.inl (by grind);rw[zkj hk.1 hk.2 hs hp]at ha⊢;obtain⟨⟨a1,a2⟩,⟨a3,a4⟩⟩:=hx.ends hk.1;have q:∀a n:Rat,-B<=a->a<=B->1<=n-> -B<=a/n/\a/n<=B:=fun a n c1 c2 c3=>by
    obtain⟨i1,i2⟩:=zit c3;have:=ze9 c1 c2 i1 i2
    rwa [qF,<-qG]at this
   refine zxx (zpp hk.1 hk.2 hs (vj hp)) hF ?_ ha;exact⟨q _ _ a1 a2 b1,q _ _ a1 a2 b3,q _ _ a3 a4 b1,q _ _ a3 a4 b3⟩
  .rw[zub hx.1.ri hy.1.ri fun c=>hk ⟨c.1,c.2.1⟩]at ha;cases ha
theorem vu{p:Int}(hp:pcB p=true):bI (pw (-1)) (uq (whI 1) (whI 3) p):=by
 have k1:=xx (n:=1) OA;have k3:=xx (n:=3) OA;have e1:dv (whI 1).lo =1:=zbu 1;have e1':dv (whI 1).hi =1:=zbu 1;have e3:dv (whI 3).lo =3:=zbu 3;have e3':dv (whI 3).hi =3:=zbu 3;have hs:0<dv (whI 3).lo \/dv (whI 3).hi <0:=.inl (by rw[e3];decide);have ph:pw (-1)=1/2:=OB;refine⟨znm (.inl k1) (.inl k3) hp,?_⟩
 cases ha:(uq (whI 1) (whI 3) p).all with
 |true=>exact .inl rfl
 |false=>
  right;rw[zkj k1 k3 hs hp]at ha⊢;refine zxx (zpp k1 k3 hs (vj hp)) (pwF OA OA) ?_ ha;unfold qbf;rw[e1,e1',e3,e3',ph];decide+kernel
def lgG(q:Iv)(p:Int):Nat->Nat->Iv->Iv->Iv×Iv
 |0,_,w,s=>(w,s)
 |f+1,n,w,s=>if smB w p=true then(w,s)else lgG q p f (n+2) (ja w q p) (kp s (uq (ja w q p) (whI n) p) p)
def loI(z:Iv)(p:Int):Iv:=wj (kp (lgG (sqI z p) p (p.toNat+2) 3 z z).2 (arI (lgG (sqI z p) p (p.toNat+2) 3 z z).1) p) 1
theorem zp4(x:Iv)(k:Int):CI (wj x k):=by
 unfold wj;split
 .exact yb (zab _ _) (zab _ _)
 .exact zhu
theorem qgl(z:Iv)(p:Int):CI (loI z p):=zp4 _ _
theorem VI_CI{x:Iv}(h:VI x):CI x:=by
 rcases h with k|rfl
 .exact .inr ⟨k.all,k.lo,k.hi⟩
 .exact zhu
theorem x134(z:Iv)(hz:bI (pw (-1)) z)(p:Int)(hp:pcB p=true):Fn 243 G0 [.agg [.int .i64 p],.agg (ivC z)] (.agg (ivC (loI z p))) G0:=by
 have hp8:8<=p/\p<=512:=by unfold pcB at hp;simpa using hp
 have hR:loI z p=wj (kp (lgG (sqI z p) p (p.toNat+2) 3 z z).2 (arI (lgG (sqI z p) p (p.toNat+2) 3 z z).1) p) 1:=rfl;generalize loI z p=R at*;have hq:=x200 z hz.1.ri p;have bq:=bI_sq hz (p:=p) (by rw[zgo];exact pwF O O);rw[zgo]at bq;generalize sqI z p=Q at*;obtain⟨E,hE⟩:∃E,lgG Q p (p.toNat+2) 3 z z=E:=⟨_,rfl⟩;rw[hE]at hR;have cz:=VI_CI hz.1;obtain⟨⟨z1,z2,z3⟩,⟨z4,z5,z6⟩,z7⟩:=z;obtain⟨⟨q1,q2,q3⟩,⟨q4,q5,q6⟩,q7⟩:=Q;have hq:Fn 277 G0 [.agg [.bool z1,.sl .u32 z2,.int .i64 z3,.bool z4,.sl .u32 z5,.int .i64 z6,.bool z7],.int .i64 p] (.agg [.bool q1,.sl .u32 q2,.int .i64 q3,.bool q4,.sl .u32 q5,.int .i64 q6,.bool q7]) G0:=hq;show Fn 243 G0 [.agg [.int .i64 p],.agg [.bool z1,.sl .u32 z2,.int .i64 z3,.bool z4,.sl .u32 z5,.int .i64 z6,.bool z7]] _ G0;refine fY6 Tryz.func243 rfl ?_;refine gYc hq ?_;refine gYd ?_;refine⟨Nat×Nat×Iv×Iv,fun x=>3<=x.2.1/\(x.2.1:Int)<=p+4/\(x.2.1:Int)+2*x.1=2*p+7/\bI (pw (2-x.2.1)) x.2.2.1/\CI x.2.2.2/\lgG ⟨⟨q1,q2,q3⟩,⟨q4,q5,q6⟩,q7⟩ p x.1 x.2.1 x.2.2.1 x.2.2.2=E,fun x=> [(8,.int .i64 x.2.1)],fun x=> [(6,.cells (ivC x.2.2.1)),(7,.cells (ivC x.2.2.2))],fun x=>x.1,
  (p.toNat+2,3,⟨⟨z1,z2,z3⟩,⟨z4,z5,z6⟩,z7⟩,⟨⟨z1,z2,z3⟩,⟨z4,z5,z6⟩,z7⟩),⟨Nat.le_refl 3,OD,OD,hz,cz,hE⟩,?_,fun x hx=>?_⟩
 .exact KZ0
 refine gYe ?_;obtain⟨f,n,w,s⟩:=x;obtain⟨hx1,hx0,hx2,hx3,hx4,hx5⟩:=hx;simp only at hx0 hx1 hx2 hx3 hx4 hx5
 cases f with
 |zero=>omega
 |succ f=>
  simp only[lgG]at hx5;have c5:=x202 w hx3.1.ri p O;have hs:smB w p=false->(n:Int)<=p+2:=fun h=>by have:=qdu hx3 h;omega
  generalize smB w p=B at*
  cases B with
  |true=>
   rw[Z6 rfl]at hx5;have c6:=x203 _ hx3.1.ri;have c7:=zzm _ _ hx4.ri (qgr hx3.1.ri).ri p;have c8:=i191 _ (zax s (arI w) p).ri 1;rw[<-hx5]at hR;simp only at hR;rw[<-hR]at c8;clear hR hx5 hE hx3 hx4 hz bq cz hs;generalize kp s (arI w) p=D at*;generalize arI w=A at*;obtain⟨⟨w1,w2,w3⟩,⟨w4,w5,w6⟩,w7⟩:=w;obtain⟨⟨s1,s2,s3⟩,⟨s4,s5,s6⟩,s7⟩:=s;obtain⟨⟨d1,d2,d3⟩,⟨d4,d5,d6⟩,d7⟩:=D;obtain⟨⟨a1,a2,a3⟩,⟨a4,a5,a6⟩,a7⟩:=A;obtain⟨⟨r1,r2,r3⟩,⟨r4,r5,r6⟩,r7⟩:=R;have c5:Fn 278 [] [.agg [.int .i64 p],.agg [.bool w1,.sl .u32 w2,.int .i64 w3,.bool w4,.sl .u32 w5,.int .i64 w6,.bool w7]] (.bool true) []:=c5;have c6:Fn 279 [] [.agg [.bool w1,.sl .u32 w2,.int .i64 w3,.bool w4,.sl .u32 w5,.int .i64 w6,.bool w7]] (.agg [.bool a1,.sl .u32 a2,.int .i64 a3,.bool a4,.sl .u32 a5,.int .i64 a6,.bool a7]) []:=c6;have c7:Fn 242 G0 [.agg [.int .i64 p],.agg [.bool s1,.sl .u32 s2,.int .i64 s3,.bool s4,.sl .u32 s5,.int .i64 s6,.bool s7],.agg [.bool a1,.sl .u32 a2,.int .i64 a3,.bool a4,.sl .u32 a5,.int .i64 a6,.bool a7]] (.agg [.bool d1,.sl .u32 d2,.int .i64 d3,.bool d4,.sl .u32 d5,.int .i64 d6,.bool d7]) G0:=c7;have c8:Fn 133 G0 [.agg [.bool d1,.sl .u32 d2,.int .i64 d3,.bool d4,.sl .u32 d5,.int .i64 d6,.bool d7],.int .i64 1] (.agg [.bool r1,.sl .u32 r2,.int .i64 r3,.bool r4,.sl .u32 r5,.int .i64 r6,.bool r7]) G0:=c8;refine gYn c5 ?_;refine gYn c6 ?_;refine gYc c7 ?_;refine gYc c8 ?_;refine gYd ?_;exact⟨lr rfl,leG⟩
  |false=>
   rw[Z7 OA]at hx5;have hn:=hs rfl;have b1:=zy7 hx3 bq hp (by rw[<-pwA];exact pwF O O);rw[<-pwA]at b1;have b2:=zur b1 (n:=n) O O hp (pwF O O);have c1:=x135 w ⟨⟨q1,q2,q3⟩,⟨q4,q5,q6⟩,q7⟩ hx3.1.ri bq.1.ri p;have c2:=zvk n O;have c3:=x132 _ _ b1.1.ri (xx (n:=n) O).ri p;have c4:=zzm s _ hx4.ri b2.1.ri p;have S4:=zax s (uq (ja w ⟨⟨q1,q2,q3⟩,⟨q4,q5,q6⟩,q7⟩ p) (whI n) p) p;generalize ja w ⟨⟨q1,q2,q3⟩,⟨q4,q5,q6⟩,q7⟩ p=M at*;generalize whI n=W at*;generalize uq M W p=D at*;generalize kp s D p=S at*;have hb3:bI (pw (2-((n+2:Nat):Int))) M:=by
    have e:(2:Int)-n+(-1-1)=2-((n+2:Nat):Int):=O
    rwa [e]at b1
   clear b1 b2 hx3 hx4 hz hR hE cz;obtain⟨⟨w1,w2,w3⟩,⟨w4,w5,w6⟩,w7⟩:=w;obtain⟨⟨s1,s2,s3⟩,⟨s4,s5,s6⟩,s7⟩:=s;obtain⟨⟨m1,m2,m3⟩,⟨m4,m5,m6⟩,m7⟩:=M;obtain⟨⟨v1,v2,v3⟩,⟨v4,v5,v6⟩,v7⟩:=W;obtain⟨⟨d1,d2,d3⟩,⟨d4,d5,d6⟩,d7⟩:=D;obtain⟨⟨u1,u2,u3⟩,⟨u4,u5,u6⟩,u7⟩:=S;have c5:Fn 278 [] [.agg [.int .i64 p],.agg [.bool w1,.sl .u32 w2,.int .i64 w3,.bool w4,.sl .u32 w5,.int .i64 w6,.bool w7]] (.bool false) []:=c5;have c1:Fn 244 G0 [.agg [.int .i64 p],.agg [.bool w1,.sl .u32 w2,.int .i64 w3,.bool w4,.sl .u32 w5,.int .i64 w6,.bool w7],.agg [.bool q1,.sl .u32 q2,.int .i64 q3,.bool q4,.sl .u32 q5,.int .i64 q6,.bool q7]] (.agg [.bool m1,.sl .u32 m2,.int .i64 m3,.bool m4,.sl .u32 m5,.int .i64 m6,.bool m7]) G0:=c1;have c2:Fn 237 G0 [.int .i64 n] (.agg [.bool v1,.sl .u32 v2,.int .i64 v3,.bool v4,.sl .u32 v5,.int .i64 v6,.bool v7]) G0:=c2;have c3:Fn 241 G0 [.agg [.int .i64 p],.agg [.bool m1,.sl .u32 m2,.int .i64 m3,.bool m4,.sl .u32 m5,.int .i64 m6,.bool m7],.agg [.bool v1,.sl .u32 v2,.int .i64 v3,.bool v4,.sl .u32 v5,.int .i64 v6,.bool v7]] (.agg [.bool d1,.sl .u32 d2,.int .i64 d3,.bool d4,.sl .u32 d5,.int .i64 d6,.bool d7]) G0:=c3;have c4:Fn 242 G0 [.agg [.int .i64 p],.agg [.bool s1,.sl .u32 s2,.int .i64 s3,.bool s4,.sl .u32 s5,.int .i64 s6,.bool s7],.agg [.bool d1,.sl .u32 d2,.int .i64 d3,.bool d4,.sl .u32 d5,.int .i64 d6,.bool d7]] (.agg [.bool u1,.sl .u32 u2,.int .i64 u3,.bool u4,.sl .u32 u5,.int .i64 u6,.bool u7]) G0:=c4;refine gYn c5 ?_;refine gYc c1 ?_;refine gYc c2 ?_;refine gYc c3 ?_;refine gYc c4 ?_;refine gYd ?_;refine⟨(f,n+2,⟨⟨m1,m2,m3⟩,⟨m4,m5,m6⟩,m7⟩,⟨⟨u1,u2,u3⟩,⟨u4,u5,u6⟩,u7⟩),⟨OD,OD,OD,hb3,S4,hx5⟩,by show f<f+1;omega,?_⟩;exact KZ0
def l2I(p:Int):Iv:=vh (loI (uq (whI 1) (whI 3) (guP p 16)) (guP p 16)) p
theorem x136(p:Int)(hp:8<=p/\p<=512):Fn 245 G0 [.int .i64 p] (.agg (ivC (l2I p))) G0:=by
 have hg:=qa7 hp (m:=16) OA;have c0:=x128 p 16 O OA;have c1:=zvk 1 OA;have c2:=zvk 3 OA;have c3:=x132 _ _ (xx (n:=1) OA).ri (xx (n:=3) OA).ri (guP p 16);have c4:=x134 _ (vu hg) _ hg;have c5:=qez _ (qgl (uq (whI 1) (whI 3) (guP p 16)) (guP p 16)).ri p;show Fn 245 G0 [.int .i64 p] (.agg (ivC (vh (loI (uq (whI 1) (whI 3) (guP p 16)) (guP p 16)) p))) G0;generalize vh (loI (uq (whI 1) (whI 3) (guP p 16)) (guP p 16)) p=R at*;generalize loI (uq (whI 1) (whI 3) (guP p 16)) (guP p 16)=L at*;generalize uq (whI 1) (whI 3) (guP p 16)=D at*;generalize guP p 16=g at*;generalize whI 1=V at*;generalize whI 3=W at*;obtain⟨⟨v1,v2,v3⟩,⟨v4,v5,v6⟩,v7⟩:=V;obtain⟨⟨w1,w2,w3⟩,⟨w4,w5,w6⟩,w7⟩:=W;obtain⟨⟨d1,d2,d3⟩,⟨d4,d5,d6⟩,d7⟩:=D;obtain⟨⟨l1,l2,l3⟩,⟨l4,l5,l6⟩,l7⟩:=L;obtain⟨⟨r1,r2,r3⟩,⟨r4,r5,r6⟩,r7⟩:=R;have c1:Fn 237 G0 [.int .i64 1] (.agg [.bool v1,.sl .u32 v2,.int .i64 v3,.bool v4,.sl .u32 v5,.int .i64 v6,.bool v7]) G0:=c1;have c2:Fn 237 G0 [.int .i64 3] (.agg [.bool w1,.sl .u32 w2,.int .i64 w3,.bool w4,.sl .u32 w5,.int .i64 w6,.bool w7]) G0:=c2;have c3:Fn 241 G0 [.agg [.int .i64 g],.agg [.bool v1,.sl .u32 v2,.int .i64 v3,.bool v4,.sl .u32 v5,.int .i64 v6,.bool v7],.agg [.bool w1,.sl .u32 w2,.int .i64 w3,.bool w4,.sl .u32 w5,.int .i64 w6,.bool w7]] (.agg [.bool d1,.sl .u32 d2,.int .i64 d3,.bool d4,.sl .u32 d5,.int .i64 d6,.bool d7]) G0:=c3;have c4:Fn 243 G0 [.agg [.int .i64 g],.agg [.bool d1,.sl .u32 d2,.int .i64 d3,.bool d4,.sl .u32 d5,.int .i64 d6,.bool d7]] (.agg [.bool l1,.sl .u32 l2,.int .i64 l3,.bool l4,.sl .u32 l5,.int .i64 l6,.bool l7]) G0:=c4;have c5:Fn 239 G0 [.agg [.bool l1,.sl .u32 l2,.int .i64 l3,.bool l4,.sl .u32 l5,.int .i64 l6,.bool l7],.int .i64 p] (.agg [.bool r1,.sl .u32 r2,.int .i64 r3,.bool r4,.sl .u32 r5,.int .i64 r6,.bool r7]) G0:=c5;refine fY6 Tryz.func245 rfl ?_;refine brI (fun h=>?_) (fun h=>?_)
 .have h:=Z0 h;omega
 conv=>whnf
 refine brI (fun h=>?_) (fun h=>?_)
 .have h:=Z0 h;omega
 conv=>whnf
 refine gYn c0 ?_;refine gYc c1 ?_;refine gYc c2 ?_;refine gYc c3 ?_;refine gYc c4 ?_;refine gYc c5 ?_;refine gYd ?_;exact⟨lr rfl,leG⟩
def lmI(d:Dy)(g:Int):Iv:=wj (vh (qt d) g) (-(zn d))
def lzI(d:Dy)(g:Int):Iv:=uq (kp (lmI d g) (whI (-1)) g) (kp (lmI d g) (whI 1) g) g
def lnI(d:Dy)(p:Int):Iv:=if wa d (wg 1)=0 then⟨d0,d0,false⟩else
 vh (kp (loI (lzI d (guP p 40)) (guP p 40)) (ja (whI (zn d)) (l2I (guP p 40)) (guP p 40)) (guP p 40)) p
theorem qgm(d:Dy)(p:Int):CI (lnI d p):=by
 unfold lnI;split
 .exact .inr ⟨rfl,qv,qv⟩
 .exact zga p
theorem qep{d:Dy}(hd:VD d)(hs:0<qs d)(g:Int):inB (pw (-1)) (pw 0) (lmI d g):=by
 have hn:nm d≠0:=fun c=>by unfold qs at hs;rw[Z6 c]at hs;omega
 have hneg:d.neg=false:=by
  unfold qs at hs;rw[Z7 hn]at hs
  cases h:d.neg with
  |true=>rw[h]at hs;simp at hs
  |false=>rfl
 have ht:zn d=bl (nm d)+d.e:=by unfold zn;rw[Z7 hn]
 have hv:dv d=vN (nm d) d.e:=by unfold dv;rw[hneg];rfl
 have h1:=zdq (n:=nm d) (e:=d.e) (t:=zn d) O;have h2:=yd (n:=nm d) (e:=d.e) (t:=zn d-1) O hn;rw[<-hv]at h1 h2;have he:=hd.exp;have hbl:1<=bl (nm d):=by
  have:bl (nm d)≠0:=fun c=>hn (kj.1 c)
  omega
 have hpt:inB (pw (zn d-1)) (pw (zn d)) (qt d):=⟨.inl (zxw hd),.inr ⟨h2,qB h1⟩⟩;have hr:=zsh hpt (p:=g) (.inl (pwF O O)) (by
  by_cases hbig:zn d<16384
  .exact .inl (.inl (pwF O hbig))
  .exact .inr (zjs.2 O))
 have:=zsa hr (-(zn d));rw[<-pwA,<-pwA,(O:zn d-1+ -(zn d)= -1),(O:zn d+ -(zn d)=0)]at this;exact this
theorem qda(n:Int)(h: -4611686018427387904<=n/\n<=4611686018427387904):inB (n:Rat) (n:Rat) (whI n):=by
 have e:dv (whI n).lo =(n:Rat):=zbu n;have e':dv (whI n).hi =(n:Rat):=zbu n;exact⟨.inl (xx h),.inr (by rw[e,e'];exact⟨qC,qC⟩)⟩
theorem lz_in{d:Dy}(hd:VD d)(hs:0<qs d){g:Int}(hg:pcB g=true):bI (pw (-1)) (kp (lmI d g) (whI (-1)) g)/\inB 1 (pw 1) (kp (lmI d g) (whI 1) g):=by
 have h:=qep hd hs g;have ph:pw (-1)=1/2:=OB;have p0:pw 0=1:=rfl;have p1:pw 1=2:=OB;have F1:inF g.toNat (pw (-1)):=pwF OA OA;have F0:inF g.toNat (pw 0):=pwF OA OA;have F2:inF g.toNat (pw 1):=pwF OA OA;have n1:((-1:Int):Rat)= -1:=rfl;have n2:((1:Int):Rat)=1:=rfl;have w1:=qda (-1) OA;have w2:=qda 1 OA;rw[n1]at w1;rw[n2]at w2;exact⟨zuu h w1 hg (by rw[ph];decide+kernel) (by rw[ph,p0];decide+kernel) (.inr (by rw[qD];exact F1)) (.inl F1),
  zuu h w2 hg (by rw[ph];decide+kernel) (by rw[p0,p1];decide+kernel) (.inl (by rw[<-p0];exact F0)) (.inl F2)⟩
theorem x88{d:Dy}(hd:VD d)(hs:0<qs d)(p:Int)(hp:8<=p/\p<=512):Fn 187 G0 [.agg (dyC d),.int .i64 p] (.agg (ivC (lnI d p))) G0:=by
 have c78:=v77 1 OA;have c55:=v81 hd (wu 1 OA);have hR:lnI d p=if wa d (wg 1)=0 then⟨d0,d0,false⟩else vh (kp (loI (lzI d (guP p 40)) (guP p 40)) (ja (whI (zn d)) (l2I (guP p 40)) (guP p 40)) (guP p 40)) p:=rfl
 generalize lnI d p=R at*;by_cases h0:wa d (wg 1)=0
 .rw[Z6 h0]at hR;subst hR;rw[h0]at c55;generalize wg 1=o at*;clear hd hs h0;refine fY6 Tryz.func187 rfl ?_;refine gYc c78 ?_;refine gYn c55 ?_;refine gYd ?_;exact⟨lg0 (lc (lr rfl) (lc (li0 rfl) (lc (lr rfl) (lc (lr rfl) (lc (li0 rfl) (lc (lr rfl) (lc (lr rfl) ln0))))))),leG⟩
 rw[Z7 h0]at hR;have hn:nm d≠0:=fun c=>by unfold qs at hs;rw[Z6 c]at hs;omega
 have htb: -100000<=zn d/\zn d<=100000:=by
  have:=hd.exp;have:=hd.bits;unfold zn;rw[Z7 hn];omega
 have hg:=qa7 hp (m:=40) OA;have hg8:8<=guP p 40/\guP p 40<=512:=by unfold pcB at hg;simpa using hg
 obtain⟨b1,b2⟩:=lz_in hd hs hg;have b3:=qb8 b1 b2 hg (pwF OA OA);have hlm:=qep hd hs (guP p 40);have c0:=x128 p 40 O OA;have c1:=zn0 hd;have c2:=zyr hd;have c3:=qez (qt d) (zxw hd).ri (guP p 40);have c4:=i191 (vh (qt d) (guP p 40)) (zga _).ri (-(zn d));have c5:=zvk (-1) OA;have c6:=zzm (lmI d (guP p 40)) (whI (-1)) hlm.1.ri (xx (n:= -1) OA).ri (guP p 40);have c7:=zvk 1 OA;have c8:=zzm (lmI d (guP p 40)) (whI 1) hlm.1.ri (xx (n:=1) OA).ri (guP p 40);have c9:=x132 _ _ b1.1.ri b2.1.ri (guP p 40);have c10:=x134 _ b3 _ hg;have c11:=zvk (zn d) O;have c12:=x136 (guP p 40) hg8;have c13:=x135 (whI (zn d)) (l2I (guP p 40)) (xx (n:=zn d) O).ri (zga _).ri (guP p 40);have c14:=zzm _ _ (qgl (lzI d (guP p 40)) (guP p 40)).ri (zbd (whI (zn d)) (l2I (guP p 40)) (guP p 40)).ri (guP p 40);have c15:=qez _ (zax (loI (lzI d (guP p 40)) (guP p 40)) (ja (whI (zn d)) (l2I (guP p 40)) (guP p 40)) (guP p 40)).ri p;rw[<-hR]at c15;have hw:qH.wrap (0-zn d)= -(zn d):=by rw[wI O];omega
 clear hR b1 b2 b3 hlm;unfold lzI lmI at*;generalize kp (loI (uq (kp (wj (vh (qt d) (guP p 40)) (-(zn d))) (whI (-1)) (guP p 40)) (kp (wj (vh (qt d) (guP p 40)) (-(zn d))) (whI 1) (guP p 40)) (guP p 40)) (guP p 40)) (ja (whI (zn d)) (l2I (guP p 40)) (guP p 40)) (guP p 40)=I15 at*;generalize loI (uq (kp (wj (vh (qt d) (guP p 40)) (-(zn d))) (whI (-1)) (guP p 40)) (kp (wj (vh (qt d) (guP p 40)) (-(zn d))) (whI 1) (guP p 40)) (guP p 40)) (guP p 40)=I14 at*;generalize uq (kp (wj (vh (qt d) (guP p 40)) (-(zn d))) (whI (-1)) (guP p 40)) (kp (wj (vh (qt d) (guP p 40)) (-(zn d))) (whI 1) (guP p 40)) (guP p 40)=I13 at*;generalize ja (whI (zn d)) (l2I (guP p 40)) (guP p 40)=I12 at*;generalize kp (wj (vh (qt d) (guP p 40)) (-(zn d))) (whI (-1)) (guP p 40)=I11 at*;generalize kp (wj (vh (qt d) (guP p 40)) (-(zn d))) (whI 1) (guP p 40)=I10 at*;generalize wj (vh (qt d) (guP p 40)) (-(zn d))=I9 at*;generalize vh (qt d) (guP p 40)=I8 at*;generalize qt d=I7 at*;generalize whI (-1)=I6 at*;generalize whI 1=I5 at*;generalize whI (zn d)=I4 at*;generalize l2I (guP p 40)=I3 at*;generalize guP p 40=g at*;generalize zn d=t at*;generalize wg 1=o at*;generalize wa d o=C at*;clear hd hs hn;refine fY6 Tryz.func187 rfl ?_;refine gYc c78 ?_;refine gYn c55 ?_;refine gYd ?_;refine brI (fun k1=>?_) (fun _=>?_)
 .have k1:(C==0)=true:=k1;exact absurd (by simpa using k1) h0
 conv=>whnf
 refine gYn c0 ?_;refine gYn c1 ?_;refine gYn c2 ?_;refine gYc c3 ?_;rw[hw];refine gYc c4 ?_;refine gYd ?_;refine gYc c5 ?_;refine gYc c6 ?_;refine gYc c7 ?_;refine gYc c8 ?_;refine gYc c9 ?_;refine gYd ?_;refine gYc c10 ?_;refine gYc c11 ?_;refine gYc c12 ?_;refine gYc c13 ?_;refine gYc c14 ?_;refine gYc c15 ?_;refine gYd ?_;exact⟨lr rfl,leG⟩
def zyp(x:Iv)(p:Int):Iv:=if ftB x p=true/\0<qs x.lo then edI (lnI x.lo p) (lnI x.hi p)else wI0
theorem qgk(x:Iv)(p:Int):CI (zyp x p):=by
 unfold zyp;split
 .exact qgq (qgm _ _) (qgm _ _)
 .exact zhu
theorem x34(x:Iv)(hx:RI x)(p:Int):Fn 117 G0 [.agg (ivC x),.int .i64 p] (.agg (ivC (zyp x p))) G0:=by
 have h84:=x84 x hx p;have h25:=i25;rw[e25]at h25;have hR:zyp x p=if ftB x p=true/\0<qs x.lo then edI (lnI x.lo p) (lnI x.hi p)else wI0:=rfl
 generalize zyp x p=R at*;by_cases hf:ftB x p=true
 rotate_left
 .rw[Z7 fun c=>hf c.1]at hR;subst hR;rw[show ftB x p=false by simpa using hf]at h84;clear hf hx;refine fY6 Tryz.func117 rfl ?_;refine gYn h84 ?_;refine gYn h25 ?_;exact⟨lr rfl,leG⟩
 rw[hf]at h84;have hf':=hf;unfold ftB at hf';rw[Bool.and_eq_true]at hf';have k:=(zw hx).1 hf'.1;have hp8:8<=p/\p<=512:=by have:=hf'.2;unfold pcB at this;simpa using this
 have m1:=zq9 k.lo;by_cases h1:0<qs x.lo
 rotate_left
 .rw[Z7 fun c=>h1 c.2]at hR;subst hR;generalize qs x.lo=S at*;clear hf hf' k hx;refine fY6 Tryz.func117 rfl ?_;refine gYn h84 ?_;refine gYn m1 ?_;refine brI (fun k1=>?_) (fun k1=>?_)
  .conv=>whnf
   refine gYn h25 ?_;exact⟨lr rfl,leG⟩
  .have k1:¬S<=0:=Z3 k1;omega
 have h2:0<qs x.hi:=(za0 x.hi).2.1.2 (by
  have:=(za0 x.lo).2.1.1 h1;have:=k.dle;grind)
 rw[Z6 ⟨hf,h1⟩]at hR;have c1:=x88 k.lo h1 p hp8;have c2:=x88 k.hi h2 p hp8;have c3:=x86 (lnI x.lo p) (lnI x.hi p);rw[<-hR]at c3;clear hR;generalize lnI x.lo p=A at*;generalize lnI x.hi p=B at*;generalize qs x.lo=S at*;clear hf hf' k hx h2;refine fY6 Tryz.func117 rfl ?_;refine gYn h84 ?_;refine gYn m1 ?_;refine brI (fun k1=>?_) (fun _=>?_)
 .have k1:S<=0:=Z0 k1;omega
 conv=>whnf
 refine gYc c1 ?_;refine gYc c2 ?_;refine gYn c3 ?_;refine gYd ?_;exact⟨lr rfl,leG⟩
