/- Intervals that lie within a bound: products, quotients, squares, halves, roundings; small ones. -/
import Derived.Test.YthbgbmdmimejiaaGreatDoorMXa
import Derived.Scope
import Derived.ControlIn
set_option linter.all false
open Rat renaming le_trans->q8,mul_nonneg->q9,le_of_lt->qd,le_refl->qn,neg_neg->qA,not_le->qB,mul_one->qC,div_def->qD
open Go.IntKind renaming i64->qE
namespace Go.Proofs.YthbgbmdmimejiaaGreatDoor
open Go Go.Sx
set_option maxHeartbeats 2000000
def bI(B:Rat)(x:Iv):Prop:=VI x/\(x.all=true\/(-B<=dv x.lo/\dv x.hi<=B))
theorem bI_w(B:Rat):bI B wI0:=⟨.inr rfl,.inl rfl⟩
theorem qjk{a b:Int}(h:a<b):pw a<pw b:=qB.1 fun c=>by have:=za7.1 c;omega
theorem pwF{p:Nat}{t:Int}(h1: -16384<=t)(h2:t<16384):inF p (pw t):=⟨1,t,(zpw t).symm,Nat.one_le_two_pow,h1,qjk h2⟩
theorem zfn(t:Int):0<=pw t:=qd (jz t)
theorem zhy(t:Int):pw t*pw (-1)=pw (t-1):=by rw[<-pwA];rfl
theorem zn9{d:Dy}(h:VD d):KI (qc d):=⟨rfl,h,h,yn.2 qn⟩
theorem zf6{a b B C:Rat}(h1: -B<=a)(h2:a<=B)(h3: -C<=b)(h4:b<=C): -(B*C)<=a*b/\a*b<=B*C:=by
 have m1:=q9 (show 0<=B-a by grind) (show 0<=C+b by grind);have m2:=q9 (show 0<=B+a by grind) (show 0<=C-b by grind);have m3:=q9 (show 0<=B-a by grind) (show 0<=C-b by grind);have m4:=q9 (show 0<=B+a by grind) (show 0<=C+b by grind);constructor<;>grind
theorem qbj{p:Nat}{op:Rat->Rat->Rat}{dn up:Dy->Dy->Dy×Int}{x y:Iv}(f:F4 p op dn up x y){b:Rat}(hb:inF p b)(h:qf2 op x y (fun z=> -b<=z/\z<=b))(ha:(ur dn up x y).all =false):
 -b<=dv (ur dn up x y).lo /\dv (ur dn up x y).hi <=b:=by
 obtain⟨_,_,h3,h4,_,_⟩:=znm ha;obtain⟨a1,a2,a3,a4⟩:=h;have hn:Fp p (-b):=.inr (by rw[qA];exact hb);have hp:Fp p b:=.inl hb;exact⟨h3 (-b) (f.rt1.1.2 (-b) hn a1.1).2 (f.rt2.1.2 (-b) hn a2.1).2 (f.rt3.1.2 (-b) hn a3.1).2 (f.rt4.1.2 (-b) hn a4.1).2,
  h4 b (f.rt1.2.2 b hp a1.2).2 (f.rt2.2.2 b hp a2.2).2 (f.rt3.2.2 b hp a3.2).2 (f.rt4.2.2 b hp a4.2).2⟩
theorem bI.ends{B:Rat}{x:Iv}(h:bI B x)(k:KI x):(-B<=dv x.lo/\dv x.lo<=B)/\(-B<=dv x.hi/\dv x.hi<=B):=by
 rcases h.2 with c|⟨c1,c2⟩
 .rw[k.all]at c;cases c
 .have:=k.dle;exact⟨⟨c1,q8 this c2⟩,⟨q8 c1 this,c2⟩⟩
theorem qdg{B C:Rat}{x y:Iv}(hx:bI B x)(hy:bI C y){p:Int}(hp:pcB p=true)(hF:inF p.toNat (B*C)):bI (B*C) (za9 x y p):=by
 refine⟨zm4 hx.1 hy.1 hp,?_⟩
 cases ha:(za9 x y p).all with
 |true=>exact .inl rfl
 |false=>
  right;by_cases hk:KI x/\KI y
  .rw[qcn hk.1 hk.2 hp]at ha⊢;obtain⟨⟨a1,a2⟩,⟨a3,a4⟩⟩:=hx.ends hk.1;obtain⟨⟨b1,b2⟩,⟨b3,b4⟩⟩:=hy.ends hk.2;exact qbj (qco hk.1 hk.2 (qe hp)) hF ⟨zf6 a1 a2 b1 b2,zf6 a1 a2 b3 b4,zf6 a3 a4 b1 b2,zf6 a3 a4 b3 b4⟩ ha
  .rw[qj6 hx.1.ri hy.1.ri hk]at ha;cases ha
def whI(n:Int):Iv:=qc (wx n)
theorem zah{n:Int}(h: -4611686018427387904<=n/\n<=4611686018427387904):KI (whI n):=zn9 (jo n h)
theorem zs3{n:Int}(h:1<=n):(1:Rat)<=(n:Rat):=by
 have:=(Rat.intCast_le_intCast (a:=1) (b:=n)).2 h;simpa using this
theorem zjz{n:Rat}(h:1<=n): -1<=n⁻¹ /\n⁻¹ <=1:=by
 have h0:0<n:=by grind
 have hi:0<n⁻¹ :=Rat.inv_pos.2 h0;have hm:=Rat.mul_inv_cancel n (by grind);have:=q9 (show 0<=n-1 by grind) (qd hi);constructor<;>grind
theorem zyc{B:Rat}{x:Iv}(hx:bI B x){n:Int}(h1:1<=n)(h2:n<=4611686018427387904){p:Int}(hp:pcB p=true)(hF:inF p.toNat B):bI B (xt x (whI n) p):=by
 have kn:=zah (n:=n) O;have hn:=zs3 h1;have e:dv (whI n).lo =(n:Rat):=je n;have e':dv (whI n).hi =(n:Rat):=je n;have hs:0<dv (whI n).lo \/dv (whI n).hi <0:=.inl (by rw[e];grind);refine⟨zcz hx.1 (.inl kn) hp,?_⟩
 cases ha:(xt x (whI n) p).all with
 |true=>exact .inl rfl
 |false=>
  right;by_cases hk:KI x
  .rw[zl1 hk kn hs hp]at ha⊢;obtain⟨⟨a1,a2⟩,⟨a3,a4⟩⟩:=hx.ends hk;obtain⟨i1,i2⟩:=zjz hn;have q:∀a:Rat,-B<=a->a<=B-> -B<=a/(n:Rat)/\a/(n:Rat)<=B:=fun a c1 c2=>by
    have:=zf6 c1 c2 i1 i2
    rwa [qC,<-qD]at this
   refine qbj (zrt hk kn hs (qe hp)) hF ?_ ha;unfold qf2;rw[e,e'];exact⟨q _ a1 a2,q _ a1 a2,q _ a3 a4,q _ a3 a4⟩
  .rw[zxs hx.1.ri kn.ri fun c=>hk c.1]at ha;cases ha
theorem qbp{x:Iv}(h:CI x)(hd:x.all=false->dv x.lo<=dv x.hi):VI x:=by
 cases ha:x.all with
 |true=>
  rcases h with rfl|⟨c,_⟩
  .exact .inr rfl
  .rw[ha]at c;cases c
 |false=>exact .inl (ztp h ha (hd ha))
theorem qa9{B:Rat}{x:Iv}(hx:bI B x){p:Int}(hF:inF p.toNat B):bI B (qs x p):=by
 unfold qs;split
 .rename_i c;obtain⟨c1,hp⟩:=c;have k:=(zq hx.1.ri).1 c1;have R1:=jf k.lo (qe hp);have R2:=jf k.hi (qe hp);obtain⟨⟨a1,a2⟩,⟨a3,a4⟩⟩:=hx.ends k;refine⟨zsu R1 R2 (uz (wk _ _ _ (qe hp)) (wk _ _ _ (qe hp))) k.dle,?_⟩
  cases ha:(ve (ql x.lo p.toNat false) (ql x.hi p.toNat true)).all with
  |true=>exact .inl rfl
  |false=>
   right;rw[uj ha];exact⟨(R1.1.2 (-B) (.inr (by rw[qA];exact hF)) a1).2,(R2.2.2 B (.inl hF) a4).2⟩
 .exact bI_w B
theorem zc5{d:Dy}{k:Int}(h:(vu d k).2=0):dv (vu d k).1=dv d*pw k:=by
 unfold vu at h⊢;split at h
 .cases h
 .rename_i c;rw[Z5 c];unfold ckN at h⊢;split at h
  .rename_i c2;rw[Z4 c2,zkf];have e:vN (nm d) (d.e+k)=vN (nm d) d.e*pw k:=by unfold vN;rw[pwA,Rat.mul_assoc]
   rw[e];unfold dv;split
   .grind
   .rfl
  .cases h
theorem zr6{B:Rat}{x:Iv}(hx:bI B x)(k:Int):bI (B*pw k) (wl x k):=by
 unfold wl;split
 .rename_i c1;have kx:=(zq hx.1.ri).1 c1;obtain⟨⟨a1,a2⟩,⟨a3,a4⟩⟩:=hx.ends kx;have hc:=uz (zdl x.lo k) (zdl x.hi k)
  cases ha:(ve (vu x.lo k) (vu x.hi k)).all with
  |true=>exact⟨qbp hc (fun c=>by rw[ha]at c;cases c),.inl ha⟩
  |false=>
   have e:=uj ha;obtain⟨o1,o2⟩:=kj.1 ha;have e1:dv (ve (vu x.lo k) (vu x.hi k)).lo =dv x.lo*pw k:=by rw[e];exact zc5 o1
   have e2:dv (ve (vu x.lo k) (vu x.hi k)).hi =dv x.hi*pw k:=by rw[e];exact zc5 o2
   refine⟨qbp hc fun _=>by rw[e1,e2];exact qw kx.dle (zfn k),.inr ?_⟩;rw[e1,e2];exact⟨by rw[<-Rat.neg_mul];exact qw a1 (zfn k),qw a4 (zfn k)⟩
 .exact bI_w _
def sqI(x:Iv)(p:Int):Iv:=if kB x=true/\pcB p=true then ve (kf (zc8 x) (zc8 x) p.toNat false) (kf (kr x) (kr x) p.toNat true)else wI0
theorem qcp{B:Rat}{x:Iv}(hx:bI B x)(k:KI x):0<=dv (kr x)/\dv (kr x)<=B/\(kr x).neg =false:=by
 obtain⟨⟨a1,a2⟩,⟨a3,a4⟩⟩:=hx.ends k;have hm:kr x=yi (zcc x.lo) (zcc x.hi):=rfl;obtain⟨_,_,h3⟩:=xi (zcc x.lo) (zcc x.hi);rw[hm];rcases h3 with e|e<;>rw[e,zrp]
 .exact⟨zw _,by unfold zg;split<;>grind,rfl⟩
 .exact⟨zw _,by unfold zg;split<;>grind,rfl⟩
theorem qhd{x:Iv}(p:Int):CI (sqI x p):=by
 unfold sqI;split
 .rename_i h;exact uz (uc _ _ _ _ (qe h.2)) (uc _ _ _ _ (qe h.2))
 .exact zji
theorem bI_sq{B:Rat}{x:Iv}(hx:bI B x){p:Int}(hF:inF p.toNat (B*B)):bI (B*B) (sqI x p):=by
 unfold sqI;split
 .rename_i c;obtain⟨c1,hp⟩:=c;have k:=(zq hx.1.ri).1 c1;obtain⟨g1,g2,_⟩:=qcp hx k;obtain⟨l1,l2,l3⟩:=ziz k qn k.dle;have l4:=q8 l2 l3;have R1:=zb3 (zgk k) (zgk k) (qe hp);have R2:=zb3 (zb7 k) (zb7 k) (qe hp);have s1:dv (zc8 x)*dv (zc8 x)<=dv (kr x)*dv (kr x):=zkt l1 l4;have s2:dv (kr x)*dv (kr x)<=B*B:=zkt g1 g2;have s0:0<=dv (zc8 x)*dv (zc8 x):=q9 l1 l1;refine⟨zsu R1 R2 (uz (uc _ _ _ _ (qe hp)) (uc _ _ _ _ (qe hp))) s1,?_⟩
  cases ha:(ve (kf (zc8 x) (zc8 x) p.toNat false) (kf (kr x) (kr x) p.toNat true)).all with
  |true=>exact .inl rfl
  |false=>
   right;rw[uj ha];refine⟨?_,(R2.2.2 (B*B) (.inl hF) s2).2⟩;exact(R1.1.2 (-(B*B)) (.inr (by rw[qA];exact hF)) (by grind)).2
 .exact bI_w _
def smB(x:Iv)(p:Int):Bool:= !kB x||(decide (wy (kr x)=0)||decide (zf (kr x)<= -p))
theorem qix{x:Iv}{p t:Int}(hx:bI (pw t) x)(h:smB x p=false): -p<=t:=by
 unfold smB at h;rw[Bool.or_eq_false_iff,Bool.or_eq_false_iff]at h;obtain⟨h1,h2,h3⟩:=h;have k:=(zq hx.1.ri).1 (by simpa using h1);have h2:=Z1 h2;have h3:=Z1 h3;obtain⟨g1,g2,g3⟩:=qcp hx k;have hn:nm (kr x)≠0:=fun c=>h2 (by unfold wy;rw[Z4 c])
 unfold zf at h3;rw[Z5 hn]at h3;have hv:dv (kr x)=vN (nm (kr x)) (kr x).e :=by unfold dv;rw[g3];rfl
 have ht:=yf (n:=nm (kr x)) (e:=(kr x).e) (t:=(bl (nm (kr x)):Int)+(kr x).e -1) O hn;rw[<-hv]at ht;have:=za7.1 (q8 ht g2);omega
theorem zs9:kB wI0=false:=rfl
set_option maxRecDepth 100000
set_option maxHeartbeats 8000000
theorem zy6(n:Int)(h: -4611686018427387904<=n/\n<=4611686018427387904):Fn 181 G0 [.int .i64 n] (.agg (ivC (whI n))) G0:=by
 have h78:=v77 n h;have h77:=qht (jo n h);show Fn 181 G0 [.int .i64 n] (.agg (ivC (qc (wx n)))) G0;generalize wx n=d at*;obtain⟨d1,d2,d3⟩:=d;have h78:Fn 94 G0 [.int .i64 n] (.agg [.bool d1,.sl .u32 d2,.int .i64 d3]) G0:=h78;have h77:Fn 140 [] [.agg [.bool d1,.sl .u32 d2,.int .i64 d3]] (.agg [.bool d1,.sl .u32 d2,.int .i64 d3,.bool d1,.sl .u32 d2,.int .i64 d3,.bool false]) []:=h77;refine fY6 Tryz.func181 rfl ?_;refine gYc h78 ?_;refine gYn h77 ?_;exact⟨lr rfl,leG⟩
def guP(p m:Int):Int:=min (p+m) 512
theorem x128(p m:Int)(hp:0<=p/\p<=1000)(hm:0<=m/\m<=1000):Fn 182 [] [.int .i64 p,.int .i64 m] (.agg [.int .i64 (guP p m)]) []:=by
 refine fY6 Tryz.func182 rfl ?_;exact⟨lg0 (lc (ai0 (by rw[wI O];unfold guP;rw[Int.min_def];split<;>split<;>omega)) ln0),lh0⟩
theorem x132(x y:Iv)(hx:RI x)(hy:RI y)(p:Int):Fn 186 G0 [.agg [.int .i64 p],.agg (ivC x),.agg (ivC y)] (.agg (ivC (xt x y p))) G0:=by
 have h:=i85 x y hx hy p;generalize xt x y p=R at*;clear hx hy;refine fY6 Tryz.func186 rfl ?_;refine gYc h ?_;exact⟨lr rfl,leG⟩
theorem qdx(x y:Iv)(hx:RI x)(hy:RI y)(p:Int):Fn 187 G0 [.agg [.int .i64 p],.agg (ivC x),.agg (ivC y)] (.agg (ivC (ym x y p))) G0:=by
 have h:=i82 x y hx hy p;generalize ym x y p=R at*;clear hx hy;refine fY6 Tryz.func187 rfl ?_;refine gYc h ?_;exact⟨lr rfl,leG⟩
theorem x135(x y:Iv)(hx:RI x)(hy:RI y)(p:Int):Fn 189 G0 [.agg [.int .i64 p],.agg (ivC x),.agg (ivC y)] (.agg (ivC (za9 x y p))) G0:=by
 have h:=i84 x y hx hy p;generalize za9 x y p=R at*;clear hx hy;refine fY6 Tryz.func189 rfl ?_;refine gYc h ?_;exact⟨lr rfl,leG⟩
theorem zuw(d:Dy):wy d=0\/wy d=1\/wy d= -1:=by
 unfold wy;split
 .exact .inl rfl
 .split
  .exact .inr (.inr rfl)
  .exact .inr (.inl rfl)
theorem x202(x:Iv)(hx:RI x)(p:Int)(hp:0<=p/\p<=1000):Fn 229 [] [.agg [.int .i64 p],.agg (ivC x)] (.bool (smB x p)) []:=by
 have h120:=i182 x hx;have hw:qE.wrap (0-p)= -p:=by rw[wI O];omega
 have hR:smB x p=(!kB x||(decide (wy (kr x)=0)||decide (zf (kr x)<= -p))):=rfl;generalize smB x p=R at*;by_cases hk:kB x=true
 .have k:=(zq hx).1 hk;rw[Z4 hk,hk]at h120;rw[hk,Bool.not_true,Bool.false_or]at hR;have vm:=zb7 k;have h81:=zt1 vm;have h127:=zpx vm;have hs:=zuw (kr x);generalize kr x=M at*;generalize wy M=S at*;generalize zf M=t at*;clear hk k hx vm;rcases hs with rfl|rfl|rfl
  .subst hR;refine fY6 Tryz.func229 rfl ?_;refine gYn h120 ?_;refine gYn h81 ?_;refine gYd ?_;exact⟨lr rfl,lh0⟩
  .refine fY6 Tryz.func229 rfl ?_;refine gYn h120 ?_;refine gYn h81 ?_;refine gYn h127 ?_;refine gYd ?_;exact⟨ab0 (by rw[hw,hR];rfl),lh0⟩
  .refine fY6 Tryz.func229 rfl ?_;refine gYn h120 ?_;refine gYn h81 ?_;refine gYn h127 ?_;refine gYd ?_;exact⟨ab0 (by rw[hw,hR];rfl),lh0⟩
 .have hk:kB x=false:=by simpa using hk
  rw[hk,Z5 OC]at h120;rw[hk]at hR;subst hR;clear hk hx;refine fY6 Tryz.func229 rfl ?_;refine gYn h120 ?_;refine gYd ?_;exact⟨lr rfl,lh0⟩
def arI(x:Iv):Iv:=if kB x=true then⟨zad (kr x),kr x,false⟩else wI0
theorem qbo{x:Iv}(hx:RI x):CI (arI x):=by
 unfold arI;split
 .rename_i h;have k:=(zq hx).1 h;exact .inr ⟨rfl,zaq (zb7 k),zb7 k⟩
 .exact zji
theorem x203(x:Iv)(hx:RI x):Fn 230 [] [.agg (ivC x)] (.agg (ivC (arI x))) []:=by
 have h120:=i182 x hx;have h25:=i25;rw[e25]at h25;have hR:arI x=if kB x=true then⟨zad (kr x),kr x,false⟩else wI0:=rfl
 generalize arI x=R at*;by_cases hk:kB x=true
 .have k:=(zq hx).1 hk;rw[Z4 hk,hk]at h120;rw[Z4 hk]at hR;have vm:=zb7 k;have h76:=qd1 vm;rw[show(if nm (kr x)=0 then d0 else⟨!(kr x).neg,(kr x).m,(kr x).e⟩)=zad (kr x)from rfl]at h76;generalize zad (kr x)=N at*;generalize kr x=M at*;subst hR;clear hk k hx vm;refine fY6 Tryz.func230 rfl ?_;refine gYn h120 ?_;refine gYn h76 ?_;refine gYd ?_;exact⟨lr rfl,lh0⟩
 .have hk:kB x=false:=by simpa using hk
  rw[hk,Z5 OC]at h120;rw[Z5 (by rw[hk];simp)]at hR;subst hR;clear hk hx;refine fY6 Tryz.func230 rfl ?_;refine gYn h120 ?_;refine gYn h25 ?_;exact⟨lr rfl,lh0⟩
theorem x200(x:Iv)(h:RI x)(p:Int):Fn 227 G0 [.agg (ivC x),.int .i64 p] (.agg (ivC (sqI x p))) G0:=by
 have h79:=i137 x h;have h127:=qcw p;have h25:=i25;rw[e25]at h25;have hR:sqI x p=if kB x=true/\pcB p=true then ve (kf (zc8 x) (zc8 x) p.toNat false) (kf (kr x) (kr x) p.toNat true)else wI0:=rfl
 generalize sqI x p=R at*;have hA:zyh x=if kB x=true then⟨zc8 x,kr x,false⟩else wI0:=rfl
 by_cases hk:kB x=true
 .rw[hA,Z4 hk]at h79;by_cases hp:pcB p=true
  .rw[hp]at h127;rw[Z4 ⟨hk,hp⟩]at hR;have kx:=(zq h).1 hk;obtain⟨q,rfl,hq⟩:=kq.1 hp;rw[Int.toNat_natCast]at hR;have n1:=qhi (zgk kx) (zgk kx) q hq;have n2:=qhh (zb7 kx) (zb7 kx) q hq;have n3:=qhu (kf (zc8 x) (zc8 x) q false) (kf (kr x) (kr x) q true);rw[<-hR]at n3;generalize kf (zc8 x) (zc8 x) q false=a at*;generalize kf (kr x) (kr x) q true=b at*;generalize zc8 x=g at*;generalize kr x=m at*;clear kx h hk hR hA;obtain⟨⟨a1,a2,a3⟩,e⟩:=a;obtain⟨⟨b1,b2,b3⟩,f⟩:=b;refine fY6 Tryz.func227 rfl ?_;refine gYn h79 ?_;refine gYn h127 ?_;refine gYc n1 ?_;refine gYc n2 ?_;refine gYn n3 ?_;exact⟨lr rfl,leG⟩
  .rw[Z5 fun c=>hp c.2]at hR;rw[show pcB p=false by simpa using hp]at h127;subst hR;generalize zc8 x=g at*;generalize kr x=m at*;clear h hk hp hA;refine fY6 Tryz.func227 rfl ?_;refine gYn h79 ?_;refine gYn h127 ?_;refine gYn h25 ?_;exact⟨lr rfl,leG⟩
 .rw[hA,Z5 hk]at h79;rw[Z5 fun c=>hk c.1]at hR;subst hR;clear h hk hA;refine fY6 Tryz.func227 rfl ?_;refine gYn h79 ?_;refine gYn h25 ?_;exact⟨lr rfl,leG⟩
def edI(a b:Iv):Iv:=if a.all=true\/b.all=true then wI0 else⟨a.lo,b.hi,false⟩
theorem qbn{a b:Iv}(ha:CI a)(hb:CI b):CI (edI a b):=by
 unfold edI;split
 .exact zji
 .rename_i h;rcases ha with rfl|⟨_,a1,_⟩
  .exact absurd (.inl rfl) h
  .rcases hb with rfl|⟨_,_,b1⟩
   .exact absurd (.inr rfl) h
   .exact .inr ⟨rfl,a1,b1⟩
theorem x86(a b:Iv):Fn 145 [] [.agg (ivC a),.agg (ivC b)] (.agg (ivC (edI a b))) []:=by
 have h25:=i25;rw[e25]at h25;obtain⟨⟨a1,a2,a3⟩,⟨a4,a5,a6⟩,a7⟩:=a;obtain⟨⟨b1,b2,b3⟩,⟨b4,b5,b6⟩,b7⟩:=b;show Fn 145 [] [.agg [.bool a1,.sl .u32 a2,.int .i64 a3,.bool a4,.sl .u32 a5,.int .i64 a6,.bool a7],.agg [.bool b1,.sl .u32 b2,.int .i64 b3,.bool b4,.sl .u32 b5,.int .i64 b6,.bool b7]] _ []
 cases a7 with
 |true=>
  refine fY6 Tryz.func145 rfl ?_;refine gYn h25 ?_;exact⟨lr rfl,lh0⟩
 |false=>
  cases b7 with
  |true=>
   refine fY6 Tryz.func145 rfl ?_;refine gYn h25 ?_;exact⟨lr rfl,lh0⟩
  |false=>
   refine fY6 Tryz.func145 rfl ?_;exact⟨lr rfl,lh0⟩
def ftB(x:Iv)(p:Int):Bool:=kB x&&pcB p
theorem kB_vi{x:Iv}(hx:RI x)(vx:VI x):kB x= !x.all:=by
 rcases vx with k|rfl
 .rw[(zq hx).2 k,k.all];rfl
 .rfl
theorem x84(x:Iv)(hx:RI x)(p:Int):Fn 143 [] [.agg (ivC x),.int .i64 p] (.bool (ftB x p)) []:=by
 have h17:=i51 x hx;have hR:ftB x p=(kB x&&pcB p):=rfl;have hp:pcB p=true<->8<=p/\p<=512:=by unfold pcB;simp
 generalize ftB x p=R at*;by_cases ha:x.all=true
 .have hk:kB x=false:=by
   by_cases c:kB x=true
   .have:=(zq hx).1 c;rw[this.all]at ha;cases ha
   .simpa using c
  rw[hk,Bool.false_and]at hR;subst hR;clear h17 hx hk;obtain⟨⟨x1,x2,x3⟩,⟨x4,x5,x6⟩,x7⟩:=x;obtain rfl:x7=true:=ha;show Fn 143 [] [.agg [.bool x1,.sl .u32 x2,.int .i64 x3,.bool x4,.sl .u32 x5,.int .i64 x6,.bool true],.int .i64 p] _ [];refine fY6 Tryz.func143 rfl ?_;exact⟨lr rfl,lh0⟩
 have ha:x.all=false:=by simpa using ha
 by_cases hv:viB x=true
 .have vx:=(zcf hx).1 hv;rw[hv]at h17;rw[kB_vi hx vx,ha,Bool.not_false,Bool.true_and]at hR;clear hv vx hx;obtain⟨⟨x1,x2,x3⟩,⟨x4,x5,x6⟩,x7⟩:=x;obtain rfl:x7=false:=ha;have h17:Fn 29 [] [.agg [.bool x1,.sl .u32 x2,.int .i64 x3,.bool x4,.sl .u32 x5,.int .i64 x6,.bool false]] (.bool true) []:=h17;show Fn 143 [] [.agg [.bool x1,.sl .u32 x2,.int .i64 x3,.bool x4,.sl .u32 x5,.int .i64 x6,.bool false],.int .i64 p] _ [];refine fY6 Tryz.func143 rfl ?_;refine gYn h17 ?_;refine brI (fun k1=>?_) (fun k1=>?_)
  .have k1:8<=p:=Z0 k1;conv=>whnf
   refine⟨ab0 ?_,lh0⟩;rw[hR,Bool.eq_iff_iff,Z2,hp];exact⟨fun h=>⟨k1,h⟩,fun h=>h.2⟩
  .have k1:¬8<=p:=Z1 k1;rw[show pcB p=false by rw[<-Bool.not_eq_true,hp];omega]at hR;subst hR;conv=>whnf
   exact⟨lr rfl,lh0⟩
 .have hk:kB x=false:=by
   by_cases c:kB x=true
   .exact absurd ((zcf hx).2 (.inl ((zq hx).1 c))) hv
   .simpa using c
  rw[hk,Bool.false_and]at hR;subst hR;rw[show viB x=false by simpa using hv]at h17;clear hv hx hk;obtain⟨⟨x1,x2,x3⟩,⟨x4,x5,x6⟩,x7⟩:=x;obtain rfl:x7=false:=ha;have h17:Fn 29 [] [.agg [.bool x1,.sl .u32 x2,.int .i64 x3,.bool x4,.sl .u32 x5,.int .i64 x6,.bool false]] (.bool false) []:=h17;show Fn 143 [] [.agg [.bool x1,.sl .u32 x2,.int .i64 x3,.bool x4,.sl .u32 x5,.int .i64 x6,.bool false],.int .i64 p] _ [];refine fY6 Tryz.func143 rfl ?_;refine gYn h17 ?_;exact⟨lr rfl,lh0⟩
def mdB(d:Dy):Bool:=decide (qu (zcc d) (wx 1000)<=0)
theorem x85{d:Dy}(hd:VD d):Fn 144 G0 [.agg (dyC d)] (.bool (mdB d)) G0:=by
 have h125:=qic hd;have h78:=v77 1000 OA;have h55:=v81 (zfd hd) (jo 1000 OA);have hR:mdB d=decide (qu (zcc d) (wx 1000)<=0):=rfl;generalize mdB d=R at*;generalize qu (zcc d) (wx 1000)=C at*;generalize zcc d=a at*;generalize wx 1000=t at*;clear hd;refine fY6 Tryz.func144 rfl ?_;refine gYn h125 ?_;refine gYc h78 ?_;refine gYn h55 ?_;exact⟨ab0 (by rw[hR]),leG⟩
theorem zux{P:Program}{T:Tab}{res:List ResultVar}{ex:List Nat}{r:AV}{H':Hp}{c b:Code}{Y:St}(e:c=.scope b)(h:SemOK P T res ex r H' b Y):SemOK P T res ex r H' c Y:=
 ⟨fun c0 a w Q hr hq=>by
  subst e;exact wpIn_wide.2 (wp_scope_straight (wpIn_wide.1 (h.sem c0 a w (Exit.noGoto Q) hr fun x K a w hr hf=>by
   cases x with
   |normal=>exact hq _ K a w hr hf
   |ret=>exact hq _ K a w hr hf
   |exit _=>exact hf.elim
   |goto _=>exact hf.elim
   |panic _=>exact hf.elim
   |outgrown=>exact hf.elim)))⟩
theorem zuy{P:Program}{T:Tab}{res:List ResultVar}{ex:List Nat}{r:AV}{H':Hp}{c b:Code}{l:Nat}{Y:St}(e:c=.seq (.label l) b)(h:SemOK P T res ex r H' b Y):SemOK P T res ex r H' c Y:=
 ⟨fun c0 a w Q hr hq=>by
  subst e;exact wpIn_seq (wpIn_label (h.sem c0 a w Q hr hq))⟩
def qd2:Code->Code
 |.scope b=>b
 | _=>.skip
def qd3:Code->Code
 |.seq (.label _) b=>b
 | _=>.skip
def exG(y:Iv)(p:Int):Nat->Nat->Iv->Iv->Iv×Iv
 |0,_,t,s=>(t,s)
 |f+1,n,t,s=>if smB (xt (za9 t y p) (whI n) p) p=true then(xt (za9 t y p) (whI n) p,ym s (xt (za9 t y p) (whI n) p) p)else exG y p f (n+1) (xt (za9 t y p) (whI n) p) (ym s (xt (za9 t y p) (whI n) p) p)
def zy2(y:Iv)(p:Int):Iv:=ym (exG y p (p.toNat+2) 1 (whI 1) (whI 1)).2 (arI (exG y p (p.toNat+2) 1 (whI 1) (whI 1)).1) p
theorem ql4:bI (pw 0) (whI 1):=by
 refine⟨.inl (zah OA),.inr ?_⟩;have e:dv (whI 1).lo =1:=je 1;have e':dv (whI 1).hi =1:=je 1;have e2:pw 0=1:=rfl;rw[e,e',e2];constructor<;>decide
noncomputable def zyb:Code:=Tryz.f226.body.getD .skip
noncomputable def qkx:Code:=qd2 (zth 1 zyb)
noncomputable def qlk:Code:=qd3 (zth 1 qkx)
theorem x199(y:Iv)(hy:bI (pw (-1)) y)(p:Int)(hp:pcB p=true):Fn 226 G0 [.agg [.int .i64 p],.agg (ivC y)] (.agg (ivC (zy2 y p))) G0:=by
 have hp8:8<=p/\p<=512:=by unfold pcB at hp;simpa using hp
 have hR:zy2 y p=ym (exG y p (p.toNat+2) 1 (whI 1) (whI 1)).2 (arI (exG y p (p.toNat+2) 1 (whI 1) (whI 1)).1) p:=rfl;generalize zy2 y p=R at*;obtain⟨E,hE⟩:∃E,exG y p (p.toNat+2) 1 (whI 1) (whI 1)=E:=⟨_,rfl⟩;rw[hE]at hR;have hw1:=zy6 1 OA;have cw:CI (whI 1):=.inr ⟨rfl,(zah (n:=1) OA).lo,(zah (n:=1) OA).hi⟩;have bw:=ql4;have hst:∃w:Iv,w=whI 1:=⟨_,rfl⟩;obtain⟨w,hw⟩:=hst;rw[<-hw]at hw1 cw bw hE;clear hw;obtain⟨⟨y1,y2,y3⟩,⟨y4,y5,y6⟩,y7⟩:=y;obtain⟨⟨w1,w2,w3⟩,⟨w4,w5,w6⟩,w7⟩:=w;show Fn 226 G0 [.agg [.int .i64 p],.agg [.bool y1,.sl .u32 y2,.int .i64 y3,.bool y4,.sl .u32 y5,.int .i64 y6,.bool y7]] _ G0;have hw1:Fn 181 G0 [.int .i64 1] (.agg [.bool w1,.sl .u32 w2,.int .i64 w3,.bool w4,.sl .u32 w5,.int .i64 w6,.bool w7]) G0:=hw1;refine xk (code:=zyb) hT6 hmx Tryz.func226 rfl rfl (ex:= []) ?_;conv=>whnf
 refine zcj hT6 hmx 1 (fun _:Unit=>⟨[.any,.any,.ptr 2 0,.ptr 3 0,.ptr 4 0]++zn5 27,[(2,.cells [.int .i64 p]),(3,.cells [.bool y1,.sl .u32 y2,.int .i64 y3,.bool y4,.sl .u32 y5,.int .i64 y6,.bool y7]),(4,.cells [.any,.any,.any,.any,.any,.any,.any]),(5,.free),(6,.free),(jh,.gst JT)]⟩) (fun _=>Z) ?_ (fun _=>?_)
 .conv=>whnf
  refine⟨(),?_⟩;exact KZ0
 refine zux (b:=qkx) Z ?_;refine zcj hT6 hmx 1 (fun _:Unit=>⟨[.any,.any,.ptr 2 0,.ptr 3 0,.ptr 4 0,.ptr 5 0,.ptr 6 0]++zn5 25,[(2,.cells [.int .i64 p]),(3,.cells [.bool y1,.sl .u32 y2,.int .i64 y3,.bool y4,.sl .u32 y5,.int .i64 y6,.bool y7]),(4,.cells [.any,.any,.any,.any,.any,.any,.any]),(5,.cells [.bool w1,.sl .u32 w2,.int .i64 w3,.bool w4,.sl .u32 w5,.int .i64 w6,.bool w7]),(6,.cells [.bool w1,.sl .u32 w2,.int .i64 w3,.bool w4,.sl .u32 w5,.int .i64 w6,.bool w7]),(jh,.gst JT)]⟩) (fun _=>Z) ?_ (fun _=>?_)
 .conv=>whnf
  refine gYc hw1 ?_;refine gYc hw1 ?_;refine⟨(),?_⟩;exact KZ0
 refine zuy (l:=0) (b:=qlk) Z ?_;refine zci hT6 hmx ?_;conv=>whnf
 refine⟨Nat×Nat×Iv×Iv,fun x=>1<=x.2.1/\(x.2.1:Int)<=p+1/\(x.2.1:Int)+x.1=p+3/\bI (pw (1-x.2.1)) x.2.2.1/\CI x.2.2.2/\exG ⟨⟨y1,y2,y3⟩,⟨y4,y5,y6⟩,y7⟩ p x.1 x.2.1 x.2.2.1 x.2.2.2=E,fun x=> [(7,.int .i64 x.2.1)],fun x=> [(5,.cells (ivC x.2.2.1)),(6,.cells (ivC x.2.2.2))],fun x=>x.1,
  (p.toNat+2,1,⟨⟨w1,w2,w3⟩,⟨w4,w5,w6⟩,w7⟩,⟨⟨w1,w2,w3⟩,⟨w4,w5,w6⟩,w7⟩),⟨Nat.le_refl 1,OD,OD,bw,cw,hE⟩,?_,fun x hx=>?_⟩
 .exact KZ0
 refine gYe ?_;obtain⟨f,n,t,s⟩:=x;obtain⟨hx1,hx0,hx2,hx3,hx4,hx5⟩:=hx;simp only at hx0 hx1 hx2 hx3 hx4 hx5
 cases f with
 |zero=>omega
 |succ f=>
  simp only[exG]at hx5;have b1:=qdg hx3 hy hp (by rw[zhy];exact pwF O O);rw[zhy]at b1;have b2:=zyc b1 (n:=n) O O hp (pwF O O);have c1:=x135 t ⟨⟨y1,y2,y3⟩,⟨y4,y5,y6⟩,y7⟩ hx3.1.ri hy.1.ri p;have c2:=zy6 n O;have c3:=x132 _ _ b1.1.ri (zah (n:=n) O).ri p;have c4:=qdx s _ hx4.ri b2.1.ri p;have S4:=zgo s (xt (za9 t ⟨⟨y1,y2,y3⟩,⟨y4,y5,y6⟩,y7⟩ p) (whI n) p) p;have c5:=x202 _ b2.1.ri p O;have c6:=x203 _ b2.1.ri;have c7:=qdx _ _ S4.ri (qbo b2.1.ri).ri p;have hs:smB (xt (za9 t ⟨⟨y1,y2,y3⟩,⟨y4,y5,y6⟩,y7⟩ p) (whI n) p) p=false->(n:Int)<=p:=fun h=>by have:=qix b2 h;omega
  generalize za9 t ⟨⟨y1,y2,y3⟩,⟨y4,y5,y6⟩,y7⟩ p=M at*;generalize whI n=W at*;generalize xt M W p=D at*;generalize ym s D p=S at*;generalize smB D p=B at*;have hb3:bI (pw (1-((n+1:Nat):Int))) D:=by
   have e:(1:Int)-n-1=1-((n+1:Nat):Int):=O
   rwa [e]at b2
  clear b1 b2 hx3 hx4 hy
  cases B with
  |true=>
   rw[Z4 rfl]at hx5;rw[<-hx5]at hR;simp only at hR;rw[<-hR]at c7;clear hR hx5 hE;generalize arI D=A at*;obtain⟨⟨t1,t2,t3⟩,⟨t4,t5,t6⟩,t7⟩:=t;obtain⟨⟨s1,s2,s3⟩,⟨s4,s5,s6⟩,s7⟩:=s;obtain⟨⟨m1,m2,m3⟩,⟨m4,m5,m6⟩,m7⟩:=M;obtain⟨⟨v1,v2,v3⟩,⟨v4,v5,v6⟩,v7⟩:=W;obtain⟨⟨d1,d2,d3⟩,⟨d4,d5,d6⟩,d7⟩:=D;obtain⟨⟨z1,z2,z3⟩,⟨z4,z5,z6⟩,z7⟩:=S;obtain⟨⟨a1,a2,a3⟩,⟨a4,a5,a6⟩,a7⟩:=A;obtain⟨⟨r1,r2,r3⟩,⟨r4,r5,r6⟩,r7⟩:=R;have c1:Fn 189 G0 [.agg [.int .i64 p],.agg [.bool t1,.sl .u32 t2,.int .i64 t3,.bool t4,.sl .u32 t5,.int .i64 t6,.bool t7],.agg [.bool y1,.sl .u32 y2,.int .i64 y3,.bool y4,.sl .u32 y5,.int .i64 y6,.bool y7]] (.agg [.bool m1,.sl .u32 m2,.int .i64 m3,.bool m4,.sl .u32 m5,.int .i64 m6,.bool m7]) G0:=c1;have c2:Fn 181 G0 [.int .i64 n] (.agg [.bool v1,.sl .u32 v2,.int .i64 v3,.bool v4,.sl .u32 v5,.int .i64 v6,.bool v7]) G0:=c2;have c3:Fn 186 G0 [.agg [.int .i64 p],.agg [.bool m1,.sl .u32 m2,.int .i64 m3,.bool m4,.sl .u32 m5,.int .i64 m6,.bool m7],.agg [.bool v1,.sl .u32 v2,.int .i64 v3,.bool v4,.sl .u32 v5,.int .i64 v6,.bool v7]] (.agg [.bool d1,.sl .u32 d2,.int .i64 d3,.bool d4,.sl .u32 d5,.int .i64 d6,.bool d7]) G0:=c3;have c4:Fn 187 G0 [.agg [.int .i64 p],.agg [.bool s1,.sl .u32 s2,.int .i64 s3,.bool s4,.sl .u32 s5,.int .i64 s6,.bool s7],.agg [.bool d1,.sl .u32 d2,.int .i64 d3,.bool d4,.sl .u32 d5,.int .i64 d6,.bool d7]] (.agg [.bool z1,.sl .u32 z2,.int .i64 z3,.bool z4,.sl .u32 z5,.int .i64 z6,.bool z7]) G0:=c4;have c5:Fn 229 [] [.agg [.int .i64 p],.agg [.bool d1,.sl .u32 d2,.int .i64 d3,.bool d4,.sl .u32 d5,.int .i64 d6,.bool d7]] (.bool true) []:=c5;have c6:Fn 230 [] [.agg [.bool d1,.sl .u32 d2,.int .i64 d3,.bool d4,.sl .u32 d5,.int .i64 d6,.bool d7]] (.agg [.bool a1,.sl .u32 a2,.int .i64 a3,.bool a4,.sl .u32 a5,.int .i64 a6,.bool a7]) []:=c6
   have c7:Fn 187 G0 [.agg [.int .i64 p],.agg [.bool z1,.sl .u32 z2,.int .i64 z3,.bool z4,.sl .u32 z5,.int .i64 z6,.bool z7],.agg [.bool a1,.sl .u32 a2,.int .i64 a3,.bool a4,.sl .u32 a5,.int .i64 a6,.bool a7]] (.agg [.bool r1,.sl .u32 r2,.int .i64 r3,.bool r4,.sl .u32 r5,.int .i64 r6,.bool r7]) G0:=c7;refine gYc c1 ?_;refine gYc c2 ?_;refine gYc c3 ?_;refine gYd ?_;refine gYc c4 ?_;refine gYn c5 ?_;refine gYn c6 ?_;refine gYc c7 ?_;refine gYd ?_;exact⟨lr rfl,leG⟩
  |false=>
   rw[Z5 OA]at hx5;have hn:=hs rfl;clear hR c6 c7 hE;obtain⟨⟨t1,t2,t3⟩,⟨t4,t5,t6⟩,t7⟩:=t;obtain⟨⟨s1,s2,s3⟩,⟨s4,s5,s6⟩,s7⟩:=s;obtain⟨⟨m1,m2,m3⟩,⟨m4,m5,m6⟩,m7⟩:=M;obtain⟨⟨v1,v2,v3⟩,⟨v4,v5,v6⟩,v7⟩:=W;obtain⟨⟨d1,d2,d3⟩,⟨d4,d5,d6⟩,d7⟩:=D;obtain⟨⟨z1,z2,z3⟩,⟨z4,z5,z6⟩,z7⟩:=S;have c1:Fn 189 G0 [.agg [.int .i64 p],.agg [.bool t1,.sl .u32 t2,.int .i64 t3,.bool t4,.sl .u32 t5,.int .i64 t6,.bool t7],.agg [.bool y1,.sl .u32 y2,.int .i64 y3,.bool y4,.sl .u32 y5,.int .i64 y6,.bool y7]] (.agg [.bool m1,.sl .u32 m2,.int .i64 m3,.bool m4,.sl .u32 m5,.int .i64 m6,.bool m7]) G0:=c1;have c2:Fn 181 G0 [.int .i64 n] (.agg [.bool v1,.sl .u32 v2,.int .i64 v3,.bool v4,.sl .u32 v5,.int .i64 v6,.bool v7]) G0:=c2;have c3:Fn 186 G0 [.agg [.int .i64 p],.agg [.bool m1,.sl .u32 m2,.int .i64 m3,.bool m4,.sl .u32 m5,.int .i64 m6,.bool m7],.agg [.bool v1,.sl .u32 v2,.int .i64 v3,.bool v4,.sl .u32 v5,.int .i64 v6,.bool v7]] (.agg [.bool d1,.sl .u32 d2,.int .i64 d3,.bool d4,.sl .u32 d5,.int .i64 d6,.bool d7]) G0:=c3;have c4:Fn 187 G0 [.agg [.int .i64 p],.agg [.bool s1,.sl .u32 s2,.int .i64 s3,.bool s4,.sl .u32 s5,.int .i64 s6,.bool s7],.agg [.bool d1,.sl .u32 d2,.int .i64 d3,.bool d4,.sl .u32 d5,.int .i64 d6,.bool d7]] (.agg [.bool z1,.sl .u32 z2,.int .i64 z3,.bool z4,.sl .u32 z5,.int .i64 z6,.bool z7]) G0:=c4;have c5:Fn 229 [] [.agg [.int .i64 p],.agg [.bool d1,.sl .u32 d2,.int .i64 d3,.bool d4,.sl .u32 d5,.int .i64 d6,.bool d7]] (.bool false) []:=c5;refine gYc c1 ?_;refine gYc c2 ?_;refine gYc c3 ?_;refine gYd ?_;refine gYc c4 ?_;refine gYn c5 ?_;refine⟨(f,n+1,⟨⟨d1,d2,d3⟩,⟨d4,d5,d6⟩,d7⟩,⟨⟨z1,z2,z3⟩,⟨z4,z5,z6⟩,z7⟩),⟨OD,OD,OD,hb3,S4,hx5⟩,by show f<f+1;omega,?_⟩;exact KZ0
theorem qes{a b c:Rat}(h:a<=b)(g:b<c):a<c:=qB.1 fun k=>qB.2 g (q8 k h)
theorem qmn(y:Iv)(p:Int):CI (zy2 y p):=zgo _ _ _
def haI(p:Int):Nat->Iv->Iv
 |0,y=>zy2 y p
 |n+1,y=>sqI (haI p n (wl y (-1))) p
theorem qml(p:Int):∀(n:Nat)(y:Iv),CI (haI p n y)
 |0,y=>qmn y p
 | _+1,_=>qhd p
theorem x130(p:Int)(hp:pcB p=true):∀(n:Nat)(y:Iv),n<=100->bI (pw ((n:Int)-1)) y->Fn 184 G0 [.agg [.int .i64 p],.agg (ivC y),.int .i64 (n:Int)] (.agg (ivC (haI p n y))) G0:=by
 intro n
 induction n with
 |zero=>
  intro y _ hy;have h:=x199 y hy p hp;show Fn 184 G0 [.agg [.int .i64 p],.agg (ivC y),.int .i64 0] (.agg (ivC (zy2 y p))) G0;generalize zy2 y p=R at*;clear hy;obtain⟨⟨y1,y2,y3⟩,⟨y4,y5,y6⟩,y7⟩:=y;obtain⟨⟨r1,r2,r3⟩,⟨r4,r5,r6⟩,r7⟩:=R;have h:Fn 226 G0 [.agg [.int .i64 p],.agg [.bool y1,.sl .u32 y2,.int .i64 y3,.bool y4,.sl .u32 y5,.int .i64 y6,.bool y7]] (.agg [.bool r1,.sl .u32 r2,.int .i64 r3,.bool r4,.sl .u32 r5,.int .i64 r6,.bool r7]) G0:=h;show Fn 184 G0 [.agg [.int .i64 p],.agg [.bool y1,.sl .u32 y2,.int .i64 y3,.bool y4,.sl .u32 y5,.int .i64 y6,.bool y7],.int .i64 0] _ G0;refine fY6 Tryz.func184 rfl ?_;refine gYc h ?_;exact⟨lr rfl,leG⟩
 |succ n ih0=>
  intro y hn hy;have hs:=i191 y hy.1.ri (-1);have hb:=zr6 hy (-1);rw[zhy]at hb;have ih:=ih0 (wl y (-1)) O (by
   have e:(((n+1:Nat):Int)-1-1)=(n:Int)-1:=O
   rwa [e]at hb)
  have hq:=x200 _ (qml p n (wl y (-1))).ri p;show Fn 184 G0 [.agg [.int .i64 p],.agg (ivC y),.int .i64 ((n+1:Nat):Int)] (.agg (ivC (sqI (haI p n (wl y (-1))) p))) G0;have hw:qE.wrap (((n+1:Nat):Int)-1)=n:=by rw[wI O];omega
  generalize sqI (haI p n (wl y (-1))) p=R at*;generalize haI p n (wl y (-1))=V at*;generalize wl y (-1)=Zq at*;clear hy hb ih0;generalize hN:((n+1:Nat):Int)=N at*;obtain⟨⟨y1,y2,y3⟩,⟨y4,y5,y6⟩,y7⟩:=y;obtain⟨⟨z1,z2,z3⟩,⟨z4,z5,z6⟩,z7⟩:=Zq;obtain⟨⟨v1,v2,v3⟩,⟨v4,v5,v6⟩,v7⟩:=V;obtain⟨⟨r1,r2,r3⟩,⟨r4,r5,r6⟩,r7⟩:=R;have hs:Fn 185 G0 [.agg [.bool y1,.sl .u32 y2,.int .i64 y3,.bool y4,.sl .u32 y5,.int .i64 y6,.bool y7],.int .i64 (-1)] (.agg [.bool z1,.sl .u32 z2,.int .i64 z3,.bool z4,.sl .u32 z5,.int .i64 z6,.bool z7]) G0:=hs;have ih:Fn 184 G0 [.agg [.int .i64 p],.agg [.bool z1,.sl .u32 z2,.int .i64 z3,.bool z4,.sl .u32 z5,.int .i64 z6,.bool z7],.int .i64 n] (.agg [.bool v1,.sl .u32 v2,.int .i64 v3,.bool v4,.sl .u32 v5,.int .i64 v6,.bool v7]) G0:=ih;have hq:Fn 227 G0 [.agg [.bool v1,.sl .u32 v2,.int .i64 v3,.bool v4,.sl .u32 v5,.int .i64 v6,.bool v7],.int .i64 p] (.agg [.bool r1,.sl .u32 r2,.int .i64 r3,.bool r4,.sl .u32 r5,.int .i64 r6,.bool r7]) G0:=hq;show Fn 184 G0 [.agg [.int .i64 p],.agg [.bool y1,.sl .u32 y2,.int .i64 y3,.bool y4,.sl .u32 y5,.int .i64 y6,.bool y7],.int .i64 N] _ G0;refine fY6 Tryz.func184 rfl ?_;refine brI (fun h1=>?_) (fun _=>?_)
  .have h1:(N==0)=true:=h1;have h1:N=0:=by simpa using h1
   omega
  conv=>whnf
  refine gYc hs ?_;rw[hw];refine gYc ih ?_;refine gYc hq ?_;refine gYd ?_;exact⟨lr rfl,leG⟩
def hvN(d:Dy):Nat:=(zf d+1).toNat
def poI(d:Dy)(p:Int):Iv:=if wy d=0 then whI 1 else qs (haI (guP p (hvN d+24)) (hvN d) (qs (qc d) (guP p (hvN d+24)))) p
theorem qdb{d:Dy}(h0:nm d≠0): -(pw (zf d))<=dv d/\dv d<=pw (zf d):=by
 have ht:zf d=bl (nm d)+d.e:=by unfold zf;rw[Z5 h0]
 have h1:=zai (n:=nm d) (e:=d.e) (t:=zf d) O;have h2:=zb8 (nm d) d.e;unfold dv;split<;>constructor<;>grind
theorem qkf{d:Dy}(hm:mdB d=true)(h0:nm d≠0):zf d<=10:=by
 have hm:qu (zcc d) (wx 1000)<=0:=Z0 hm;have h1:=yn.1 hm;rw[je]at h1;have h2:dv (zcc d)=vN (nm d) d.e:=rfl;rw[h2]at h1;have ht:zf d=bl (nm d)+d.e:=by unfold zf;rw[Z5 h0]
 have h3:=yf (n:=nm d) (e:=d.e) (t:=zf d-1) O h0;have h4:((1000:Int):Rat)<pw 10:=by
  rw[show pw 10=((2^10:Nat):Rat)from wa 10];decide
 have h5:=qes (q8 h3 h1) h4;have:¬(10:Int)<=zf d-1:=fun c=>qB.2 h5 (za7.2 c)
 omega
theorem ztd{p m:Int}(hp:8<=p/\p<=512)(hm:0<=m):pcB (guP p m)=true:=by
 unfold pcB guP;simp;omega
theorem zhg{x:Iv}(p:Int):CI (qs x p):=by
 unfold qs;split
 .rename_i h;exact uz (wk _ _ _ (qe h.2)) (wk _ _ _ (qe h.2))
 .exact zji
theorem qbl(d:Dy)(p:Int):CI (poI d p):=by
 unfold poI;split
 .exact .inr ⟨rfl,jo 1 OA,jo 1 OA⟩
 .exact zhg p
theorem x87{d:Dy}(hd:VD d)(hm:mdB d=true)(p:Int)(hp:8<=p/\p<=512):Fn 146 G0 [.agg (dyC d),.int .i64 p] (.agg (ivC (poI d p))) G0:=by
 have h81:=zt1 hd;have h126:=zy6 1 OA;have h127:=zpx hd;have h77:=qht hd;have hR:poI d p=if wy d=0 then whI 1 else qs (haI (guP p (hvN d+24)) (hvN d) (qs (qc d) (guP p (hvN d+24)))) p:=rfl
 generalize poI d p=R at*;by_cases h0:nm d=0
 .have hs:wy d=0:=by unfold wy;rw[Z4 h0]
  rw[Z4 hs]at hR;rw[hs]at h81;rw[<-hR]at h126;clear hd hm h127 h77 hR h0 hs;refine fY6 Tryz.func146 rfl ?_;refine gYn h81 ?_;refine gYc h126 ?_;exact⟨lr rfl,leG⟩
 have hs:wy d≠0:=by unfold wy;rw[Z5 h0];split<;>decide
 have htop:=qkf hm h0;have hlow: -100000<=zf d:=by
  have:=hd.exp;unfold zf;rw[Z5 h0];omega
 rw[Z5 hs]at hR;have hn:hvN d<=11:=by unfold hvN;omega
 have hn2:zf d<=(hvN d:Int)-1:=by unfold hvN;omega
 have hg:=ztd hp (m:=(hvN d:Int)+24) O;have hg8:8<=guP p ((hvN d:Int)+24)/\guP p ((hvN d:Int)+24)<=512:=by unfold pcB at hg;simpa using hg
 have hpt:bI (pw ((hvN d:Int)-1)) (qc d):=by
  have:=qdb h0;have hle:pw (zf d)<=pw ((hvN d:Int)-1):=za7.2 hn2;refine⟨.inl (zn9 hd),.inr ⟨?_,q8 this.2 hle⟩⟩;have h1:=this.1;show-(pw ((hvN d:Int)-1))<=dv d;grind
 have hr1:=qa9 hpt (p:=guP p ((hvN d:Int)+24)) (pwF O O);have c1:=x128 p ((hvN d:Int)+24) O O;have c2:=qkz _ hpt.1.ri (guP p ((hvN d:Int)+24));have c3:=x130 _ hg (hvN d) _ O hr1;have c4:=qkz _ (qml (guP p ((hvN d:Int)+24)) (hvN d) (qs (qc d) (guP p ((hvN d:Int)+24)))).ri p;rw[<-hR]at c4;have hmax:(if(0:Int)>qE.wrap (zf d+1)then 0 else qE.wrap (zf d+1))=(hvN d:Int):=by
  rw[wI O];unfold hvN;split<;>omega
 have hw:qE.wrap ((hvN d:Int)+24)=(hvN d:Int)+24:=wI O;have hw2:qE.wrap (zf d+1)=zf d+1:=wI O;clear hR hr1 hpt hg hm;generalize haI (guP p ((hvN d:Int)+24)) (hvN d) (qs (qc d) (guP p ((hvN d:Int)+24)))=V at*;generalize qs (qc d) (guP p ((hvN d:Int)+24))=Zq at*;generalize qc d=P at*;generalize guP p ((hvN d:Int)+24)=g at*;generalize (hvN d:Int)=N at*;generalize zf d=t at*;generalize wy d=S at*;clear hd h0;refine fY6 Tryz.func146 rfl ?_;refine gYn h81 ?_;refine brI (fun k1=>?_) (fun _=>?_)
 .have k1:(S==0)=true:=k1;exact absurd (by simpa using k1) hs
 conv=>whnf
 refine gYn h127 ?_;rw[hmax,hw];refine gYn c1 ?_;refine gYn h77 ?_;refine gYc c2 ?_;refine gYc c3 ?_;refine gYc c4 ?_;refine gYd ?_;exact⟨lr rfl,leG⟩
def zrn(x:Iv)(p:Int):Iv:=if ftB x p=true/\mdB x.lo=true/\mdB x.hi=true then edI (poI x.lo p) (poI x.hi p)else wI0
theorem qmm(x:Iv)(p:Int):CI (zrn x p):=by
 unfold zrn;split
 .exact qbn (qbl _ _) (qbl _ _)
 .exact zji
theorem x33(x:Iv)(hx:RI x)(p:Int):Fn 102 G0 [.agg (ivC x),.int .i64 p] (.agg (ivC (zrn x p))) G0:=by
 have h84:=x84 x hx p;have h25:=i25;rw[e25]at h25;have hR:zrn x p=if ftB x p=true/\mdB x.lo=true/\mdB x.hi=true then edI (poI x.lo p) (poI x.hi p)else wI0:=rfl
 generalize zrn x p=R at*;by_cases hf:ftB x p=true
 rotate_left
 .rw[Z5 fun c=>hf c.1]at hR;subst hR;rw[show ftB x p=false by simpa using hf]at h84;clear hf hx;refine fY6 Tryz.func102 rfl ?_;refine gYn h84 ?_;refine gYn h25 ?_;exact⟨lr rfl,leG⟩
 rw[hf]at h84;have hf':=hf;unfold ftB at hf';rw[Bool.and_eq_true]at hf';have k:=(zq hx).1 hf'.1;have hp8:8<=p/\p<=512:=by have:=hf'.2;unfold pcB at this;simpa using this
 have m1:=x85 k.lo;have m2:=x85 k.hi;by_cases h1:mdB x.lo=true
 rotate_left
 .rw[Z5 fun c=>h1 c.2.1]at hR;subst hR;rw[show mdB x.lo=false by simpa using h1]at m1;clear hf hf' k hx m2 h1;refine fY6 Tryz.func102 rfl ?_;refine gYn h84 ?_;refine gYc m1 ?_;refine gYn h25 ?_;exact⟨lr rfl,leG⟩
 rw[h1]at m1;by_cases h2:mdB x.hi=true
 rotate_left
 .rw[Z5 fun c=>h2 c.2.2]at hR;subst hR;rw[show mdB x.hi=false by simpa using h2]at m2;clear hf hf' k hx h1 h2;refine fY6 Tryz.func102 rfl ?_;refine gYn h84 ?_;refine gYc m1 ?_;refine gYc m2 ?_;refine gYn h25 ?_;exact⟨lr rfl,leG⟩
 rw[h2]at m2;rw[Z4 ⟨hf,h1,h2⟩]at hR;have c1:=x87 k.lo h1 p hp8;have c2:=x87 k.hi h2 p hp8;have c3:=x86 (poI x.lo p) (poI x.hi p);rw[<-hR]at c3;clear hR;generalize poI x.lo p=A at*;generalize poI x.hi p=B at*;clear hf hf' k hx h1 h2;refine fY6 Tryz.func102 rfl ?_;refine gYn h84 ?_;refine gYc m1 ?_;refine gYc m2 ?_;refine gYc c1 ?_;refine gYc c2 ?_;refine gYn c3 ?_;refine gYd ?_;exact⟨lr rfl,leG⟩
def inB(a b:Rat)(x:Iv):Prop:=VI x/\(x.all=true\/(a<=dv x.lo/\dv x.hi<=b))
theorem zu7{a b:Rat}{x:Iv}(hx:inB a b x){p:Int}(ha:Fp p.toNat a)(hb:Fp p.toNat b\/pw 16384<=b):inB a b (qs x p):=by
 unfold qs;split
 .rename_i c;obtain⟨c1,hp⟩:=c;have k:=(zq hx.1.ri).1 c1;have R1:=jf k.lo (qe hp);have R2:=jf k.hi (qe hp);obtain⟨a1,a2⟩:=hx.2.resolve_left (by rw[k.all];decide);refine⟨zsu R1 R2 (uz (wk _ _ _ (qe hp)) (wk _ _ _ (qe hp))) k.dle,?_⟩
  cases h:(ve (ql x.lo p.toNat false) (ql x.hi p.toNat true)).all with
  |true=>exact .inl rfl
  |false=>
   right;rw[uj h];refine⟨(R1.1.2 a ha a1).2,?_⟩;rcases hb with hb|hb
   .exact(R2.2.2 b hb a2).2
   .rcases(R2.2.1 (kj.1 h).2).2 with ⟨_,_,_,_,_,c⟩|c
    .exact q8 (qd c) hb
    .have h1:=zj0 c;have h2:=zfn 16384;exact q8 (show dv (ql x.hi p.toNat true).1<=pw 16384 by grind) hb
 .exact⟨.inr rfl,.inl rfl⟩
theorem zu1{a b:Rat}{x:Iv}(hx:inB a b x)(k:Int):inB (a*pw k) (b*pw k) (wl x k):=by
 unfold wl;split
 .rename_i c1;have kx:=(zq hx.1.ri).1 c1;obtain⟨a1,a2⟩:=hx.2.resolve_left (by rw[kx.all];decide);have hc:=uz (zdl x.lo k) (zdl x.hi k)
  cases ha:(ve (vu x.lo k) (vu x.hi k)).all with
  |true=>exact⟨qbp hc (fun c=>by rw[ha]at c;cases c),.inl ha⟩
  |false=>
   have e:=uj ha;obtain⟨o1,o2⟩:=kj.1 ha;have e1:dv (ve (vu x.lo k) (vu x.hi k)).lo =dv x.lo*pw k:=by rw[e];exact zc5 o1
   have e2:dv (ve (vu x.lo k) (vu x.hi k)).hi =dv x.hi*pw k:=by rw[e];exact zc5 o2
   refine⟨qbp hc fun _=>by rw[e1,e2];exact qw kx.dle (zfn k),.inr ?_⟩;rw[e1,e2];exact⟨qw a1 (zfn k),qw a2 (zfn k)⟩
 .exact⟨.inr rfl,.inl rfl⟩
theorem zyg{a b c d e f:Rat}{x y:Iv}(hx:inB a b x)(hy:inB c d y){p:Int}(hp:pcB p=true)(h1:e<=a+c)(h2:b+d<=f)(he:Fp p.toNat e)(hf:Fp p.toNat f):inB e f (ym x y p):=by
 refine⟨zfb hx.1 hy.1 hp,?_⟩
 cases ha:(ym x y p).all with
 |true=>exact .inl rfl
 |false=>
  right;by_cases hk:KI x/\KI y
  .rw[zsb hk.1 hk.2 hp]at ha⊢;obtain⟨a1,a2⟩:=hx.2.resolve_left (by rw[hk.1.all];decide);obtain⟨b1,b2⟩:=hy.2.resolve_left (by rw[hk.2.all];decide);have R1:=zkl hk.1.lo hk.2.lo (qe hp);have R2:=zkl hk.1.hi hk.2.hi (qe hp);rw[uj ha];exact⟨(R1.1.2 e he (by grind)).2,(R2.2.2 f hf (by grind)).2⟩
  .rw[qg2 hx.1.ri hy.1.ri hk]at ha;cases ha
theorem qg0{B c:Rat}{x y:Iv}(hx:bI B x)(hy:inB 1 c y){p:Int}(hp:pcB p=true)(hF:inF p.toNat B):bI B (xt x y p):=by
 refine⟨zcz hx.1 hy.1 hp,?_⟩
 cases ha:(xt x y p).all with
 |true=>exact .inl rfl
 |false=>
  right;by_cases hk:KI x/\KI y
  .obtain⟨b1,b2⟩:=hy.2.resolve_left (by rw[hk.2.all];decide);have b3:=q8 b1 hk.2.dle;have hs:0<dv y.lo\/dv y.hi<0:=.inl (by grind);rw[zl1 hk.1 hk.2 hs hp]at ha⊢;obtain⟨⟨a1,a2⟩,⟨a3,a4⟩⟩:=hx.ends hk.1;have q:∀a n:Rat,-B<=a->a<=B->1<=n-> -B<=a/n/\a/n<=B:=fun a n c1 c2 c3=>by
    obtain⟨i1,i2⟩:=zjz c3;have:=zf6 c1 c2 i1 i2
    rwa [qC,<-qD]at this
   refine qbj (zrt hk.1 hk.2 hs (qe hp)) hF ?_ ha;exact⟨q _ _ a1 a2 b1,q _ _ a1 a2 b3,q _ _ a3 a4 b1,q _ _ a3 a4 b3⟩
  .rw[zxs hx.1.ri hy.1.ri fun c=>hk ⟨c.1,c.2.1⟩]at ha;cases ha
theorem wd{p:Int}(hp:pcB p=true):bI (pw (-1)) (xt (whI 1) (whI 3) p):=by
 have k1:=zah (n:=1) OA;have k3:=zah (n:=3) OA;have e1:dv (whI 1).lo =1:=je 1;have e1':dv (whI 1).hi =1:=je 1;have e3:dv (whI 3).lo =3:=je 3;have e3':dv (whI 3).hi =3:=je 3;have hs:0<dv (whI 3).lo \/dv (whI 3).hi <0:=.inl (by rw[e3];decide);have ph:pw (-1)=1/2:=OB;refine⟨zcz (.inl k1) (.inl k3) hp,?_⟩
 cases ha:(xt (whI 1) (whI 3) p).all with
 |true=>exact .inl rfl
 |false=>
  right;rw[zl1 k1 k3 hs hp]at ha⊢;refine qbj (zrt k1 k3 hs (qe hp)) (pwF OA OA) ?_ ha;unfold qf2;rw[e1,e1',e3,e3',ph];decide+kernel
def lgG(q:Iv)(p:Int):Nat->Nat->Iv->Iv->Iv×Iv
 |0,_,w,s=>(w,s)
 |f+1,n,w,s=>if smB w p=true then(w,s)else lgG q p f (n+2) (za9 w q p) (ym s (xt (za9 w q p) (whI n) p) p)
def loI(z:Iv)(p:Int):Iv:=wl (ym (lgG (sqI z p) p (p.toNat+2) 3 z z).2 (arI (lgG (sqI z p) p (p.toNat+2) 3 z z).1) p) 1
theorem qbk(x:Iv)(k:Int):CI (wl x k):=by
 unfold wl;split
 .exact uz (zdl _ _) (zdl _ _)
 .exact zji
theorem qmk(z:Iv)(p:Int):CI (loI z p):=qbk _ _
theorem VI_CI{x:Iv}(h:VI x):CI x:=by
 rcases h with k|rfl
 .exact .inr ⟨k.all,k.lo,k.hi⟩
 .exact zji
theorem x134(z:Iv)(hz:bI (pw (-1)) z)(p:Int)(hp:pcB p=true):Fn 188 G0 [.agg [.int .i64 p],.agg (ivC z)] (.agg (ivC (loI z p))) G0:=by
 have hp8:8<=p/\p<=512:=by unfold pcB at hp;simpa using hp
 have hR:loI z p=wl (ym (lgG (sqI z p) p (p.toNat+2) 3 z z).2 (arI (lgG (sqI z p) p (p.toNat+2) 3 z z).1) p) 1:=rfl;generalize loI z p=R at*;have hq:=x200 z hz.1.ri p;have bq:=bI_sq hz (p:=p) (by rw[zhy];exact pwF O O);rw[zhy]at bq;generalize sqI z p=Q at*;obtain⟨E,hE⟩:∃E,lgG Q p (p.toNat+2) 3 z z=E:=⟨_,rfl⟩;rw[hE]at hR;have cz:=VI_CI hz.1;obtain⟨⟨z1,z2,z3⟩,⟨z4,z5,z6⟩,z7⟩:=z;obtain⟨⟨q1,q2,q3⟩,⟨q4,q5,q6⟩,q7⟩:=Q;have hq:Fn 227 G0 [.agg [.bool z1,.sl .u32 z2,.int .i64 z3,.bool z4,.sl .u32 z5,.int .i64 z6,.bool z7],.int .i64 p] (.agg [.bool q1,.sl .u32 q2,.int .i64 q3,.bool q4,.sl .u32 q5,.int .i64 q6,.bool q7]) G0:=hq;show Fn 188 G0 [.agg [.int .i64 p],.agg [.bool z1,.sl .u32 z2,.int .i64 z3,.bool z4,.sl .u32 z5,.int .i64 z6,.bool z7]] _ G0;refine fY6 Tryz.func188 rfl ?_;refine gYc hq ?_;refine gYd ?_;refine⟨Nat×Nat×Iv×Iv,fun x=>3<=x.2.1/\(x.2.1:Int)<=p+4/\(x.2.1:Int)+2*x.1=2*p+7/\bI (pw (2-x.2.1)) x.2.2.1/\CI x.2.2.2/\lgG ⟨⟨q1,q2,q3⟩,⟨q4,q5,q6⟩,q7⟩ p x.1 x.2.1 x.2.2.1 x.2.2.2=E,fun x=> [(8,.int .i64 x.2.1)],fun x=> [(6,.cells (ivC x.2.2.1)),(7,.cells (ivC x.2.2.2))],fun x=>x.1,
  (p.toNat+2,3,⟨⟨z1,z2,z3⟩,⟨z4,z5,z6⟩,z7⟩,⟨⟨z1,z2,z3⟩,⟨z4,z5,z6⟩,z7⟩),⟨Nat.le_refl 3,OD,OD,hz,cz,hE⟩,?_,fun x hx=>?_⟩
 .exact KZ0
 refine gYe ?_;obtain⟨f,n,w,s⟩:=x;obtain⟨hx1,hx0,hx2,hx3,hx4,hx5⟩:=hx;simp only at hx0 hx1 hx2 hx3 hx4 hx5
 cases f with
 |zero=>omega
 |succ f=>
  simp only[lgG]at hx5;have c5:=x202 w hx3.1.ri p O;have hs:smB w p=false->(n:Int)<=p+2:=fun h=>by have:=qix hx3 h;omega
  generalize smB w p=B at*
  cases B with
  |true=>
   rw[Z4 rfl]at hx5;have c6:=x203 _ hx3.1.ri;have c7:=qdx _ _ hx4.ri (qbo hx3.1.ri).ri p;have c8:=i191 _ (zgo s (arI w) p).ri 1;rw[<-hx5]at hR;simp only at hR;rw[<-hR]at c8;clear hR hx5 hE hx3 hx4 hz bq cz hs;generalize ym s (arI w) p=D at*;generalize arI w=A at*;obtain⟨⟨w1,w2,w3⟩,⟨w4,w5,w6⟩,w7⟩:=w;obtain⟨⟨s1,s2,s3⟩,⟨s4,s5,s6⟩,s7⟩:=s;obtain⟨⟨d1,d2,d3⟩,⟨d4,d5,d6⟩,d7⟩:=D;obtain⟨⟨a1,a2,a3⟩,⟨a4,a5,a6⟩,a7⟩:=A;obtain⟨⟨r1,r2,r3⟩,⟨r4,r5,r6⟩,r7⟩:=R;have c5:Fn 229 [] [.agg [.int .i64 p],.agg [.bool w1,.sl .u32 w2,.int .i64 w3,.bool w4,.sl .u32 w5,.int .i64 w6,.bool w7]] (.bool true) []:=c5;have c6:Fn 230 [] [.agg [.bool w1,.sl .u32 w2,.int .i64 w3,.bool w4,.sl .u32 w5,.int .i64 w6,.bool w7]] (.agg [.bool a1,.sl .u32 a2,.int .i64 a3,.bool a4,.sl .u32 a5,.int .i64 a6,.bool a7]) []:=c6;have c7:Fn 187 G0 [.agg [.int .i64 p],.agg [.bool s1,.sl .u32 s2,.int .i64 s3,.bool s4,.sl .u32 s5,.int .i64 s6,.bool s7],.agg [.bool a1,.sl .u32 a2,.int .i64 a3,.bool a4,.sl .u32 a5,.int .i64 a6,.bool a7]] (.agg [.bool d1,.sl .u32 d2,.int .i64 d3,.bool d4,.sl .u32 d5,.int .i64 d6,.bool d7]) G0:=c7;have c8:Fn 185 G0 [.agg [.bool d1,.sl .u32 d2,.int .i64 d3,.bool d4,.sl .u32 d5,.int .i64 d6,.bool d7],.int .i64 1] (.agg [.bool r1,.sl .u32 r2,.int .i64 r3,.bool r4,.sl .u32 r5,.int .i64 r6,.bool r7]) G0:=c8;refine gYn c5 ?_;refine gYn c6 ?_;refine gYc c7 ?_;refine gYc c8 ?_;refine gYd ?_;exact⟨lr rfl,leG⟩
  |false=>
   rw[Z5 OA]at hx5;have hn:=hs rfl;have b1:=qdg hx3 bq hp (by rw[<-pwA];exact pwF O O);rw[<-pwA]at b1;have b2:=zyc b1 (n:=n) O O hp (pwF O O);have c1:=x135 w ⟨⟨q1,q2,q3⟩,⟨q4,q5,q6⟩,q7⟩ hx3.1.ri bq.1.ri p;have c2:=zy6 n O;have c3:=x132 _ _ b1.1.ri (zah (n:=n) O).ri p;have c4:=qdx s _ hx4.ri b2.1.ri p;have S4:=zgo s (xt (za9 w ⟨⟨q1,q2,q3⟩,⟨q4,q5,q6⟩,q7⟩ p) (whI n) p) p;generalize za9 w ⟨⟨q1,q2,q3⟩,⟨q4,q5,q6⟩,q7⟩ p=M at*;generalize whI n=W at*;generalize xt M W p=D at*;generalize ym s D p=S at*;have hb3:bI (pw (2-((n+2:Nat):Int))) M:=by
    have e:(2:Int)-n+(-1-1)=2-((n+2:Nat):Int):=O
    rwa [e]at b1
   clear b1 b2 hx3 hx4 hz hR hE cz;obtain⟨⟨w1,w2,w3⟩,⟨w4,w5,w6⟩,w7⟩:=w;obtain⟨⟨s1,s2,s3⟩,⟨s4,s5,s6⟩,s7⟩:=s;obtain⟨⟨m1,m2,m3⟩,⟨m4,m5,m6⟩,m7⟩:=M;obtain⟨⟨v1,v2,v3⟩,⟨v4,v5,v6⟩,v7⟩:=W;obtain⟨⟨d1,d2,d3⟩,⟨d4,d5,d6⟩,d7⟩:=D;obtain⟨⟨u1,u2,u3⟩,⟨u4,u5,u6⟩,u7⟩:=S;have c5:Fn 229 [] [.agg [.int .i64 p],.agg [.bool w1,.sl .u32 w2,.int .i64 w3,.bool w4,.sl .u32 w5,.int .i64 w6,.bool w7]] (.bool false) []:=c5;have c1:Fn 189 G0 [.agg [.int .i64 p],.agg [.bool w1,.sl .u32 w2,.int .i64 w3,.bool w4,.sl .u32 w5,.int .i64 w6,.bool w7],.agg [.bool q1,.sl .u32 q2,.int .i64 q3,.bool q4,.sl .u32 q5,.int .i64 q6,.bool q7]] (.agg [.bool m1,.sl .u32 m2,.int .i64 m3,.bool m4,.sl .u32 m5,.int .i64 m6,.bool m7]) G0:=c1;have c2:Fn 181 G0 [.int .i64 n] (.agg [.bool v1,.sl .u32 v2,.int .i64 v3,.bool v4,.sl .u32 v5,.int .i64 v6,.bool v7]) G0:=c2;have c3:Fn 186 G0 [.agg [.int .i64 p],.agg [.bool m1,.sl .u32 m2,.int .i64 m3,.bool m4,.sl .u32 m5,.int .i64 m6,.bool m7],.agg [.bool v1,.sl .u32 v2,.int .i64 v3,.bool v4,.sl .u32 v5,.int .i64 v6,.bool v7]] (.agg [.bool d1,.sl .u32 d2,.int .i64 d3,.bool d4,.sl .u32 d5,.int .i64 d6,.bool d7]) G0:=c3;have c4:Fn 187 G0 [.agg [.int .i64 p],.agg [.bool s1,.sl .u32 s2,.int .i64 s3,.bool s4,.sl .u32 s5,.int .i64 s6,.bool s7],.agg [.bool d1,.sl .u32 d2,.int .i64 d3,.bool d4,.sl .u32 d5,.int .i64 d6,.bool d7]] (.agg [.bool u1,.sl .u32 u2,.int .i64 u3,.bool u4,.sl .u32 u5,.int .i64 u6,.bool u7]) G0:=c4;refine gYn c5 ?_;refine gYc c1 ?_;refine gYc c2 ?_;refine gYc c3 ?_;refine gYc c4 ?_;refine gYd ?_;refine⟨(f,n+2,⟨⟨m1,m2,m3⟩,⟨m4,m5,m6⟩,m7⟩,⟨⟨u1,u2,u3⟩,⟨u4,u5,u6⟩,u7⟩),⟨OD,OD,OD,hb3,S4,hx5⟩,by show f<f+1;omega,?_⟩;exact KZ0
def l2I(p:Int):Iv:=qs (loI (xt (whI 1) (whI 3) (guP p 16)) (guP p 16)) p
theorem x136(p:Int)(hp:8<=p/\p<=512):Fn 190 G0 [.int .i64 p] (.agg (ivC (l2I p))) G0:=by
 have hg:=ztd hp (m:=16) OA;have c0:=x128 p 16 O OA;have c1:=zy6 1 OA;have c2:=zy6 3 OA;have c3:=x132 _ _ (zah (n:=1) OA).ri (zah (n:=3) OA).ri (guP p 16);have c4:=x134 _ (wd hg) _ hg;have c5:=qkz _ (qmk (xt (whI 1) (whI 3) (guP p 16)) (guP p 16)).ri p;show Fn 190 G0 [.int .i64 p] (.agg (ivC (qs (loI (xt (whI 1) (whI 3) (guP p 16)) (guP p 16)) p))) G0;generalize qs (loI (xt (whI 1) (whI 3) (guP p 16)) (guP p 16)) p=R at*;generalize loI (xt (whI 1) (whI 3) (guP p 16)) (guP p 16)=L at*;generalize xt (whI 1) (whI 3) (guP p 16)=D at*;generalize guP p 16=g at*;generalize whI 1=V at*;generalize whI 3=W at*;obtain⟨⟨v1,v2,v3⟩,⟨v4,v5,v6⟩,v7⟩:=V;obtain⟨⟨w1,w2,w3⟩,⟨w4,w5,w6⟩,w7⟩:=W;obtain⟨⟨d1,d2,d3⟩,⟨d4,d5,d6⟩,d7⟩:=D;obtain⟨⟨l1,l2,l3⟩,⟨l4,l5,l6⟩,l7⟩:=L;obtain⟨⟨r1,r2,r3⟩,⟨r4,r5,r6⟩,r7⟩:=R;have c1:Fn 181 G0 [.int .i64 1] (.agg [.bool v1,.sl .u32 v2,.int .i64 v3,.bool v4,.sl .u32 v5,.int .i64 v6,.bool v7]) G0:=c1;have c2:Fn 181 G0 [.int .i64 3] (.agg [.bool w1,.sl .u32 w2,.int .i64 w3,.bool w4,.sl .u32 w5,.int .i64 w6,.bool w7]) G0:=c2;have c3:Fn 186 G0 [.agg [.int .i64 g],.agg [.bool v1,.sl .u32 v2,.int .i64 v3,.bool v4,.sl .u32 v5,.int .i64 v6,.bool v7],.agg [.bool w1,.sl .u32 w2,.int .i64 w3,.bool w4,.sl .u32 w5,.int .i64 w6,.bool w7]] (.agg [.bool d1,.sl .u32 d2,.int .i64 d3,.bool d4,.sl .u32 d5,.int .i64 d6,.bool d7]) G0:=c3;have c4:Fn 188 G0 [.agg [.int .i64 g],.agg [.bool d1,.sl .u32 d2,.int .i64 d3,.bool d4,.sl .u32 d5,.int .i64 d6,.bool d7]] (.agg [.bool l1,.sl .u32 l2,.int .i64 l3,.bool l4,.sl .u32 l5,.int .i64 l6,.bool l7]) G0:=c4;have c5:Fn 183 G0 [.agg [.bool l1,.sl .u32 l2,.int .i64 l3,.bool l4,.sl .u32 l5,.int .i64 l6,.bool l7],.int .i64 p] (.agg [.bool r1,.sl .u32 r2,.int .i64 r3,.bool r4,.sl .u32 r5,.int .i64 r6,.bool r7]) G0:=c5;refine fY6 Tryz.func190 rfl ?_;refine brI (fun h=>?_) (fun h=>?_)
 .have h:=Z0 h;omega
 conv=>whnf
 refine brI (fun h=>?_) (fun h=>?_)
 .have h:=Z0 h;omega
 conv=>whnf
 refine gYn c0 ?_;refine gYc c1 ?_;refine gYc c2 ?_;refine gYc c3 ?_;refine gYc c4 ?_;refine gYc c5 ?_;refine gYd ?_;exact⟨lr rfl,leG⟩
def lmI(d:Dy)(g:Int):Iv:=wl (qs (qc d) g) (-(zf d))
def lzI(d:Dy)(g:Int):Iv:=xt (ym (lmI d g) (whI (-1)) g) (ym (lmI d g) (whI 1) g) g
def lnI(d:Dy)(p:Int):Iv:=if qu d (wx 1)=0 then⟨d0,d0,false⟩else
 qs (ym (loI (lzI d (guP p 40)) (guP p 40)) (za9 (whI (zf d)) (l2I (guP p 40)) (guP p 40)) (guP p 40)) p
theorem qbm(d:Dy)(p:Int):CI (lnI d p):=by
 unfold lnI;split
 .exact .inr ⟨rfl,qg,qg⟩
 .exact zhg p
theorem qkl{d:Dy}(hd:VD d)(hs:0<wy d)(g:Int):inB (pw (-1)) (pw 0) (lmI d g):=by
 have hn:nm d≠0:=fun c=>by unfold wy at hs;rw[Z4 c]at hs;omega
 have hneg:d.neg=false:=by
  unfold wy at hs;rw[Z5 hn]at hs
  cases h:d.neg with
  |true=>rw[h]at hs;simp at hs
  |false=>rfl
 have ht:zf d=bl (nm d)+d.e:=by unfold zf;rw[Z5 hn]
 have hv:dv d=vN (nm d) d.e:=by unfold dv;rw[hneg];rfl
 have h1:=zai (n:=nm d) (e:=d.e) (t:=zf d) O;have h2:=yf (n:=nm d) (e:=d.e) (t:=zf d-1) O hn;rw[<-hv]at h1 h2;have he:=hd.exp;have hbl:1<=bl (nm d):=by
  have:bl (nm d)≠0:=fun c=>hn (zap.1 c)
  omega
 have hpt:inB (pw (zf d-1)) (pw (zf d)) (qc d):=⟨.inl (zn9 hd),.inr ⟨h2,qd h1⟩⟩;have hr:=zu7 hpt (p:=g) (.inl (pwF O O)) (by
  by_cases hbig:zf d<16384
  .exact .inl (.inl (pwF O hbig))
  .exact .inr (za7.2 O))
 have:=zu1 hr (-(zf d));rw[<-pwA,<-pwA,(O:zf d-1+ -(zf d)= -1),(O:zf d+ -(zf d)=0)]at this;exact this
theorem qh8(n:Int)(h: -4611686018427387904<=n/\n<=4611686018427387904):inB (n:Rat) (n:Rat) (whI n):=by
 have e:dv (whI n).lo =(n:Rat):=je n;have e':dv (whI n).hi =(n:Rat):=je n;exact⟨.inl (zah h),.inr (by rw[e,e'];exact⟨qn,qn⟩)⟩
theorem lz_in{d:Dy}(hd:VD d)(hs:0<wy d){g:Int}(hg:pcB g=true):bI (pw (-1)) (ym (lmI d g) (whI (-1)) g)/\inB 1 (pw 1) (ym (lmI d g) (whI 1) g):=by
 have h:=qkl hd hs g;have ph:pw (-1)=1/2:=OB;have p0:pw 0=1:=rfl;have p1:pw 1=2:=OB;have F1:inF g.toNat (pw (-1)):=pwF OA OA;have F0:inF g.toNat (pw 0):=pwF OA OA;have F2:inF g.toNat (pw 1):=pwF OA OA;have n1:((-1:Int):Rat)= -1:=rfl;have n2:((1:Int):Rat)=1:=rfl;have w1:=qh8 (-1) OA;have w2:=qh8 1 OA;rw[n1]at w1;rw[n2]at w2;exact⟨zyg h w1 hg (by rw[ph];decide+kernel) (by rw[ph,p0];decide+kernel) (.inr (by rw[qA];exact F1)) (.inl F1),
  zyg h w2 hg (by rw[ph];decide+kernel) (by rw[p0,p1];decide+kernel) (.inl (by rw[<-p0];exact F0)) (.inl F2)⟩
theorem x88{d:Dy}(hd:VD d)(hs:0<wy d)(p:Int)(hp:8<=p/\p<=512):Fn 147 G0 [.agg (dyC d),.int .i64 p] (.agg (ivC (lnI d p))) G0:=by
 have c78:=v77 1 OA;have c55:=v81 hd (jo 1 OA);have hR:lnI d p=if qu d (wx 1)=0 then⟨d0,d0,false⟩else qs (ym (loI (lzI d (guP p 40)) (guP p 40)) (za9 (whI (zf d)) (l2I (guP p 40)) (guP p 40)) (guP p 40)) p:=rfl
 generalize lnI d p=R at*;by_cases h0:qu d (wx 1)=0
 .rw[Z4 h0]at hR;subst hR;rw[h0]at c55;generalize wx 1=o at*;clear hd hs h0;refine fY6 Tryz.func147 rfl ?_;refine gYc c78 ?_;refine gYn c55 ?_;refine gYd ?_;exact⟨lg0 (lc (lr rfl) (lc (li0 rfl) (lc (lr rfl) (lc (lr rfl) (lc (li0 rfl) (lc (lr rfl) (lc (lr rfl) ln0))))))),leG⟩
 rw[Z5 h0]at hR;have hn:nm d≠0:=fun c=>by unfold wy at hs;rw[Z4 c]at hs;omega
 have htb: -100000<=zf d/\zf d<=100000:=by
  have:=hd.exp;have:=hd.bits;unfold zf;rw[Z5 hn];omega
 have hg:=ztd hp (m:=40) OA;have hg8:8<=guP p 40/\guP p 40<=512:=by unfold pcB at hg;simpa using hg
 obtain⟨b1,b2⟩:=lz_in hd hs hg;have b3:=qg0 b1 b2 hg (pwF OA OA);have hlm:=qkl hd hs (guP p 40);have c0:=x128 p 40 O OA;have c1:=zpx hd;have c2:=qht hd;have c3:=qkz (qc d) (zn9 hd).ri (guP p 40);have c4:=i191 (qs (qc d) (guP p 40)) (zhg _).ri (-(zf d));have c5:=zy6 (-1) OA;have c6:=qdx (lmI d (guP p 40)) (whI (-1)) hlm.1.ri (zah (n:= -1) OA).ri (guP p 40);have c7:=zy6 1 OA;have c8:=qdx (lmI d (guP p 40)) (whI 1) hlm.1.ri (zah (n:=1) OA).ri (guP p 40);have c9:=x132 _ _ b1.1.ri b2.1.ri (guP p 40);have c10:=x134 _ b3 _ hg;have c11:=zy6 (zf d) O;have c12:=x136 (guP p 40) hg8;have c13:=x135 (whI (zf d)) (l2I (guP p 40)) (zah (n:=zf d) O).ri (zhg _).ri (guP p 40);have c14:=qdx _ _ (qmk (lzI d (guP p 40)) (guP p 40)).ri (zyw (whI (zf d)) (l2I (guP p 40)) (guP p 40)).ri (guP p 40);have c15:=qkz _ (zgo (loI (lzI d (guP p 40)) (guP p 40)) (za9 (whI (zf d)) (l2I (guP p 40)) (guP p 40)) (guP p 40)).ri p;rw[<-hR]at c15;have hw:qE.wrap (0-zf d)= -(zf d):=by rw[wI O];omega
 clear hR b1 b2 b3 hlm;unfold lzI lmI at*;generalize ym (loI (xt (ym (wl (qs (qc d) (guP p 40)) (-(zf d))) (whI (-1)) (guP p 40)) (ym (wl (qs (qc d) (guP p 40)) (-(zf d))) (whI 1) (guP p 40)) (guP p 40)) (guP p 40)) (za9 (whI (zf d)) (l2I (guP p 40)) (guP p 40)) (guP p 40)=I15 at*;generalize loI (xt (ym (wl (qs (qc d) (guP p 40)) (-(zf d))) (whI (-1)) (guP p 40)) (ym (wl (qs (qc d) (guP p 40)) (-(zf d))) (whI 1) (guP p 40)) (guP p 40)) (guP p 40)=I14 at*;generalize xt (ym (wl (qs (qc d) (guP p 40)) (-(zf d))) (whI (-1)) (guP p 40)) (ym (wl (qs (qc d) (guP p 40)) (-(zf d))) (whI 1) (guP p 40)) (guP p 40)=I13 at*;generalize za9 (whI (zf d)) (l2I (guP p 40)) (guP p 40)=I12 at*;generalize ym (wl (qs (qc d) (guP p 40)) (-(zf d))) (whI (-1)) (guP p 40)=I11 at*;generalize ym (wl (qs (qc d) (guP p 40)) (-(zf d))) (whI 1) (guP p 40)=I10 at*;generalize wl (qs (qc d) (guP p 40)) (-(zf d))=I9 at*;generalize qs (qc d) (guP p 40)=I8 at*;generalize qc d=I7 at*;generalize whI (-1)=I6 at*;generalize whI 1=I5 at*;generalize whI (zf d)=I4 at*;generalize l2I (guP p 40)=I3 at*;generalize guP p 40=g at*;generalize zf d=t at*;generalize wx 1=o at*;generalize qu d o=C at*;clear hd hs hn;refine fY6 Tryz.func147 rfl ?_;refine gYc c78 ?_;refine gYn c55 ?_;refine gYd ?_;refine brI (fun k1=>?_) (fun _=>?_)
 .have k1:(C==0)=true:=k1;exact absurd (by simpa using k1) h0
 conv=>whnf
 refine gYn c0 ?_;refine gYn c1 ?_;refine gYn c2 ?_;refine gYc c3 ?_;rw[hw];refine gYc c4 ?_;refine gYd ?_;refine gYc c5 ?_;refine gYc c6 ?_;refine gYc c7 ?_;refine gYc c8 ?_;refine gYc c9 ?_;refine gYd ?_;refine gYc c10 ?_;refine gYc c11 ?_;refine gYc c12 ?_;refine gYc c13 ?_;refine gYc c14 ?_;refine gYc c15 ?_;refine gYd ?_;exact⟨lr rfl,leG⟩
def zo4(x:Iv)(p:Int):Iv:=if ftB x p=true/\0<wy x.lo then edI (lnI x.lo p) (lnI x.hi p)else wI0
theorem qmj(x:Iv)(p:Int):CI (zo4 x p):=by
 unfold zo4;split
 .exact qbn (qbm _ _) (qbm _ _)
 .exact zji
theorem x34(x:Iv)(hx:RI x)(p:Int):Fn 103 G0 [.agg (ivC x),.int .i64 p] (.agg (ivC (zo4 x p))) G0:=by
 have h84:=x84 x hx p;have h25:=i25;rw[e25]at h25;have hR:zo4 x p=if ftB x p=true/\0<wy x.lo then edI (lnI x.lo p) (lnI x.hi p)else wI0:=rfl
 generalize zo4 x p=R at*;by_cases hf:ftB x p=true
 rotate_left
 .rw[Z5 fun c=>hf c.1]at hR;subst hR;rw[show ftB x p=false by simpa using hf]at h84;clear hf hx;refine fY6 Tryz.func103 rfl ?_;refine gYn h84 ?_;refine gYn h25 ?_;exact⟨lr rfl,leG⟩
 rw[hf]at h84;have hf':=hf;unfold ftB at hf';rw[Bool.and_eq_true]at hf';have k:=(zq hx).1 hf'.1;have hp8:8<=p/\p<=512:=by have:=hf'.2;unfold pcB at this;simpa using this
 have m1:=zt1 k.lo;by_cases h1:0<wy x.lo
 rotate_left
 .rw[Z5 fun c=>h1 c.2]at hR;subst hR;generalize wy x.lo=S at*;clear hf hf' k hx;refine fY6 Tryz.func103 rfl ?_;refine gYn h84 ?_;refine gYn m1 ?_;refine brI (fun k1=>?_) (fun k1=>?_)
  .conv=>whnf
   refine gYn h25 ?_;exact⟨lr rfl,leG⟩
  .have k1:¬S<=0:=Z1 k1;omega
 have h2:0<wy x.hi:=(kg x.hi).2.1.2 (by
  have:=(kg x.lo).2.1.1 h1;have:=k.dle;grind)
 rw[Z4 ⟨hf,h1⟩]at hR;have c1:=x88 k.lo h1 p hp8;have c2:=x88 k.hi h2 p hp8;have c3:=x86 (lnI x.lo p) (lnI x.hi p);rw[<-hR]at c3;clear hR;generalize lnI x.lo p=A at*;generalize lnI x.hi p=B at*;generalize wy x.lo=S at*;clear hf hf' k hx h2;refine fY6 Tryz.func103 rfl ?_;refine gYn h84 ?_;refine gYn m1 ?_;refine brI (fun k1=>?_) (fun _=>?_)
 .have k1:S<=0:=Z0 k1;omega
 conv=>whnf
 refine gYc c1 ?_;refine gYc c2 ?_;refine gYn c3 ?_;refine gYd ?_;exact⟨lr rfl,leG⟩
