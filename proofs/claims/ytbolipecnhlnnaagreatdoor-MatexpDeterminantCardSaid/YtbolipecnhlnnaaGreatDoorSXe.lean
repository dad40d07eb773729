/- Intervals that lie within a bound: products, quotients, squares, halves, roundings; small ones. -/
import Derived.Test.YtbolipecnhlnnaaGreatDoorSXa
import Derived.Scope
import Derived.ControlIn
set_option linter.unusedVariables false
set_option linter.unusedSimpArgs false
open Rat renaming mul_nonneg->q0,le_trans->q1,not_le->q2,le_of_lt->q3,neg_neg->q4
open Go.IntKind renaming i64->q5
namespace Go.Proofs.YtbolipecnhlnnaaGreatDoor
open Go Go.Sx
set_option maxHeartbeats 2000000
def bI (B:Rat) (x:Iv):Prop:=VI x/\(x.all=true\/(-B<=dv x.lo/\dv x.hi<=B))
theorem bI_w (B:Rat):bI B wI0:=⟨.inr rfl,.inl rfl⟩
theorem zsy {a b:Int} (h:a<b):pw a<pw b:=q2.1 fun c=>by have:=xk.1 c;omega
theorem pwF {p:Nat} {t:Int} (h1: -16384<=t) (h2:t<16384):inF p (pw t):=⟨1,t,(zkz t).symm,Nat.one_le_two_pow,h1,zsy h2⟩
theorem yw (t:Int):0<=pw t:=q3 (zbr t)
theorem znh (t:Int):pw t*pw (-1)=pw (t-1):=by rw[<-pwA];rfl
theorem zbc {d:Dy} (h:VD d):KI (zd d):=⟨rfl,h,h,uh.2 Rat.le_refl⟩
theorem jw {a b B C:Rat} (h1: -B<=a) (h2:a<=B) (h3: -C<=b) (h4:b<=C): -(B*C)<=a*b/\a*b<=B*C:=by
 have m1:=q0 (show 0<=B-a by grind) (show 0<=C+b by grind);have m2:=q0 (show 0<=B+a by grind) (show 0<=C-b by grind);have m3:=q0 (show 0<=B-a by grind) (show 0<=C-b by grind);have m4:=q0 (show 0<=B+a by grind) (show 0<=C+b by grind);constructor<;>grind
theorem zoc {p:Nat} {op:Rat->Rat->Rat} {dn up:Dy->Dy->Dy×Int} {x y:Iv} (f:F4 p op dn up x y) {b:Rat} (hb:inF p b) (h:zkj op x y (fun z=> -b<=z/\z<=b)) (ha:(jv dn up x y).all =false):
 -b<=dv (jv dn up x y).lo /\dv (jv dn up x y).hi <=b:=by
 obtain⟨_,_,h3,h4,_,_⟩:=zl3 ha;obtain⟨a1,a2,a3,a4⟩:=h;have hn:Fp p (-b):= .inr (by rw[q4];exact hb);have hp:Fp p b:= .inl hb;exact⟨h3 (-b) (f.rt1.1.2 (-b) hn a1.1).2 (f.rt2.1.2 (-b) hn a2.1).2 (f.rt3.1.2 (-b) hn a3.1).2 (f.rt4.1.2 (-b) hn a4.1).2,
  h4 b (f.rt1.2.2 b hp a1.2).2 (f.rt2.2.2 b hp a2.2).2 (f.rt3.2.2 b hp a3.2).2 (f.rt4.2.2 b hp a4.2).2⟩
theorem bI.ends {B:Rat} {x:Iv} (h:bI B x) (k:KI x):(-B<=dv x.lo/\dv x.lo<=B)/\(-B<=dv x.hi/\dv x.hi<=B):=by
 rcases h.2 with c|⟨c1,c2⟩
 .rw[k.all]at c;cases c
 .have:=k.dle;exact⟨⟨c1,q1 this c2⟩,⟨q1 c1 this,c2⟩⟩
theorem zja {B C:Rat} {x y:Iv} (hx:bI B x) (hy:bI C y) {p:Int} (hp:pcB p=true) (hF:inF p.toNat (B*C)):bI (B*C) (wu x y p):=by
 refine⟨wq hx.1 hy.1 hp,?_⟩
 cases ha:(wu x y p).all with
 |true=>exact .inl rfl
 |false=>
  right;by_cases hk:KI x/\KI y
  .rw[zll hk.1 hk.2 hp]at ha⊢;obtain⟨⟨a1,a2⟩,⟨a3,a4⟩⟩:=hx.ends hk.1;obtain⟨⟨b1,b2⟩,⟨b3,b4⟩⟩:=hy.ends hk.2;exact zoc (zlm hk.1 hk.2 (qs hp)) hF ⟨jw a1 a2 b1 b2,jw a1 a2 b3 b4,jw a3 a4 b1 b2,jw a3 a4 b3 b4⟩ ha
  .rw[zw2 hx.1.ri hy.1.ri hk]at ha;cases ha
def whI (n:Int):Iv:=zd (za6 n)
theorem zam {n:Int} (h: -4611686018427387904<=n/\n<=4611686018427387904):KI (whI n):=zbc (zb7 n h)
theorem zii {n:Int} (h:1<=n):(1:Rat)<=(n:Rat):=by
 have:=(Rat.intCast_le_intCast (a:=1) (b:=n)).2 h;simpa using this
theorem zqv {n:Rat} (h:1<=n): -1<=n⁻¹ /\n⁻¹ <=1:=by
 have h0:0<n:=by grind
 have hi:0<n⁻¹ :=Rat.inv_pos.2 h0;have hm:=Rat.mul_inv_cancel n (by grind);have:=q0 (show 0<=n-1 by grind) (q3 hi);constructor<;>grind
theorem zu9 {B:Rat} {x:Iv} (hx:bI B x) {n:Int} (h1:1<=n) (h2:n<=4611686018427387904) {p:Int} (hp:pcB p=true) (hF:inF p.toNat B):bI B (zct x (whI n) p):=by
 have kn:=zam (n:=n) (by omega);have hn:=zii h1;have e:dv (whI n).lo =(n:Rat):=ji n;have e':dv (whI n).hi =(n:Rat):=ji n;have hs:0<dv (whI n).lo \/dv (whI n).hi <0:= .inl (by rw[e];grind);refine⟨zew hx.1 (.inl kn) hp,?_⟩
 cases ha:(zct x (whI n) p).all with
 |true=>exact .inl rfl
 |false=>
  right;by_cases hk:KI x
  .rw[zhq hk kn hs hp]at ha⊢;obtain⟨⟨a1,a2⟩,⟨a3,a4⟩⟩:=hx.ends hk;obtain⟨i1,i2⟩:=zqv hn;have q: ∀a:Rat,-B<=a->a<=B-> -B<=a/(n:Rat)/\a/(n:Rat)<=B:=fun a c1 c2=>by
    have:=jw c1 c2 i1 i2
    rwa [Rat.mul_one,<-Rat.div_def]at this
   refine zoc (zmg hk kn hs (qs hp)) hF ?_ ha;unfold zkj;rw[e,e'];exact⟨q _ a1 a2,q _ a1 a2,q _ a3 a4,q _ a3 a4⟩
  .rw[zzy hx.1.ri kn.ri fun c=>hk c.1]at ha;cases ha
theorem qh7 {x:Iv} (h:CI x) (hd:x.all=false->dv x.lo<=dv x.hi):VI x:=by
 cases ha:x.all with
 |true=>
  rcases h with rfl|⟨c,_⟩
  .exact .inr rfl
  .rw[ha]at c;cases c
 |false=>exact .inl (zye h ha (hd ha))
theorem zp5 {B:Rat} {x:Iv} (hx:bI B x) {p:Int} (hF:inF p.toNat B):bI B (wm x p):=by
 unfold wm;split
 .rename_i c;obtain⟨c1,hp⟩:=c;have k:=(qa hx.1.ri).1 c1;have R1:=yc k.lo (qs hp);have R2:=yc k.hi (qs hp);obtain⟨⟨a1,a2⟩,⟨a3,a4⟩⟩:=hx.ends k;refine⟨qbb R1 R2 (ze3 (zae _ _ _ (qs hp)) (zae _ _ _ (qs hp))) k.dle,?_⟩
  cases ha:(jy (ww x.lo p.toNat false) (ww x.hi p.toNat true)).all with
  |true=>exact .inl rfl
  |false=>
   right;rw[za5 ha];exact⟨(R1.1.2 (-B) (.inr (by rw[q4];exact hF)) a1).2,(R2.2.2 B (.inl hF) a4).2⟩
 .exact bI_w B
theorem zb8 {d:Dy} {k:Int} (h:(vn d k).2=0):dv (vn d k).1=dv d*pw k:=by
 unfold vn at h⊢;split at h
 .cases h
 .rename_i c;rw[Z5 c];unfold ckN at h⊢;split at h
  .rename_i c2;rw[Z4 c2,zb3];have e:vN (nm d) (d.e+k)=vN (nm d) d.e*pw k:=by unfold vN;rw[pwA,Rat.mul_assoc]
   rw[e];unfold dv;split
   .grind
   .rfl
  .cases h
theorem zkr {B:Rat} {x:Iv} (hx:bI B x) (k:Int):bI (B*pw k) (zu x k):=by
 unfold zu;split
 .rename_i c1;have kx:=(qa hx.1.ri).1 c1;obtain⟨⟨a1,a2⟩,⟨a3,a4⟩⟩:=hx.ends kx;have hc:=ze3 (zp9 x.lo k) (zp9 x.hi k)
  cases ha:(jy (vn x.lo k) (vn x.hi k)).all with
  |true=>exact⟨qh7 hc (fun c=>by rw[ha]at c;cases c),.inl ha⟩
  |false=>
   have e:=za5 ha;obtain⟨o1,o2⟩:=ye.1 ha;have e1:dv (jy (vn x.lo k) (vn x.hi k)).lo =dv x.lo*pw k:=by rw[e];exact zb8 o1
   have e2:dv (jy (vn x.lo k) (vn x.hi k)).hi =dv x.hi*pw k:=by rw[e];exact zb8 o2
   refine⟨qh7 hc fun _=>by rw[e1,e2];exact vg kx.dle (yw k),.inr ?_⟩;rw[e1,e2];exact⟨by rw[<-Rat.neg_mul];exact vg a1 (yw k),vg a4 (yw k)⟩
 .exact bI_w _
def sqI (x:Iv) (p:Int):Iv:=if kB x=true/\pcB p=true then jy (um (zf0 x) (zf0 x) p.toNat false) (um (jk x) (jk x) p.toNat true)else wI0
theorem zph {B:Rat} {x:Iv} (hx:bI B x) (k:KI x):0<=dv (jk x)/\dv (jk x)<=B/\(jk x).neg =false:=by
 obtain⟨⟨a1,a2⟩,⟨a3,a4⟩⟩:=hx.ends k;have hm:jk x=yx (zbn x.lo) (zbn x.hi):=rfl;obtain⟨_,_,h3⟩:=zbs (zbn x.lo) (zbn x.hi);rw[hm];rcases h3 with e|e<;>rw[e,zpw]
 .exact⟨zm _,by unfold zn;split<;>grind,rfl⟩
 .exact⟨zm _,by unfold zn;split<;>grind,rfl⟩
theorem qh1 {x:Iv} (p:Int):CI (sqI x p):=by
 unfold sqI;split
 .rename_i h;exact ze3 (zbh _ _ _ _ (qs h.2)) (zbh _ _ _ _ (qs h.2))
 .exact zvm
def smB (x:Iv) (p:Int):Bool:= !kB x||(decide (wo (jk x)=0)||decide (zy (jk x)<= -p))
theorem sm_bd {x:Iv} {p t:Int} (hx:bI (pw t) x) (h:smB x p=false): -p<=t:=by
 unfold smB at h;rw[Bool.or_eq_false_iff,Bool.or_eq_false_iff]at h;obtain⟨h1,h2,h3⟩:=h;have k:=(qa hx.1.ri).1 (by simpa using h1);have h2:=Z1 h2;have h3:=Z1 h3;obtain⟨g1,g2,g3⟩:=zph hx k;have hn:nm (jk x)≠0:=fun c=>h2 (by unfold wo;rw[Z4 c])
 unfold zy at h3;rw[Z5 hn]at h3;have hv:dv (jk x)=vN (nm (jk x)) (jk x).e :=by unfold dv;rw[g3];rfl
 have ht:=jx (n:=nm (jk x)) (e:=(jk x).e) (t:=(bl (nm (jk x)):Int)+(jk x).e -1) (by omega) hn;rw[<-hv]at ht;have:=xk.1 (q1 ht g2);omega
set_option maxRecDepth 100000
set_option maxHeartbeats 8000000
theorem x126 (n:Int) (h: -4611686018427387904<=n/\n<=4611686018427387904):Fn 152 G0 [.int .i64 n] (.agg (ivC (whI n))) G0:=by
 have h78:=v77 n h;have h77:=qca (zb7 n h);show Fn 152 G0 [.int .i64 n] (.agg (ivC (zd (za6 n)))) G0;generalize za6 n=d at*;obtain⟨d1,d2,d3⟩:=d;have h78:Fn 83 G0 [.int .i64 n] (.agg [.bool d1,.sl .u32 d2,.int .i64 d3]) G0:=h78;have h77:Fn 82 [] [.agg [.bool d1,.sl .u32 d2,.int .i64 d3]] (.agg [.bool d1,.sl .u32 d2,.int .i64 d3,.bool d1,.sl .u32 d2,.int .i64 d3,.bool false]) []:=h77;refine fnT hT6 hmx Tryz.func152 rfl rfl (ex:= []) ?_;conv=>whnf
 refine gZc h78 ?_;conv=>whnf
 refine gZn h77 ?_;conv=>whnf
 exact⟨lr rfl,leG⟩
def guP (p m:Int):Int:=min (p+m) 512
theorem x128 (p m:Int) (hp:0<=p/\p<=1000) (hm:0<=m/\m<=1000):Fn 153 [] [.int .i64 p,.int .i64 m] (.agg [.int .i64 (guP p m)]) []:=by
 refine fnT hT6 hmx Tryz.func153 rfl rfl (ex:= []) ?_;conv=>whnf
 exact⟨lg0 (lc (ai0 (by rw[wI (by omega)];unfold guP;rw[Int.min_def];split<;>split<;>omega)) ln0),lh0⟩
theorem x132 (x y:Iv) (hx:RI x) (hy:RI y) (p:Int):Fn 305 G0 [.agg [.int .i64 p],.agg (ivC x),.agg (ivC y)] (.agg (ivC (zct x y p))) G0:=by
 have h:=i85 x y hx hy p;generalize zct x y p=R at*;clear hx hy;refine fnT hT6 hmx Tryz.func305 rfl rfl (ex:= []) ?_;conv=>whnf
 refine gZc h ?_;conv=>whnf
 exact⟨lr rfl,leG⟩
theorem x133 (x y:Iv) (hx:RI x) (hy:RI y) (p:Int):Fn 307 G0 [.agg [.int .i64 p],.agg (ivC x),.agg (ivC y)] (.agg (ivC (ka x y p))) G0:=by
 have h:=i82 x y hx hy p;generalize ka x y p=R at*;clear hx hy;refine fnT hT6 hmx Tryz.func307 rfl rfl (ex:= []) ?_;conv=>whnf
 refine gZc h ?_;conv=>whnf
 exact⟨lr rfl,leG⟩
theorem x135 (x y:Iv) (hx:RI x) (hy:RI y) (p:Int):Fn 306 G0 [.agg [.int .i64 p],.agg (ivC x),.agg (ivC y)] (.agg (ivC (wu x y p))) G0:=by
 have h:=i84 x y hx hy p;generalize wu x y p=R at*;clear hx hy;refine fnT hT6 hmx Tryz.func306 rfl rfl (ex:= []) ?_;conv=>whnf
 refine gZc h ?_;conv=>whnf
 exact⟨lr rfl,leG⟩
theorem zsa (d:Dy):wo d=0\/wo d=1\/wo d= -1:=by
 unfold wo;split
 .exact .inl rfl
 .split
  .exact .inr (.inr rfl)
  .exact .inr (.inl rfl)
theorem x202 (x:Iv) (hx:RI x) (p:Int) (hp:0<=p/\p<=1000):Fn 308 [] [.agg [.int .i64 p],.agg (ivC x)] (.bool (smB x p)) []:=by
 have h120:=i182 x hx;have hw:q5.wrap (0-p)= -p:=by rw[wI (by omega)];omega
 have hR:smB x p=(!kB x||(decide (wo (jk x)=0)||decide (zy (jk x)<= -p))):=rfl;generalize smB x p=R at*;by_cases hk:kB x=true
 .have k:=(qa hx).1 hk;rw[Z4 hk,hk]at h120;rw[hk,Bool.not_true,Bool.false_or]at hR;have vm:=zaf k;have h81:=qag vm;have h127:=zvo vm;have hs:=zsa (jk x);generalize jk x=M at*;generalize wo M=S at*;generalize zy M=t at*;clear hk k hx vm;rcases hs with rfl|rfl|rfl
  .subst hR;refine fnT hT6 hmx Tryz.func308 rfl rfl (ex:= []) ?_;conv=>whnf
   refine gZn h120 ?_;conv=>whnf
   refine gZn h81 ?_;conv=>whnf
   (refine⟨by kernel_rfl,by kernel_rfl,?_⟩;(conv=>whnf))
   exact⟨lr rfl,lh0⟩
  .refine fnT hT6 hmx Tryz.func308 rfl rfl (ex:= []) ?_;conv=>whnf
   refine gZn h120 ?_;conv=>whnf
   refine gZn h81 ?_;conv=>whnf
   refine gZn h127 ?_;conv=>whnf
   (refine⟨by kernel_rfl,by kernel_rfl,?_⟩;(conv=>whnf))
   exact⟨ab0 (by rw[hw,hR];rfl),lh0⟩
  .refine fnT hT6 hmx Tryz.func308 rfl rfl (ex:= []) ?_;conv=>whnf
   refine gZn h120 ?_;conv=>whnf
   refine gZn h81 ?_;conv=>whnf
   refine gZn h127 ?_;conv=>whnf
   (refine⟨by kernel_rfl,by kernel_rfl,?_⟩;(conv=>whnf))
   exact⟨ab0 (by rw[hw,hR];rfl),lh0⟩
 .have hk:kB x=false:=by simpa using hk
  rw[hk,Z5 (by simp)]at h120;rw[hk]at hR;subst hR;clear hk hx;refine fnT hT6 hmx Tryz.func308 rfl rfl (ex:= []) ?_;conv=>whnf
  refine gZn h120 ?_;conv=>whnf
  (refine⟨by kernel_rfl,by kernel_rfl,?_⟩;(conv=>whnf))
  exact⟨lr rfl,lh0⟩
def arI (x:Iv):Iv:=if kB x=true then⟨yk (jk x),jk x,false⟩else wI0
theorem qh6 {x:Iv} (hx:RI x):CI (arI x):=by
 unfold arI;split
 .rename_i h;have k:=(qa hx).1 h;exact .inr ⟨rfl,zea (zaf k),zaf k⟩
 .exact zvm
theorem x203 (x:Iv) (hx:RI x):Fn 309 [] [.agg (ivC x)] (.agg (ivC (arI x))) []:=by
 have h120:=i182 x hx;have h25:=i25;rw[e25]at h25;have hR:arI x=if kB x=true then⟨yk (jk x),jk x,false⟩else wI0:=rfl
 generalize arI x=R at*;by_cases hk:kB x=true
 .have k:=(qa hx).1 hk;rw[Z4 hk,hk]at h120;rw[Z4 hk]at hR;have vm:=zaf k;have h76:=v135 vm;rw[show(if nm (jk x)=0 then d0 else⟨!(jk x).neg,(jk x).m,(jk x).e⟩)=yk (jk x)from rfl]at h76;generalize yk (jk x)=N at*;generalize jk x=M at*;subst hR;clear hk k hx vm;refine fnT hT6 hmx Tryz.func309 rfl rfl (ex:= []) ?_;conv=>whnf
  refine gZn h120 ?_;conv=>whnf
  refine gZn h76 ?_;conv=>whnf
  (refine⟨by kernel_rfl,by kernel_rfl,?_⟩;(conv=>whnf))
  exact⟨lr rfl,lh0⟩
 .have hk:kB x=false:=by simpa using hk
  rw[hk,Z5 (by simp)]at h120;rw[Z5 (by rw[hk];simp)]at hR;subst hR;clear hk hx;refine fnT hT6 hmx Tryz.func309 rfl rfl (ex:= []) ?_;conv=>whnf
  refine gZn h120 ?_;conv=>whnf
  refine gZn h25 ?_;conv=>whnf
  exact⟨lr rfl,lh0⟩
theorem x200 (x:Iv) (h:RI x) (p:Int):Fn 227 G0 [.agg (ivC x),.int .i64 p] (.agg (ivC (sqI x p))) G0:=by
 have h79:=i137 x h;have h127:=qgc p;have h25:=i25;rw[e25]at h25;have hR:sqI x p=if kB x=true/\pcB p=true then jy (um (zf0 x) (zf0 x) p.toNat false) (um (jk x) (jk x) p.toNat true)else wI0:=rfl
 generalize sqI x p=R at*;have hA:absI x=if kB x=true then⟨zf0 x,jk x,false⟩else wI0:=rfl
 by_cases hk:kB x=true
 .rw[hA,Z4 hk]at h79;by_cases hp:pcB p=true
  .rw[hp]at h127;rw[Z4 ⟨hk,hp⟩]at hR;have kx:=(qa h).1 hk;obtain⟨q,rfl,hq⟩:=kp.1 hp;rw[Int.toNat_natCast]at hR;have n1:=qd8 (zqb kx) (zqb kx) q hq;have n2:=qd7 (zaf kx) (zaf kx) q hq;have n3:=i130 (um (zf0 x) (zf0 x) q false) (um (jk x) (jk x) q true);rw[<-hR]at n3;generalize um (zf0 x) (zf0 x) q false=a at*;generalize um (jk x) (jk x) q true=b at*;generalize zf0 x=g at*;generalize jk x=m at*;clear kx h hk hR hA;obtain⟨⟨a1,a2,a3⟩,e⟩:=a;obtain⟨⟨b1,b2,b3⟩,f⟩:=b;refine fnT hT6 hmx Tryz.func227 rfl rfl (ex:= []) ?_;conv=>whnf
   refine gZn h79 ?_;conv=>whnf
   refine gZn h127 ?_;conv=>whnf
   refine gZc n1 ?_;conv=>whnf
   refine gZc n2 ?_;conv=>whnf
   refine gZn n3 ?_;conv=>whnf
   exact⟨lr rfl,leG⟩
  .rw[Z5 fun c=>hp c.2]at hR;rw[show pcB p=false by simpa using hp]at h127;subst hR;generalize zf0 x=g at*;generalize jk x=m at*;clear h hk hp hA;refine fnT hT6 hmx Tryz.func227 rfl rfl (ex:= []) ?_;conv=>whnf
   refine gZn h79 ?_;conv=>whnf
   refine gZn h127 ?_;conv=>whnf
   refine gZn h25 ?_;conv=>whnf
   exact⟨lr rfl,leG⟩
 .rw[hA,Z5 hk]at h79;rw[Z5 fun c=>hk c.1]at hR;subst hR;clear h hk hA;refine fnT hT6 hmx Tryz.func227 rfl rfl (ex:= []) ?_;conv=>whnf
  refine gZn h79 ?_;conv=>whnf
  refine gZn h25 ?_;conv=>whnf
  exact⟨lr rfl,leG⟩
def edI (a b:Iv):Iv:=if a.all=true\/b.all=true then wI0 else⟨a.lo,b.hi,false⟩
theorem CI_ed {a b:Iv} (ha:CI a) (hb:CI b):CI (edI a b):=by
 unfold edI;split
 .exact zvm
 .rename_i h;rcases ha with rfl|⟨_,a1,_⟩
  .exact absurd (.inl rfl) h
  .rcases hb with rfl|⟨_,_,b1⟩
   .exact absurd (.inr rfl) h
   .exact .inr ⟨rfl,a1,b1⟩
theorem x86 (a b:Iv):Fn 67 [] [.agg (ivC a),.agg (ivC b)] (.agg (ivC (edI a b))) []:=by
 have h25:=i25;rw[e25]at h25;obtain⟨⟨a1,a2,a3⟩,⟨a4,a5,a6⟩,a7⟩:=a;obtain⟨⟨b1,b2,b3⟩,⟨b4,b5,b6⟩,b7⟩:=b;show Fn 67 [] [.agg [.bool a1,.sl .u32 a2,.int .i64 a3,.bool a4,.sl .u32 a5,.int .i64 a6,.bool a7],.agg [.bool b1,.sl .u32 b2,.int .i64 b3,.bool b4,.sl .u32 b5,.int .i64 b6,.bool b7]] _ []
 cases a7 with
 |true=>
  refine fnT hT6 hmx Tryz.func67 rfl rfl (ex:= []) ?_;conv=>whnf
  refine gZn h25 ?_;conv=>whnf
  exact⟨lr rfl,lh0⟩
 |false=>
  cases b7 with
  |true=>
   refine fnT hT6 hmx Tryz.func67 rfl rfl (ex:= []) ?_;conv=>whnf
   refine gZn h25 ?_;conv=>whnf
   exact⟨lr rfl,lh0⟩
  |false=>
   refine fnT hT6 hmx Tryz.func67 rfl rfl (ex:= []) ?_;conv=>whnf
   exact⟨lr rfl,lh0⟩
def ftB (x:Iv) (p:Int):Bool:=kB x&&pcB p
theorem kB_vi {x:Iv} (hx:RI x) (vx:VI x):kB x= !x.all:=by
 rcases vx with k|rfl
 .rw[(qa hx).2 k,k.all];rfl
 .rfl
theorem x84 (x:Iv) (hx:RI x) (p:Int):Fn 64 [] [.agg (ivC x),.int .i64 p] (.bool (ftB x p)) []:=by
 have h17:=i51 x hx;have hR:ftB x p=(kB x&&pcB p):=rfl;have hp:pcB p=true<->8<=p/\p<=512:=by unfold pcB;simp
 generalize ftB x p=R at*;by_cases ha:x.all=true
 .have hk:kB x=false:=by
   by_cases c:kB x=true
   .have:=(qa hx).1 c;rw[this.all]at ha;cases ha
   .simpa using c
  rw[hk,Bool.false_and]at hR;subst hR;clear h17 hx hk;obtain⟨⟨x1,x2,x3⟩,⟨x4,x5,x6⟩,x7⟩:=x;obtain rfl:x7=true:=ha;show Fn 64 [] [.agg [.bool x1,.sl .u32 x2,.int .i64 x3,.bool x4,.sl .u32 x5,.int .i64 x6,.bool true],.int .i64 p] _ [];refine fnT hT6 hmx Tryz.func64 rfl rfl (ex:= []) ?_;conv=>whnf
  exact⟨lr rfl,lh0⟩
 have ha:x.all=false:=by simpa using ha
 by_cases hv:viB x=true
 .have vx:=(jl hx).1 hv;rw[hv]at h17;rw[kB_vi hx vx,ha,Bool.not_false,Bool.true_and]at hR;clear hv vx hx;obtain⟨⟨x1,x2,x3⟩,⟨x4,x5,x6⟩,x7⟩:=x;obtain rfl:x7=false:=ha;have h17:Fn 35 [] [.agg [.bool x1,.sl .u32 x2,.int .i64 x3,.bool x4,.sl .u32 x5,.int .i64 x6,.bool false]] (.bool true) []:=h17;show Fn 64 [] [.agg [.bool x1,.sl .u32 x2,.int .i64 x3,.bool x4,.sl .u32 x5,.int .i64 x6,.bool false],.int .i64 p] _ [];refine fnT hT6 hmx Tryz.func64 rfl rfl (ex:= []) ?_;conv=>whnf
  refine gZn h17 ?_;conv=>whnf
  refine brI (fun k1=>?_) (fun k1=>?_)
  .have k1:8<=p:=Z0 k1;conv=>whnf
   refine⟨ab0 ?_,lh0⟩;rw[hR,Bool.eq_iff_iff,Z2,hp];exact⟨fun h=>⟨k1,h⟩,fun h=>h.2⟩
  .have k1: ¬8<=p:=Z1 k1;rw[show pcB p=false by rw[<-Bool.not_eq_true,hp];omega]at hR;subst hR;conv=>whnf
   exact⟨lr rfl,lh0⟩
 .have hk:kB x=false:=by
   by_cases c:kB x=true
   .exact absurd ((jl hx).2 (.inl ((qa hx).1 c))) hv
   .simpa using c
  rw[hk,Bool.false_and]at hR;subst hR;rw[show viB x=false by simpa using hv]at h17;clear hv hx hk;obtain⟨⟨x1,x2,x3⟩,⟨x4,x5,x6⟩,x7⟩:=x;obtain rfl:x7=false:=ha;have h17:Fn 35 [] [.agg [.bool x1,.sl .u32 x2,.int .i64 x3,.bool x4,.sl .u32 x5,.int .i64 x6,.bool false]] (.bool false) []:=h17;show Fn 64 [] [.agg [.bool x1,.sl .u32 x2,.int .i64 x3,.bool x4,.sl .u32 x5,.int .i64 x6,.bool false],.int .i64 p] _ [];refine fnT hT6 hmx Tryz.func64 rfl rfl (ex:= []) ?_;conv=>whnf
  refine gZn h17 ?_;conv=>whnf
  exact⟨lr rfl,lh0⟩
def mdB (d:Dy):Bool:=decide (qf (zbn d) (za6 1000)<=0)
theorem x85 {d:Dy} (hd:VD d):Fn 65 G0 [.agg (dyC d)] (.bool (mdB d)) G0:=by
 have h125:=qd4 hd;have h78:=v77 1000 (by decide);have h55:=v81 (zeb hd) (zb7 1000 (by decide));have hR:mdB d=decide (qf (zbn d) (za6 1000)<=0):=rfl;generalize mdB d=R at*;generalize qf (zbn d) (za6 1000)=C at*;generalize zbn d=a at*;generalize za6 1000=t at*;clear hd;refine fnT hT6 hmx Tryz.func65 rfl rfl (ex:= []) ?_;conv=>whnf
 refine gZn h125 ?_;conv=>whnf
 refine gZc h78 ?_;conv=>whnf
 refine gZn h55 ?_;conv=>whnf
 exact⟨ab0 (by rw[hR]),leG⟩
theorem zsf {P:Program} {T:Tab} {res:List ResultVar} {ex:List Nat} {r:AV} {H':Hp} {c b:Code} {Y:St} (e:c= .scope b) (h:SemOK P T res ex r H' b Y):SemOK P T res ex r H' c Y:=
 ⟨fun c0 a w Q hr hq=>by
  subst e;exact wpIn_wide.2 (wp_scope_straight (wpIn_wide.1 (h.sem c0 a w (Exit.noGoto Q) hr fun x K a w hr hf=>by
   cases x with
   |normal=>exact hq _ K a w hr hf
   |ret=>exact hq _ K a w hr hf
   |exit _=>exact hf.elim
   |goto _=>exact hf.elim
   |panic _=>exact hf.elim
   |outgrown=>exact hf.elim)))⟩
theorem zsg {P:Program} {T:Tab} {res:List ResultVar} {ex:List Nat} {r:AV} {H':Hp} {c b:Code} {l:Nat} {Y:St} (e:c= .seq (.label l) b) (h:SemOK P T res ex r H' b Y):SemOK P T res ex r H' c Y:=
 ⟨fun c0 a w Q hr hq=>by
  subst e;exact wpIn_seq (wpIn_label (h.sem c0 a w Q hr hq))⟩
def qah:Code->Code
 | .scope b=>b
 | _=> .skip
def qai:Code->Code
 | .seq (.label _) b=>b
 | _=> .skip
def exG (y:Iv) (p:Int):Nat->Nat->Iv->Iv->Iv×Iv
 |0,_,t,s=>(t,s)
 |f+1,n,t,s=>if smB (zct (wu t y p) (whI n) p) p=true then(zct (wu t y p) (whI n) p,ka s (zct (wu t y p) (whI n) p) p)else exG y p f (n+1) (zct (wu t y p) (whI n) p) (ka s (zct (wu t y p) (whI n) p) p)
def zvt (y:Iv) (p:Int):Iv:=ka (exG y p (p.toNat+2) 1 (whI 1) (whI 1)).2 (arI (exG y p (p.toNat+2) 1 (whI 1) (whI 1)).1) p
theorem zu8:bI (pw 0) (whI 1):=by
 refine⟨.inl (zam (by decide)),.inr ?_⟩;have e:dv (whI 1).lo =1:=ji 1;have e':dv (whI 1).hi =1:=ji 1;have e2:pw 0=1:=rfl;rw[e,e',e2];constructor<;>decide
noncomputable def zu5:Code:=Tryz.f226.body.getD .skip
noncomputable def qgb:Code:=qah (zd6 1 zu5)
noncomputable def qgt:Code:=qai (zd6 1 qgb)
theorem x199 (y:Iv) (hy:bI (pw (-1)) y) (p:Int) (hp:pcB p=true):Fn 226 G0 [.agg [.int .i64 p],.agg (ivC y)] (.agg (ivC (zvt y p))) G0:=by
 have hp8:8<=p/\p<=512:=by unfold pcB at hp;simpa using hp
 have hR:zvt y p=ka (exG y p (p.toNat+2) 1 (whI 1) (whI 1)).2 (arI (exG y p (p.toNat+2) 1 (whI 1) (whI 1)).1) p:=rfl;generalize zvt y p=R at*;obtain⟨E,hE⟩: ∃E,exG y p (p.toNat+2) 1 (whI 1) (whI 1)=E:=⟨_,rfl⟩;rw[hE]at hR;have hw1:=x126 1 (by decide);have cw:CI (whI 1):= .inr ⟨rfl,(zam (n:=1) (by decide)).lo,(zam (n:=1) (by decide)).hi⟩;have bw:=zu8;have hst: ∃w:Iv,w=whI 1:=⟨_,rfl⟩;obtain⟨w,hw⟩:=hst;rw[<-hw]at hw1 cw bw hE;clear hw;obtain⟨⟨y1,y2,y3⟩,⟨y4,y5,y6⟩,y7⟩:=y;obtain⟨⟨w1,w2,w3⟩,⟨w4,w5,w6⟩,w7⟩:=w;show Fn 226 G0 [.agg [.int .i64 p],.agg [.bool y1,.sl .u32 y2,.int .i64 y3,.bool y4,.sl .u32 y5,.int .i64 y6,.bool y7]] _ G0;have hw1:Fn 152 G0 [.int .i64 1] (.agg [.bool w1,.sl .u32 w2,.int .i64 w3,.bool w4,.sl .u32 w5,.int .i64 w6,.bool w7]) G0:=hw1;refine wc (code:=zu5) hT6 hmx Tryz.func226 rfl rfl (ex:= []) ?_;conv=>whnf
 refine ju hT6 hmx 1 (fun _:Unit=>⟨[.any,.any,.ptr 2 0,.ptr 3 0,.ptr 4 0]++uq 27,[(2,.cells [.int .i64 p]),(3,.cells [.bool y1,.sl .u32 y2,.int .i64 y3,.bool y4,.sl .u32 y5,.int .i64 y6,.bool y7]),(4,.cells [.any,.any,.any,.any,.any,.any,.any]),(5,.free),(6,.free),(qd,.gst JT)]⟩) (fun _=>by kernel_rfl) ?_ (fun _=>?_)
 .conv=>whnf
  refine⟨(),?_⟩
  ((conv=>whnf);refine And.intro ?_ ?_;repeat' first|refine lc ?_ ?_|exact la0|exact lr rfl|exact ln0|refine lh1 ?_ ?_|exact lh0|exact bf0|exact bd0|refine bc0 ?_|exact bm0 rfl|exact bb0 rfl|exact bg0 rfl|exact li0 rfl|refine lg0 ?_|refine lt0 ?_|fail)
 refine zsf (b:=qgb) (by kernel_rfl) ?_;refine ju hT6 hmx 1 (fun _:Unit=>⟨[.any,.any,.ptr 2 0,.ptr 3 0,.ptr 4 0,.ptr 5 0,.ptr 6 0]++uq 25,[(2,.cells [.int .i64 p]),(3,.cells [.bool y1,.sl .u32 y2,.int .i64 y3,.bool y4,.sl .u32 y5,.int .i64 y6,.bool y7]),(4,.cells [.any,.any,.any,.any,.any,.any,.any]),(5,.cells [.bool w1,.sl .u32 w2,.int .i64 w3,.bool w4,.sl .u32 w5,.int .i64 w6,.bool w7]),(6,.cells [.bool w1,.sl .u32 w2,.int .i64 w3,.bool w4,.sl .u32 w5,.int .i64 w6,.bool w7]),(qd,.gst JT)]⟩) (fun _=>by kernel_rfl) ?_ (fun _=>?_)
 .conv=>whnf
  refine gZc hw1 ?_;conv=>whnf
  refine gZc hw1 ?_;conv=>whnf
  refine⟨(),?_⟩
  ((conv=>whnf);refine And.intro ?_ ?_;repeat' first|refine lc ?_ ?_|exact la0|exact lr rfl|exact ln0|refine lh1 ?_ ?_|exact lh0|exact bf0|exact bd0|refine bc0 ?_|exact bm0 rfl|exact bb0 rfl|exact bg0 rfl|exact li0 rfl|refine lg0 ?_|refine lt0 ?_|fail)
 refine zsg (l:=0) (b:=qgt) (by kernel_rfl) ?_;refine jm hT6 hmx ?_;conv=>whnf
 refine⟨Nat×Nat×Iv×Iv,fun x=>1<=x.2.1/\(x.2.1:Int)<=p+1/\(x.2.1:Int)+x.1=p+3/\bI (pw (1-x.2.1)) x.2.2.1/\CI x.2.2.2/\exG ⟨⟨y1,y2,y3⟩,⟨y4,y5,y6⟩,y7⟩ p x.1 x.2.1 x.2.2.1 x.2.2.2=E,fun x=> [(7,.int .i64 x.2.1)],fun x=> [(5,.cells (ivC x.2.2.1)),(6,.cells (ivC x.2.2.2))],fun x=>x.1,
  (p.toNat+2,1,⟨⟨w1,w2,w3⟩,⟨w4,w5,w6⟩,w7⟩,⟨⟨w1,w2,w3⟩,⟨w4,w5,w6⟩,w7⟩),⟨Nat.le_refl 1,by simp only;omega,by simp only;omega,bw,cw,hE⟩,?_,fun x hx=>?_⟩
 ·((conv=>whnf);refine And.intro ?_ ?_;repeat' first|refine lc ?_ ?_|exact la0|exact lr rfl|exact ln0|refine lh1 ?_ ?_|exact lh0|exact bf0|exact bd0|refine bc0 ?_|exact bm0 rfl|exact bb0 rfl|exact bg0 rfl|exact li0 rfl|refine lg0 ?_|refine lt0 ?_|fail)
 (refine⟨by kernel_rfl,?_⟩;(conv=>whnf))
 obtain⟨f,n,t,s⟩:=x;obtain⟨hx1,hx0,hx2,hx3,hx4,hx5⟩:=hx;simp only at hx0 hx1 hx2 hx3 hx4 hx5
 cases f with
 |zero=>omega
 |succ f=>
  simp only[exG]at hx5;have b1:=zja hx3 hy hp (by rw[znh];exact pwF (by omega) (by omega));rw[znh]at b1;have b2:=zu9 b1 (n:=n) (by omega) (by omega) hp (pwF (by omega) (by omega));have c1:=x135 t ⟨⟨y1,y2,y3⟩,⟨y4,y5,y6⟩,y7⟩ hx3.1.ri hy.1.ri p;have c2:=x126 n (by omega);have c3:=x132 _ _ b1.1.ri (zam (n:=n) (by omega)).ri p;have c4:=x133 s _ hx4.ri b2.1.ri p;have S4:=zqc s (zct (wu t ⟨⟨y1,y2,y3⟩,⟨y4,y5,y6⟩,y7⟩ p) (whI n) p) p;have c5:=x202 _ b2.1.ri p (by omega);have c6:=x203 _ b2.1.ri;have c7:=x133 _ _ S4.ri (qh6 b2.1.ri).ri p;have hs:smB (zct (wu t ⟨⟨y1,y2,y3⟩,⟨y4,y5,y6⟩,y7⟩ p) (whI n) p) p=false->(n:Int)<=p:=fun h=>by have:=sm_bd b2 h;omega
  generalize wu t ⟨⟨y1,y2,y3⟩,⟨y4,y5,y6⟩,y7⟩ p=M at*;generalize whI n=W at*;generalize zct M W p=D at*;generalize ka s D p=S at*;generalize smB D p=B at*;have hb3:bI (pw (1-((n+1:Nat):Int))) D:=by
   have e:(1:Int)-n-1=1-((n+1:Nat):Int):=by omega
   rwa [e]at b2
  clear b1 b2 hx3 hx4 hy
  cases B with
  |true=>
   rw[Z4 rfl]at hx5;rw[<-hx5]at hR;simp only at hR;rw[<-hR]at c7;clear hR hx5 hE;generalize arI D=A at*;obtain⟨⟨t1,t2,t3⟩,⟨t4,t5,t6⟩,t7⟩:=t;obtain⟨⟨s1,s2,s3⟩,⟨s4,s5,s6⟩,s7⟩:=s;obtain⟨⟨m1,m2,m3⟩,⟨m4,m5,m6⟩,m7⟩:=M;obtain⟨⟨v1,v2,v3⟩,⟨v4,v5,v6⟩,v7⟩:=W;obtain⟨⟨d1,d2,d3⟩,⟨d4,d5,d6⟩,d7⟩:=D;obtain⟨⟨z1,z2,z3⟩,⟨z4,z5,z6⟩,z7⟩:=S;obtain⟨⟨a1,a2,a3⟩,⟨a4,a5,a6⟩,a7⟩:=A;obtain⟨⟨r1,r2,r3⟩,⟨r4,r5,r6⟩,r7⟩:=R;have c1:Fn 306 G0 [.agg [.int .i64 p],.agg [.bool t1,.sl .u32 t2,.int .i64 t3,.bool t4,.sl .u32 t5,.int .i64 t6,.bool t7],.agg [.bool y1,.sl .u32 y2,.int .i64 y3,.bool y4,.sl .u32 y5,.int .i64 y6,.bool y7]] (.agg [.bool m1,.sl .u32 m2,.int .i64 m3,.bool m4,.sl .u32 m5,.int .i64 m6,.bool m7]) G0:=c1;have c2:Fn 152 G0 [.int .i64 n] (.agg [.bool v1,.sl .u32 v2,.int .i64 v3,.bool v4,.sl .u32 v5,.int .i64 v6,.bool v7]) G0:=c2;have c3:Fn 305 G0 [.agg [.int .i64 p],.agg [.bool m1,.sl .u32 m2,.int .i64 m3,.bool m4,.sl .u32 m5,.int .i64 m6,.bool m7],.agg [.bool v1,.sl .u32 v2,.int .i64 v3,.bool v4,.sl .u32 v5,.int .i64 v6,.bool v7]] (.agg [.bool d1,.sl .u32 d2,.int .i64 d3,.bool d4,.sl .u32 d5,.int .i64 d6,.bool d7]) G0:=c3;have c4:Fn 307 G0 [.agg [.int .i64 p],.agg [.bool s1,.sl .u32 s2,.int .i64 s3,.bool s4,.sl .u32 s5,.int .i64 s6,.bool s7],.agg [.bool d1,.sl .u32 d2,.int .i64 d3,.bool d4,.sl .u32 d5,.int .i64 d6,.bool d7]] (.agg [.bool z1,.sl .u32 z2,.int .i64 z3,.bool z4,.sl .u32 z5,.int .i64 z6,.bool z7]) G0:=c4;have c5:Fn 308 [] [.agg [.int .i64 p],.agg [.bool d1,.sl .u32 d2,.int .i64 d3,.bool d4,.sl .u32 d5,.int .i64 d6,.bool d7]] (.bool true) []:=c5;have c6:Fn 309 [] [.agg [.bool d1,.sl .u32 d2,.int .i64 d3,.bool d4,.sl .u32 d5,.int .i64 d6,.bool d7]] (.agg [.bool a1,.sl .u32 a2,.int .i64 a3,.bool a4,.sl .u32 a5,.int .i64 a6,.bool a7]) []:=c6
   have c7:Fn 307 G0 [.agg [.int .i64 p],.agg [.bool z1,.sl .u32 z2,.int .i64 z3,.bool z4,.sl .u32 z5,.int .i64 z6,.bool z7],.agg [.bool a1,.sl .u32 a2,.int .i64 a3,.bool a4,.sl .u32 a5,.int .i64 a6,.bool a7]] (.agg [.bool r1,.sl .u32 r2,.int .i64 r3,.bool r4,.sl .u32 r5,.int .i64 r6,.bool r7]) G0:=c7;refine gZc c1 ?_;conv=>whnf
   refine gZc c2 ?_;conv=>whnf
   refine gZc c3 ?_;conv=>whnf
   (refine⟨by kernel_rfl,by kernel_rfl,?_⟩;(conv=>whnf))
   refine gZc c4 ?_;conv=>whnf
   refine gZn c5 ?_;conv=>whnf
   refine gZn c6 ?_;conv=>whnf
   refine gZc c7 ?_;conv=>whnf
   (refine⟨by kernel_rfl,by kernel_rfl,?_⟩;(conv=>whnf))
   exact⟨lr rfl,leG⟩
  |false=>
   rw[Z5 (by decide)]at hx5;have hn:=hs rfl;clear hR c6 c7 hE;obtain⟨⟨t1,t2,t3⟩,⟨t4,t5,t6⟩,t7⟩:=t;obtain⟨⟨s1,s2,s3⟩,⟨s4,s5,s6⟩,s7⟩:=s;obtain⟨⟨m1,m2,m3⟩,⟨m4,m5,m6⟩,m7⟩:=M;obtain⟨⟨v1,v2,v3⟩,⟨v4,v5,v6⟩,v7⟩:=W;obtain⟨⟨d1,d2,d3⟩,⟨d4,d5,d6⟩,d7⟩:=D;obtain⟨⟨z1,z2,z3⟩,⟨z4,z5,z6⟩,z7⟩:=S;have c1:Fn 306 G0 [.agg [.int .i64 p],.agg [.bool t1,.sl .u32 t2,.int .i64 t3,.bool t4,.sl .u32 t5,.int .i64 t6,.bool t7],.agg [.bool y1,.sl .u32 y2,.int .i64 y3,.bool y4,.sl .u32 y5,.int .i64 y6,.bool y7]] (.agg [.bool m1,.sl .u32 m2,.int .i64 m3,.bool m4,.sl .u32 m5,.int .i64 m6,.bool m7]) G0:=c1;have c2:Fn 152 G0 [.int .i64 n] (.agg [.bool v1,.sl .u32 v2,.int .i64 v3,.bool v4,.sl .u32 v5,.int .i64 v6,.bool v7]) G0:=c2;have c3:Fn 305 G0 [.agg [.int .i64 p],.agg [.bool m1,.sl .u32 m2,.int .i64 m3,.bool m4,.sl .u32 m5,.int .i64 m6,.bool m7],.agg [.bool v1,.sl .u32 v2,.int .i64 v3,.bool v4,.sl .u32 v5,.int .i64 v6,.bool v7]] (.agg [.bool d1,.sl .u32 d2,.int .i64 d3,.bool d4,.sl .u32 d5,.int .i64 d6,.bool d7]) G0:=c3;have c4:Fn 307 G0 [.agg [.int .i64 p],.agg [.bool s1,.sl .u32 s2,.int .i64 s3,.bool s4,.sl .u32 s5,.int .i64 s6,.bool s7],.agg [.bool d1,.sl .u32 d2,.int .i64 d3,.bool d4,.sl .u32 d5,.int .i64 d6,.bool d7]] (.agg [.bool z1,.sl .u32 z2,.int .i64 z3,.bool z4,.sl .u32 z5,.int .i64 z6,.bool z7]) G0:=c4;have c5:Fn 308 [] [.agg [.int .i64 p],.agg [.bool d1,.sl .u32 d2,.int .i64 d3,.bool d4,.sl .u32 d5,.int .i64 d6,.bool d7]] (.bool false) []:=c5;refine gZc c1 ?_;conv=>whnf
   refine gZc c2 ?_;conv=>whnf
   refine gZc c3 ?_;conv=>whnf
   (refine⟨by kernel_rfl,by kernel_rfl,?_⟩;(conv=>whnf))
   refine gZc c4 ?_;conv=>whnf
   refine gZn c5 ?_;conv=>whnf
   refine⟨(f,n+1,⟨⟨d1,d2,d3⟩,⟨d4,d5,d6⟩,d7⟩,⟨⟨z1,z2,z3⟩,⟨z4,z5,z6⟩,z7⟩),⟨by simp only;omega,by simp only;omega,by simp only;omega,hb3,S4,hx5⟩,by show f<f+1;omega,?_⟩
   ((conv=>whnf);refine And.intro ?_ ?_;repeat' first|refine lc ?_ ?_|exact la0|exact lr rfl|exact ln0|refine lh1 ?_ ?_|exact lh0|exact bf0|exact bd0|refine bc0 ?_|exact bm0 rfl|exact bb0 rfl|exact bg0 rfl|exact li0 rfl|refine lg0 ?_|refine lt0 ?_|fail)
   exact ai0 (by rw[wI (by simp only;omega)];simp only;omega)
theorem zna {a b c:Rat} (h:a<=b) (g:b<c):a<c:=q2.1 fun k=>q2.2 g (q1 k h)
theorem qh4 (y:Iv) (p:Int):CI (zvt y p):=zqc _ _ _
def haI (p:Int):Nat->Iv->Iv
 |0,y=>zvt y p
 |n+1,y=>sqI (haI p n (zu y (-1))) p
theorem qh3 (p:Int): ∀(n:Nat) (y:Iv),CI (haI p n y)
 |0,y=>qh4 y p
 | _+1,_=>qh1 p
theorem x130 (p:Int) (hp:pcB p=true): ∀(n:Nat) (y:Iv),n<=100->bI (pw ((n:Int)-1)) y->Fn 155 G0 [.agg [.int .i64 p],.agg (ivC y),.int .i64 (n:Int)] (.agg (ivC (haI p n y))) G0:=by
 intro n
 induction n with
 |zero=>
  intro y _ hy;have h:=x199 y hy p hp;show Fn 155 G0 [.agg [.int .i64 p],.agg (ivC y),.int .i64 0] (.agg (ivC (zvt y p))) G0;generalize zvt y p=R at*;clear hy;obtain⟨⟨y1,y2,y3⟩,⟨y4,y5,y6⟩,y7⟩:=y;obtain⟨⟨r1,r2,r3⟩,⟨r4,r5,r6⟩,r7⟩:=R;have h:Fn 226 G0 [.agg [.int .i64 p],.agg [.bool y1,.sl .u32 y2,.int .i64 y3,.bool y4,.sl .u32 y5,.int .i64 y6,.bool y7]] (.agg [.bool r1,.sl .u32 r2,.int .i64 r3,.bool r4,.sl .u32 r5,.int .i64 r6,.bool r7]) G0:=h;show Fn 155 G0 [.agg [.int .i64 p],.agg [.bool y1,.sl .u32 y2,.int .i64 y3,.bool y4,.sl .u32 y5,.int .i64 y6,.bool y7],.int .i64 0] _ G0;refine fnT hT6 hmx Tryz.func155 rfl rfl (ex:= []) ?_;conv=>whnf
  refine gZc h ?_;conv=>whnf
  exact⟨lr rfl,leG⟩
 |succ n ih0=>
  intro y hn hy;have hs:=i191 y hy.1.ri (-1);have hb:=zkr hy (-1);rw[znh]at hb;have ih:=ih0 (zu y (-1)) (by omega) (by
   have e:(((n+1:Nat):Int)-1-1)=(n:Int)-1:=by omega
   rwa [e]at hb)
  have hq:=x200 _ (qh3 p n (zu y (-1))).ri p;show Fn 155 G0 [.agg [.int .i64 p],.agg (ivC y),.int .i64 ((n+1:Nat):Int)] (.agg (ivC (sqI (haI p n (zu y (-1))) p))) G0;have hw:q5.wrap (((n+1:Nat):Int)-1)=n:=by rw[wI (by omega)];omega
  generalize sqI (haI p n (zu y (-1))) p=R at*;generalize haI p n (zu y (-1))=V at*;generalize zu y (-1)=Z at*;clear hy hb ih0;generalize hN:((n+1:Nat):Int)=N at*;obtain⟨⟨y1,y2,y3⟩,⟨y4,y5,y6⟩,y7⟩:=y;obtain⟨⟨z1,z2,z3⟩,⟨z4,z5,z6⟩,z7⟩:=Z;obtain⟨⟨v1,v2,v3⟩,⟨v4,v5,v6⟩,v7⟩:=V;obtain⟨⟨r1,r2,r3⟩,⟨r4,r5,r6⟩,r7⟩:=R;have hs:Fn 130 G0 [.agg [.bool y1,.sl .u32 y2,.int .i64 y3,.bool y4,.sl .u32 y5,.int .i64 y6,.bool y7],.int .i64 (-1)] (.agg [.bool z1,.sl .u32 z2,.int .i64 z3,.bool z4,.sl .u32 z5,.int .i64 z6,.bool z7]) G0:=hs;have ih:Fn 155 G0 [.agg [.int .i64 p],.agg [.bool z1,.sl .u32 z2,.int .i64 z3,.bool z4,.sl .u32 z5,.int .i64 z6,.bool z7],.int .i64 n] (.agg [.bool v1,.sl .u32 v2,.int .i64 v3,.bool v4,.sl .u32 v5,.int .i64 v6,.bool v7]) G0:=ih;have hq:Fn 227 G0 [.agg [.bool v1,.sl .u32 v2,.int .i64 v3,.bool v4,.sl .u32 v5,.int .i64 v6,.bool v7],.int .i64 p] (.agg [.bool r1,.sl .u32 r2,.int .i64 r3,.bool r4,.sl .u32 r5,.int .i64 r6,.bool r7]) G0:=hq;show Fn 155 G0 [.agg [.int .i64 p],.agg [.bool y1,.sl .u32 y2,.int .i64 y3,.bool y4,.sl .u32 y5,.int .i64 y6,.bool y7],.int .i64 N] _ G0;refine fnT hT6 hmx Tryz.func155 rfl rfl (ex:= []) ?_;conv=>whnf
  refine brI (fun h1=>?_) (fun _=>?_)
  .have h1:(N==0)=true:=h1;have h1:N=0:=by simpa using h1
   omega
  conv=>whnf
  refine gZc hs ?_;conv=>whnf
  rw[hw];refine gZc ih ?_;conv=>whnf
  refine gZc hq ?_;conv=>whnf
  (refine⟨by kernel_rfl,by kernel_rfl,?_⟩;(conv=>whnf))
  exact⟨lr rfl,leG⟩
def hvN (d:Dy):Nat:=(zy d+1).toNat
def poI (d:Dy) (p:Int):Iv:=if wo d=0 then whI 1 else wm (haI (guP p (hvN d+24)) (hvN d) (wm (zd d) (guP p (hvN d+24)))) p
theorem zpv {d:Dy} (h0:nm d≠0): -(pw (zy d))<=dv d/\dv d<=pw (zy d):=by
 have ht:zy d=bl (nm d)+d.e:=by unfold zy;rw[Z5 h0]
 have h1:=zge (n:=nm d) (e:=d.e) (t:=zy d) (by omega);have h2:=zda (nm d) d.e;unfold dv;split<;>constructor<;>grind
theorem qfn {d:Dy} (hm:mdB d=true) (h0:nm d≠0):zy d<=10:=by
 have hm:qf (zbn d) (za6 1000)<=0:=Z0 hm;have h1:=uh.1 hm;rw[ji]at h1;have h2:dv (zbn d)=vN (nm d) d.e:=rfl;rw[h2]at h1;have ht:zy d=bl (nm d)+d.e:=by unfold zy;rw[Z5 h0]
 have h3:=jx (n:=nm d) (e:=d.e) (t:=zy d-1) (by omega) h0;have h4:((1000:Int):Rat)<pw 10:=by
  rw[show pw 10=((2^10:Nat):Rat)from vj 10];decide
 have h5:=zna (q1 h3 h1) h4;have: ¬(10:Int)<=zy d-1:=fun c=>q2.2 h5 (xk.2 c)
 omega
theorem qgh {p m:Int} (hp:8<=p/\p<=512) (hm:0<=m):pcB (guP p m)=true:=by
 unfold pcB guP;simp;omega
theorem zyf {x:Iv} (p:Int):CI (wm x p):=by
 unfold wm;split
 .rename_i h;exact ze3 (zae _ _ _ (qs h.2)) (zae _ _ _ (qs h.2))
 .exact zvm
theorem qh2 (d:Dy) (p:Int):CI (poI d p):=by
 unfold poI;split
 .exact .inr ⟨rfl,zb7 1 (by decide),zb7 1 (by decide)⟩
 .exact zyf p
theorem x87 {d:Dy} (hd:VD d) (hm:mdB d=true) (p:Int) (hp:8<=p/\p<=512):Fn 68 G0 [.agg (dyC d),.int .i64 p] (.agg (ivC (poI d p))) G0:=by
 have h81:=qag hd;have h126:=x126 1 (by decide);have h127:=zvo hd;have h77:=qca hd;have hR:poI d p=if wo d=0 then whI 1 else wm (haI (guP p (hvN d+24)) (hvN d) (wm (zd d) (guP p (hvN d+24)))) p:=rfl
 generalize poI d p=R at*;by_cases h0:nm d=0
 .have hs:wo d=0:=by unfold wo;rw[Z4 h0]
  rw[Z4 hs]at hR;rw[hs]at h81;rw[<-hR]at h126;clear hd hm h127 h77 hR h0 hs;refine fnT hT6 hmx Tryz.func68 rfl rfl (ex:= []) ?_;conv=>whnf
  refine gZn h81 ?_;conv=>whnf
  refine gZc h126 ?_;conv=>whnf
  exact⟨lr rfl,leG⟩
 have hs:wo d≠0:=by unfold wo;rw[Z5 h0];split<;>decide
 have htop:=qfn hm h0;have hlow: -100000<=zy d:=by
  have:=hd.exp;unfold zy;rw[Z5 h0];omega
 rw[Z5 hs]at hR;have hn:hvN d<=11:=by unfold hvN;omega
 have hn2:zy d<=(hvN d:Int)-1:=by unfold hvN;omega
 have hg:=qgh hp (m:=(hvN d:Int)+24) (by omega);have hg8:8<=guP p ((hvN d:Int)+24)/\guP p ((hvN d:Int)+24)<=512:=by unfold pcB at hg;simpa using hg
 have hpt:bI (pw ((hvN d:Int)-1)) (zd d):=by
  have:=zpv h0;have hle:pw (zy d)<=pw ((hvN d:Int)-1):=xk.2 hn2;refine⟨.inl (zbc hd),.inr ⟨?_,q1 this.2 hle⟩⟩;have h1:=this.1;show-(pw ((hvN d:Int)-1))<=dv d;grind
 have hr1:=zp5 hpt (p:=guP p ((hvN d:Int)+24)) (pwF (by omega) (by omega));have c1:=x128 p ((hvN d:Int)+24) (by omega) (by omega);have c2:=i189 _ hpt.1.ri (guP p ((hvN d:Int)+24));have c3:=x130 _ hg (hvN d) _ (by omega) hr1;have c4:=i189 _ (qh3 (guP p ((hvN d:Int)+24)) (hvN d) (wm (zd d) (guP p ((hvN d:Int)+24)))).ri p;rw[<-hR]at c4;have hmax:(if(0:Int)>q5.wrap (zy d+1)then 0 else q5.wrap (zy d+1))=(hvN d:Int):=by
  rw[wI (by omega)];unfold hvN;split<;>omega
 have hw:q5.wrap ((hvN d:Int)+24)=(hvN d:Int)+24:=wI (by omega);have hw2:q5.wrap (zy d+1)=zy d+1:=wI (by omega);clear hR hr1 hpt hg hm;generalize haI (guP p ((hvN d:Int)+24)) (hvN d) (wm (zd d) (guP p ((hvN d:Int)+24)))=V at*;generalize wm (zd d) (guP p ((hvN d:Int)+24))=Z at*;generalize zd d=P at*;generalize guP p ((hvN d:Int)+24)=g at*;generalize (hvN d:Int)=N at*;generalize zy d=t at*;generalize wo d=S at*;clear hd h0;refine fnT hT6 hmx Tryz.func68 rfl rfl (ex:= []) ?_;conv=>whnf
 refine gZn h81 ?_;conv=>whnf
 refine brI (fun k1=>?_) (fun _=>?_)
 .have k1:(S==0)=true:=k1;exact absurd (by simpa using k1) hs
 conv=>whnf
 refine gZn h127 ?_;conv=>whnf
 rw[hmax,hw];refine gZn c1 ?_;conv=>whnf
 refine gZn h77 ?_;conv=>whnf
 refine gZc c2 ?_;conv=>whnf
 refine gZc c3 ?_;conv=>whnf
 refine gZc c4 ?_;conv=>whnf
 (refine⟨by kernel_rfl,by kernel_rfl,?_⟩;(conv=>whnf))
 exact⟨lr rfl,leG⟩
def zxx (x:Iv) (p:Int):Iv:=if ftB x p=true/\mdB x.lo=true/\mdB x.hi=true then edI (poI x.lo p) (poI x.hi p)else wI0
theorem x33 (x:Iv) (hx:RI x) (p:Int):Fn 20 G0 [.agg (ivC x),.int .i64 p] (.agg (ivC (zxx x p))) G0:=by
 have h84:=x84 x hx p;have h25:=i25;rw[e25]at h25;have hR:zxx x p=if ftB x p=true/\mdB x.lo=true/\mdB x.hi=true then edI (poI x.lo p) (poI x.hi p)else wI0:=rfl
 generalize zxx x p=R at*;by_cases hf:ftB x p=true
 rotate_left
 .rw[Z5 fun c=>hf c.1]at hR;subst hR;rw[show ftB x p=false by simpa using hf]at h84;clear hf hx;refine fnT hT6 hmx Tryz.func20 rfl rfl (ex:= []) ?_;conv=>whnf
  refine gZn h84 ?_;conv=>whnf
  refine gZn h25 ?_;conv=>whnf
  exact⟨lr rfl,leG⟩
 rw[hf]at h84;have hf':=hf;unfold ftB at hf';rw[Bool.and_eq_true]at hf';have k:=(qa hx).1 hf'.1;have hp8:8<=p/\p<=512:=by have:=hf'.2;unfold pcB at this;simpa using this
 have m1:=x85 k.lo;have m2:=x85 k.hi;by_cases h1:mdB x.lo=true
 rotate_left
 .rw[Z5 fun c=>h1 c.2.1]at hR;subst hR;rw[show mdB x.lo=false by simpa using h1]at m1;clear hf hf' k hx m2 h1;refine fnT hT6 hmx Tryz.func20 rfl rfl (ex:= []) ?_;conv=>whnf
  refine gZn h84 ?_;conv=>whnf
  refine gZc m1 ?_;conv=>whnf
  refine gZn h25 ?_;conv=>whnf
  exact⟨lr rfl,leG⟩
 rw[h1]at m1;by_cases h2:mdB x.hi=true
 rotate_left
 .rw[Z5 fun c=>h2 c.2.2]at hR;subst hR;rw[show mdB x.hi=false by simpa using h2]at m2;clear hf hf' k hx h1 h2;refine fnT hT6 hmx Tryz.func20 rfl rfl (ex:= []) ?_;conv=>whnf
  refine gZn h84 ?_;conv=>whnf
  refine gZc m1 ?_;conv=>whnf
  refine gZc m2 ?_;conv=>whnf
  refine gZn h25 ?_;conv=>whnf
  exact⟨lr rfl,leG⟩
 rw[h2]at m2;rw[Z4 ⟨hf,h1,h2⟩]at hR;have c1:=x87 k.lo h1 p hp8;have c2:=x87 k.hi h2 p hp8;have c3:=x86 (poI x.lo p) (poI x.hi p);rw[<-hR]at c3;clear hR;generalize poI x.lo p=A at*;generalize poI x.hi p=B at*;clear hf hf' k hx h1 h2;refine fnT hT6 hmx Tryz.func20 rfl rfl (ex:= []) ?_;conv=>whnf
 refine gZn h84 ?_;conv=>whnf
 refine gZc m1 ?_;conv=>whnf
 refine gZc m2 ?_;conv=>whnf
 refine gZc c1 ?_;conv=>whnf
 refine gZc c2 ?_;conv=>whnf
 refine gZn c3 ?_;conv=>whnf
 (refine⟨by kernel_rfl,by kernel_rfl,?_⟩;(conv=>whnf))
 exact⟨lr rfl,leG⟩
theorem wa {p:Int} (hp:pcB p=true):bI (pw (-1)) (zct (whI 1) (whI 3) p):=by
 have k1:=zam (n:=1) (by decide);have k3:=zam (n:=3) (by decide);have e1:dv (whI 1).lo =1:=ji 1;have e1':dv (whI 1).hi =1:=ji 1;have e3:dv (whI 3).lo =3:=ji 3;have e3':dv (whI 3).hi =3:=ji 3;have hs:0<dv (whI 3).lo \/dv (whI 3).hi <0:= .inl (by rw[e3];decide);have ph:pw (-1)=1/2:=by decide+kernel
 refine⟨zew (.inl k1) (.inl k3) hp,?_⟩
 cases ha:(zct (whI 1) (whI 3) p).all with
 |true=>exact .inl rfl
 |false=>
  right;rw[zhq k1 k3 hs hp]at ha⊢;refine zoc (zmg k1 k3 hs (qs hp)) (pwF (by decide) (by decide)) ?_ ha;unfold zkj;rw[e1,e1',e3,e3',ph];decide+kernel
