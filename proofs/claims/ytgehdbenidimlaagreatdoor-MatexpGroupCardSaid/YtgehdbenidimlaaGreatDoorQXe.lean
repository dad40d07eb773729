/-
  Intervals that lie within a bound: products, quotients, squares, halves, roundings; small ones.
-/
import Derived.Test.YtgehdbenidimlaaGreatDoorQXa
import Derived.Scope
import Derived.ControlIn
set_option linter.unusedVariables false
set_option linter.unusedSimpArgs false
namespace Go.Proofs.YtgehdbenidimlaaGreatDoor
open Go Go.Sx
set_option maxHeartbeats 2000000
def bI (B:Rat) (x:Iv):Prop:=VI x/\(x.all=true\/(-B<=dv x.lo/\dv x.hi<=B))
theorem bI_w (B:Rat):bI B wI0:=⟨.inr rfl,.inl rfl⟩
theorem zsd {a b:Int} (h:a<b):pw a<pw b:=Rat.not_le.1 fun c=>by have:=za5.1 c;omega
theorem pwF {p:Nat} {t:Int} (h1: -16384<=t) (h2:t<16384):inF p (pw t):=⟨1,t,(zkf t).symm,Nat.one_le_two_pow,h1,zsd h2⟩
theorem zb3 (t:Int):0<=pw t:=Rat.le_of_lt (za4 t)
theorem zbn {d:Dy} (h:VD d):KI (zk d):=⟨rfl,h,h,jk.2 Rat.le_refl⟩
theorem ku {a b B C:Rat} (h1: -B<=a) (h2:a<=B) (h3: -C<=b) (h4:b<=C): -(B*C)<=a*b/\a*b<=B*C:=by
 have m1:=Rat.mul_nonneg (show 0<=B-a by grind) (show 0<=C+b by grind);have m2:=Rat.mul_nonneg (show 0<=B+a by grind) (show 0<=C-b by grind);have m3:=Rat.mul_nonneg (show 0<=B-a by grind) (show 0<=C-b by grind);have m4:=Rat.mul_nonneg (show 0<=B+a by grind) (show 0<=C+b by grind);constructor<;>grind
theorem zqk {p:Nat} {op:Rat->Rat->Rat} {dn up:Dy->Dy->Dy×Int} {x y:Iv} (f:F4 p op dn up x y) {b:Rat} (hb:inF p b) (h:zln op x y (fun z=> -b<=z/\z<=b)) (ha:(jf dn up x y).all =false):
 -b<=dv (jf dn up x y).lo /\dv (jf dn up x y).hi <=b:=by
 obtain⟨_,_,h3,h4,_,_⟩:=zlm ha;obtain⟨a1,a2,a3,a4⟩:=h;have hn:Fp p (-b):= .inr (by rw[Rat.neg_neg];exact hb);have hp:Fp p b:= .inl hb;exact⟨h3 (-b) (f.rt1.1.2 (-b) hn a1.1).2 (f.rt2.1.2 (-b) hn a2.1).2 (f.rt3.1.2 (-b) hn a3.1).2 (f.rt4.1.2 (-b) hn a4.1).2,
  h4 b (f.rt1.2.2 b hp a1.2).2 (f.rt2.2.2 b hp a2.2).2 (f.rt3.2.2 b hp a3.2).2 (f.rt4.2.2 b hp a4.2).2⟩
theorem bI.ends {B:Rat} {x:Iv} (h:bI B x) (k:KI x):(-B<=dv x.lo/\dv x.lo<=B)/\(-B<=dv x.hi/\dv x.hi<=B):=by
 rcases h.2 with c|⟨c1,c2⟩
 ·rw[k.all]at c;cases c
 ·have:=k.dle;exact⟨⟨c1,Rat.le_trans this c2⟩,⟨Rat.le_trans c1 this,c2⟩⟩
theorem zma {B C:Rat} {x y:Iv} (hx:bI B x) (hy:bI C y) {p:Int} (hp:pcB p=true) (hF:inF p.toNat (B*C)):bI (B*C) (yb x y p):=by
 refine⟨ww hx.1 hy.1 hp,?_⟩
 cases ha:(yb x y p).all with
 |true=>exact .inl rfl
 |false=>
  right;by_cases hk:KI x/\KI y
  ·rw[zk3 hk.1 hk.2 hp]at ha⊢;obtain⟨⟨a1,a2⟩,⟨a3,a4⟩⟩:=hx.ends hk.1;obtain⟨⟨b1,b2⟩,⟨b3,b4⟩⟩:=hy.ends hk.2;exact zqk (zk4 hk.1 hk.2 (vn hp)) hF ⟨ku a1 a2 b1 b2,ku a1 a2 b3 b4,ku a3 a4 b1 b2,ku a3 a4 b3 b4⟩ ha
  ·rw[zwa hx.1.ri hy.1.ri hk]at ha;cases ha
def whI (n:Int):Iv:=zk (zb4 n)
theorem zeo {n:Int} (h: -4611686018427387904<=n/\n<=4611686018427387904):KI (whI n):=zbn (zis n h)
theorem zh0 {n:Int} (h:1<=n):(1:Rat)<=(n:Rat):=by
 have:=(Rat.intCast_le_intCast (a:=1) (b:=n)).2 h;simpa using this
theorem zp9 {n:Rat} (h:1<=n): -1<=n⁻¹ /\n⁻¹ <=1:=by
 have h0:0<n:=by grind
 have hi:0<n⁻¹ :=Rat.inv_pos.2 h0;have hm:=Rat.mul_inv_cancel n (by grind);have:=Rat.mul_nonneg (show 0<=n-1 by grind) (Rat.le_of_lt hi);constructor<;>grind
theorem qby {B:Rat} {x:Iv} (hx:bI B x) {n:Int} (h1:1<=n) (h2:n<=4611686018427387904) {p:Int} (hp:pcB p=true) (hF:inF p.toNat B):bI B (zj3 x (whI n) p):=by
 have kn:=zeo (n:=n) (by omega);have hn:=zh0 h1;have e:dv (whI n).lo =(n:Rat):=ji n;have e':dv (whI n).hi =(n:Rat):=ji n;have hs:0<dv (whI n).lo \/dv (whI n).hi <0:= .inl (by rw[e];grind);refine⟨zj2 hx.1 (.inl kn) hp,?_⟩
 cases ha:(zj3 x (whI n) p).all with
 |true=>exact .inl rfl
 |false=>
  right;by_cases hk:KI x
  ·rw[zj1 hk kn hs hp]at ha⊢;obtain⟨⟨a1,a2⟩,⟨a3,a4⟩⟩:=hx.ends hk;obtain⟨i1,i2⟩:=zp9 hn;have q: ∀a:Rat,-B<=a->a<=B-> -B<=a/(n:Rat)/\a/(n:Rat)<=B:=fun a c1 c2=>by
    have:=ku c1 c2 i1 i2
    rwa [Rat.mul_one,←Rat.div_def]at this
   refine zqk (zpb hk kn hs (vn hp)) hF ?_ ha;unfold zln;rw[e,e'];exact⟨q _ a1 a2,q _ a1 a2,q _ a3 a4,q _ a3 a4⟩
  ·rw[zy2 hx.1.ri kn.ri fun c=>hk c.1]at ha;cases ha
theorem qgd {x:Iv} (h:CI x) (hd:x.all=false->dv x.lo<=dv x.hi):VI x:=by
 cases ha:x.all with
 |true=>
  rcases h with rfl|⟨c,_⟩
  ·exact .inr rfl
  ·rw[ha]at c;cases c
 |false=>exact .inl (qb6 h ha (hd ha))
theorem zxe {B:Rat} {x:Iv} (hx:bI B x) {p:Int} (hF:inF p.toNat B):bI B (kw x p):=by
 unfold kw;split
 ·rename_i c;obtain⟨c1,hp⟩:=c;have k:=(qn hx.1.ri).1 c1;have R1:=uj k.lo (vn hp);have R2:=uj k.hi (vn hp);obtain⟨⟨a1,a2⟩,⟨a3,a4⟩⟩:=hx.ends k;refine⟨qac R1 R2 (zj8 (zb1 _ _ _ (vn hp)) (zb1 _ _ _ (vn hp))) k.dle,?_⟩
  cases ha:(kp (wj x.lo p.toNat false) (wj x.hi p.toNat true)).all with
  |true=>exact .inl rfl
  |false=>
   right;rw[za8 ha];exact⟨(R1.1.2 (-B) (.inr (by rw[Rat.neg_neg];exact hF)) a1).2,(R2.2.2 B (.inl hF) a4).2⟩
 ·exact bI_w B
theorem zbo {d:Dy} {k:Int} (h:(vj d k).2=0):dv (vj d k).1=dv d*pw k:=by
 unfold vj at h⊢;split at h
 ·cases h
 ·rename_i c;rw[if_neg c];unfold ckN at h⊢;split at h
  ·rename_i c2;rw[if_pos c2,zbi];have e:vN (nm d) (d.e+k)=vN (nm d) d.e*pw k:=by unfold vN;rw[pwA,Rat.mul_assoc]
   rw[e];unfold dv;split
   ·grind
   ·rfl
  ·cases h
theorem zph {B:Rat} {x:Iv} (hx:bI B x) (k:Int):bI (B*pw k) (zy x k):=by
 unfold zy;split
 ·rename_i c1;have kx:=(qn hx.1.ri).1 c1;obtain⟨⟨a1,a2⟩,⟨a3,a4⟩⟩:=hx.ends kx;have hc:=zj8 (zpm x.lo k) (zpm x.hi k)
  cases ha:(kp (vj x.lo k) (vj x.hi k)).all with
  |true=>exact⟨qgd hc (fun c=>by rw[ha]at c;cases c),.inl ha⟩
  |false=>
   have e:=za8 ha;obtain⟨o1,o2⟩:=yi.1 ha;have e1:dv (kp (vj x.lo k) (vj x.hi k)).lo =dv x.lo*pw k:=by rw[e];exact zbo o1
   have e2:dv (kp (vj x.lo k) (vj x.hi k)).hi =dv x.hi*pw k:=by rw[e];exact zbo o2
   refine⟨qgd hc fun _=>by rw[e1,e2];exact ve kx.dle (zb3 k),.inr ?_⟩;rw[e1,e2];exact⟨by rw[←Rat.neg_mul];exact ve a1 (zb3 k),ve a4 (zb3 k)⟩
 ·exact bI_w _
theorem zsz {B:Rat} {x:Iv} (hx:bI B x) (k:KI x):0<=dv (zct x)/\dv (zct x)<=B/\(zct x).neg =false:=by
 obtain⟨⟨a1,a2⟩,⟨a3,a4⟩⟩:=hx.ends k;have hm:zct x=yg (zfa x.lo) (zfa x.hi):=rfl;obtain⟨_,_,h3⟩:=za6 (zfa x.lo) (zfa x.hi);rw[hm];rcases h3 with e|e<;>rw[e,zo6]
 ·exact⟨qe _,by unfold qp;split<;>grind,rfl⟩
 ·exact⟨qe _,by unfold qp;split<;>grind,rfl⟩
set_option maxRecDepth 100000
set_option maxHeartbeats 8000000
theorem zy5:bI (pw 0) (whI 1):=by
 refine⟨.inl (zeo (by decide)),.inr ?_⟩;have e:dv (whI 1).lo =1:=ji 1;have e':dv (whI 1).hi =1:=ji 1;have e2:pw 0=1:=rfl;rw[e,e',e2];constructor<;>decide
theorem zr1 {a b c:Rat} (h:a<=b) (g:b<c):a<c:=Rat.not_le.1 fun k=>Rat.not_le.2 g (Rat.le_trans k h)
theorem zyz {d:Dy} (h0:nm d≠0): -(pw (qb d))<=dv d/\dv d<=pw (qb d):=by
 have ht:qb d=bl (nm d)+d.e:=by unfold qb;rw[if_neg h0]
 have h1:=zf1 (n:=nm d) (e:=d.e) (t:=qb d) (by omega);have h2:=zc0 (nm d) d.e;unfold dv;split<;>constructor<;>grind
end Go.Proofs.YtgehdbenidimlaaGreatDoor
