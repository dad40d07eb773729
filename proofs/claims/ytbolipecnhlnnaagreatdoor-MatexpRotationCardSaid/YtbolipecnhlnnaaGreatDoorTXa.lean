/- The natural extension contains exact values, and is isotone. -/
import Derived.Test.YtbolipecnhlnnaaGreatDoorTYl
import Derived.Scope
import Derived.ControlIn
set_option linter.unusedVariables false
set_option linter.unusedSimpArgs false
open Rat renaming mul_nonneg->q0,le_trans->q1,le_refl->q2,not_le->q3,le_of_lt->q4,neg_neg->q5
namespace Go.Proofs.YtbolipecnhlnnaaGreatDoor
open Go Go.Sx
set_option maxHeartbeats 2000000
theorem zI_VI:VI zI:= .inl ⟨rfl,qa,qa,by decide⟩
def bI (B:Rat) (x:Iv):Prop:=VI x/\(x.all=true\/(-B<=dv x.lo/\dv x.hi<=B))
theorem bI_w (B:Rat):bI B wI0:=⟨.inr rfl,.inl rfl⟩
theorem zs5 {a b:Int} (h:a<b):pw a<pw b:=q3.1 fun c=>by have:=zal.1 c;omega
theorem pwF {p:Nat} {t:Int} (h1: -16384<=t) (h2:t<16384):inF p (pw t):=⟨1,t,(zkx t).symm,Nat.one_le_two_pow,h1,zs5 h2⟩
theorem zcf (t:Int):0<=pw t:=q4 (yg t)
theorem zc2 {d:Dy} (h:VD d):KI (zc d):=⟨rfl,h,h,ju.2 q2⟩
theorem ul {a b B C:Rat} (h1: -B<=a) (h2:a<=B) (h3: -C<=b) (h4:b<=C): -(B*C)<=a*b/\a*b<=B*C:=by
 have m1:=q0 (show 0<=B-a by grind) (show 0<=C+b by grind);have m2:=q0 (show 0<=B+a by grind) (show 0<=C-b by grind);have m3:=q0 (show 0<=B-a by grind) (show 0<=C-b by grind);have m4:=q0 (show 0<=B+a by grind) (show 0<=C+b by grind);constructor<;>grind
theorem zq6 {p:Nat} {op:Rat->Rat->Rat} {dn up:Dy->Dy->Dy×Int} {x y:Iv} (f:F4 p op dn up x y) {b:Rat} (hb:inF p b) (h:zl2 op x y (fun z=> -b<=z/\z<=b)) (ha:(jo dn up x y).all =false):
 -b<=dv (jo dn up x y).lo /\dv (jo dn up x y).hi <=b:=by
 obtain⟨_,_,h3,h4,_,_⟩:=zhb ha;obtain⟨a1,a2,a3,a4⟩:=h;have hn:Fp p (-b):= .inr (by rw[q5];exact hb);have hp:Fp p b:= .inl hb;exact⟨h3 (-b) (f.rt1.1.2 (-b) hn a1.1).2 (f.rt2.1.2 (-b) hn a2.1).2 (f.rt3.1.2 (-b) hn a3.1).2 (f.rt4.1.2 (-b) hn a4.1).2,
  h4 b (f.rt1.2.2 b hp a1.2).2 (f.rt2.2.2 b hp a2.2).2 (f.rt3.2.2 b hp a3.2).2 (f.rt4.2.2 b hp a4.2).2⟩
theorem bI.ends {B:Rat} {x:Iv} (h:bI B x) (k:KI x):(-B<=dv x.lo/\dv x.lo<=B)/\(-B<=dv x.hi/\dv x.hi<=B):=by
 rcases h.2 with c|⟨c1,c2⟩
 .rw[k.all]at c;cases c
 .have:=k.dle;exact⟨⟨c1,q1 this c2⟩,⟨q1 c1 this,c2⟩⟩
theorem zml {B C:Rat} {x y:Iv} (hx:bI B x) (hy:bI C y) {p:Int} (hp:pcB p=true) (hF:inF p.toNat (B*C)):bI (B*C) (jr x y p):=by
 refine⟨wx hx.1 hy.1 hp,?_⟩
 cases ha:(jr x y p).all with
 |true=>exact .inl rfl
 |false=>
  right;by_cases hk:KI x/\KI y
  .rw[zih hk.1 hk.2 hp]at ha⊢;obtain⟨⟨a1,a2⟩,⟨a3,a4⟩⟩:=hx.ends hk.1;obtain⟨⟨b1,b2⟩,⟨b3,b4⟩⟩:=hy.ends hk.2;exact zq6 (zlm hk.1 hk.2 (vl hp)) hF ⟨ul a1 a2 b1 b2,ul a1 a2 b3 b4,ul a3 a4 b1 b2,ul a3 a4 b3 b4⟩ ha
  .rw[zw1 hx.1.ri hy.1.ri hk]at ha;cases ha
def whI (n:Int):Iv:=zc (ux n)
theorem ze0 {n:Int} (h: -4611686018427387904<=n/\n<=4611686018427387904):KI (whI n):=zc2 (zai n h)
theorem zie {n:Int} (h:1<=n):(1:Rat)<=(n:Rat):=by
 have:=(Rat.intCast_le_intCast (a:=1) (b:=n)).2 h;simpa using this
theorem zqu {n:Rat} (h:1<=n): -1<=n⁻¹ /\n⁻¹ <=1:=by
 have h0:0<n:=by grind
 have hi:0<n⁻¹ :=Rat.inv_pos.2 h0;have hm:=Rat.mul_inv_cancel n (by grind);have:=q0 (show 0<=n-1 by grind) (q4 hi);constructor<;>grind
theorem qdh {B:Rat} {x:Iv} (hx:bI B x) {n:Int} (h1:1<=n) (h2:n<=4611686018427387904) {p:Int} (hp:pcB p=true) (hF:inF p.toNat B):bI B (zkl x (whI n) p):=by
 have kn:=ze0 (n:=n) (by omega);have hn:=zie h1;have e:dv (whI n).lo =(n:Rat):=ji n;have e':dv (whI n).hi =(n:Rat):=ji n;have hs:0<dv (whI n).lo \/dv (whI n).hi <0:= .inl (by rw[e];grind);refine⟨zkk hx.1 (.inl kn) hp,?_⟩
 cases ha:(zkl x (whI n) p).all with
 |true=>exact .inl rfl
 |false=>
  right;by_cases hk:KI x
  .rw[zkj hk kn hs hp]at ha⊢;obtain⟨⟨a1,a2⟩,⟨a3,a4⟩⟩:=hx.ends hk;obtain⟨i1,i2⟩:=zqu hn;have q: ∀a:Rat,-B<=a->a<=B-> -B<=a/(n:Rat)/\a/(n:Rat)<=B:=fun a c1 c2=>by
    have:=ul c1 c2 i1 i2
    rwa [Rat.mul_one,<-Rat.div_def]at this
   refine zq6 (zpr hk kn hs (vl hp)) hF ?_ ha;unfold zl2;rw[e,e'];exact⟨q _ a1 a2,q _ a1 a2,q _ a3 a4,q _ a3 a4⟩
  .rw[zz3 hx.1.ri kn.ri fun c=>hk c.1]at ha;cases ha
theorem qii {x:Iv} (h:CI x) (hd:x.all=false->dv x.lo<=dv x.hi):VI x:=by
 cases ha:x.all with
 |true=>
  rcases h with rfl|⟨c,_⟩
  .exact .inr rfl
  .rw[ha]at c;cases c
 |false=>exact .inl (zyi h ha (hd ha))
theorem zx7 {B:Rat} {x:Iv} (hx:bI B x) {p:Int} (hF:inF p.toNat B):bI B (uo x p):=by
 unfold uo;split
 .rename_i c;obtain⟨c1,hp⟩:=c;have k:=(qh hx.1.ri).1 c1;have R1:=jw k.lo (vl hp);have R2:=jw k.hi (vl hp);obtain⟨⟨a1,a2⟩,⟨a3,a4⟩⟩:=hx.ends k;refine⟨qbk R1 R2 (zhv (zah _ _ _ (vl hp)) (zah _ _ _ (vl hp))) k.dle,?_⟩
  cases ha:(jm (vi x.lo p.toNat false) (vi x.hi p.toNat true)).all with
  |true=>exact .inl rfl
  |false=>
   right;rw[zbo ha];exact⟨(R1.1.2 (-B) (.inr (by rw[q5];exact hF)) a1).2,(R2.2.2 B (.inl hF) a4).2⟩
 .exact bI_w B
theorem zb2 {d:Dy} {k:Int} (h:(vu d k).2=0):dv (vu d k).1=dv d*pw k:=by
 unfold vu at h⊢;split at h
 .cases h
 .rename_i c;rw[Z5 c];unfold ckN at h⊢;split at h
  .rename_i c2;rw[Z4 c2,zbe];have e:vN (nm d) (d.e+k)=vN (nm d) d.e*pw k:=by unfold vN;rw[pwA,Rat.mul_assoc]
   rw[e];unfold dv;split
   .grind
   .rfl
  .cases h
theorem zpx {B:Rat} {x:Iv} (hx:bI B x) (k:Int):bI (B*pw k) (qb x k):=by
 unfold qb;split
 .rename_i c1;have kx:=(qh hx.1.ri).1 c1;obtain⟨⟨a1,a2⟩,⟨a3,a4⟩⟩:=hx.ends kx;have hc:=zhv (zp4 x.lo k) (zp4 x.hi k)
  cases ha:(jm (vu x.lo k) (vu x.hi k)).all with
  |true=>exact⟨qii hc (fun c=>by rw[ha]at c;cases c),.inl ha⟩
  |false=>
   have e:=zbo ha;obtain⟨o1,o2⟩:=yx.1 ha;have e1:dv (jm (vu x.lo k) (vu x.hi k)).lo =dv x.lo*pw k:=by rw[e];exact zb2 o1
   have e2:dv (jm (vu x.lo k) (vu x.hi k)).hi =dv x.hi*pw k:=by rw[e];exact zb2 o2
   refine⟨qii hc fun _=>by rw[e1,e2];exact qx kx.dle (zcf k),.inr ?_⟩;rw[e1,e2];exact⟨by rw[<-Rat.neg_mul];exact qx a1 (zcf k),qx a4 (zcf k)⟩
 .exact bI_w _
theorem ztm {B:Rat} {x:Iv} (hx:bI B x) (k:KI x):0<=dv (zc3 x)/\dv (zc3 x)<=B/\(zc3 x).neg =false:=by
 obtain⟨⟨a1,a2⟩,⟨a3,a4⟩⟩:=hx.ends k;have hm:zc3 x=kf (zfk x.lo) (zfk x.hi):=rfl;obtain⟨_,_,h3⟩:=xg (zfk x.lo) (zfk x.hi);rw[hm];rcases h3 with e|e<;>rw[e,zpl]
 .exact⟨zz _,by unfold zk;split<;>grind,rfl⟩
 .exact⟨zz _,by unfold zk;split<;>grind,rfl⟩
theorem qb7 (a b:Dy):dv (uw a b)<=dv a/\dv (uw a b)<=dv b:=by
 unfold uw;by_cases h:qd a b<=0
 .rw[Z4 h];exact⟨q2,ju.1 h⟩
 .rw[Z5 h];exact⟨ziz.1 (by omega),q2⟩
theorem qb4 (a b:Dy):dv a<=dv (kf a b)/\dv b<=dv (kf a b):=by
 unfold kf;by_cases h:0<=qd a b
 .rw[Z4 h];exact⟨q2,ziz.1 h⟩
 .rw[Z5 h];exact⟨ju.1 (by omega),q2⟩
theorem zt5 {x y:Iv} (hx:KI x) (hy:KI y):KI ⟨uw x.lo y.lo,kf x.hi y.hi,false⟩:=
 ⟨rfl,zkq hx.lo hy.lo,zey hx.hi hy.hi,ju.2 (q1 (qb7 x.lo y.lo).1 (q1 hx.dle (qb4 x.hi y.hi).1))⟩
theorem zj9 {x y:Iv} (hx:RI x) (hy:RI y):VI (un x y):=by
 unfold un;by_cases h:(kB x&&kB y)=true
 .rw[Z4 h];obtain⟨a,b⟩:=(zdw hx hy).1 h;exact .inl (zt5 a b)
 .rw[Z5 h];exact .inr rfl
set_option maxRecDepth 100000
set_option maxHeartbeats 8000000
theorem qaa:bI (pw 0) (whI 1):=by
 refine⟨.inl (ze0 (by decide)),.inr ?_⟩;have e:dv (whI 1).lo =1:=ji 1;have e':dv (whI 1).hi =1:=ji 1;have e2:pw 0=1:=rfl;rw[e,e',e2];constructor<;>decide
theorem zsu {a b c:Rat} (h:a<=b) (g:b<c):a<c:=q3.1 fun k=>q3.2 g (q1 k h)
theorem zzz {d:Dy} (h0:nm d≠0): -(pw (zo d))<=dv d/\dv d<=pw (zo d):=by
 have ht:zo d=bl (nm d)+d.e:=by unfold zo;rw[Z5 h0]
 have h1:=zge (n:=nm d) (e:=d.e) (t:=zo d) (by omega);have h2:=zbj (nm d) d.e;unfold dv;split<;>constructor<;>grind
theorem y247 (l:List Int) (hl:l.length<=1000000):Fn 199 [] [.sl .u32 l] (.sl .u32 (trL l)) []:=by
 refine fnT hT4 hmx Tryz.func199 rfl rfl (ex:= []) ?_;conv=>whnf
 refine⟨Nat,fun n=>n<=l.length/\trN l n=trN l l.length,fun n=> [(3,.int .i64 n)],fun _=> [],fun n=>n,l.length,⟨Nat.le_refl _,rfl⟩,?_,fun n hn=>?_⟩
 .exact KY0
 (refine⟨by kernel_rfl,?_⟩;(conv=>whnf))
 obtain⟨hn1,hn2⟩:=hn;refine brI (fun h1=>?_) (fun h1=>?_)
 .have h1:0<n:=by simp only[Z2]at h1;omega
  obtain⟨m,rfl⟩: ∃m,n=m+1:=⟨n-1,by omega⟩;have hw:IntKind.i64.wrap (((m+1:Nat):Int)-1)=(m:Int):=by rw[wI (by omega)];omega
  conv=>whnf
  rw[hw];refine⟨⟨by omega,by omega⟩,fun x hx=>?_⟩;have hx:l[m]? =some x:=by simpa using hx
  simp only[trN,hx,Option.getD_some]at hn2;conv=>whnf
  refine brI (fun h2=>?_) (fun h2=>?_)
  .have h2:x=0:=by simpa using h2
   rw[Z4 h2]at hn2;conv=>whnf
   refine⟨m,⟨by omega,hn2⟩,by show m<m+1;omega,?_⟩
   ((conv=>whnf);refine And.intro ?_ ?_;repeat' first|refine lc ?_ ?_|exact la0|exact lr rfl|exact ln0|refine lh1 ?_ ?_|exact lh0|exact bf0|exact bd0|refine bc0 ?_|exact bm0 rfl|exact bg0 rfl|exact li0 rfl|refine lg0 ?_|refine lt0 ?_|fail)
   exact ai0 hw
  .have h2: ¬x=0:=by simpa using h2
   rw[Z5 h2]at hn2;conv=>whnf
   refine⟨⟨by omega,by omega,by omega⟩,?_⟩;conv=>whnf
   refine⟨by simp;omega,?_⟩;conv=>whnf
   exact⟨yk (by rw[trL,<-hn2];try simp),lh0⟩
 .have h1:n=0:=by simp only[Z3]at h1;omega
  subst h1;simp only[trN]at hn2;conv=>whnf
  refine⟨⟨by omega,by omega,by omega⟩,?_⟩;conv=>whnf
  refine⟨by simp,?_⟩;conv=>whnf
  exact⟨yk (by rw[trL,<-hn2];try simp),lh0⟩
def sgR (d:Dy):Int:=if d.m.length=0 then 0 else if d.neg=true then-1 else 1
