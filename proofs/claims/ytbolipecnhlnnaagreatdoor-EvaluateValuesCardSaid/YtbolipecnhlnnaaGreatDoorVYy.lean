/- Intervals: less, more, magnitudes, Abs, Hull, Scale, Round, Sqrt, Width. -/
import Derived.Test.YtbolipecnhlnnaaGreatDoorVYu
set_option linter.all false
open Int renaming toNat_natCast->q0
namespace Go.Proofs.YtbolipecnhlnnaaGreatDoor
open Go Go.Sx
set_option maxRecDepth 100000
set_option maxHeartbeats 8000000
def yr(a b:Dy):Dy:=if qo a b<=0 then a else b
def uq(a b:Dy):Dy:=if 0<=qo a b then a else b
theorem i226{a b:Dy}(ha:VD a)(hb:VD b):Fn 238 [] [.agg (dyC a),.agg (dyC b)] (.agg (dyC (yr a b))) []:=by
 have h81:=v81 ha hb;have hR:yr a b=if qo a b<=0 then a else b:=rfl
 generalize yr a b=R at*;generalize qo a b=C at*;clear ha hb;refine fY6 Tryz.func238 rfl ?_;refine gYn h81 ?_;refine brI (fun h1=>?_) (fun h1=>?_)
 .have h1:C<=0:=Z0 h1;rw[hR,Z4 h1];conv=>whnf
  exact⟨lr rfl,lh0⟩
 .have h1:¬C<=0:=Z1 h1;rw[hR,Z5 h1];conv=>whnf
  exact⟨lr rfl,lh0⟩
theorem i227{a b:Dy}(ha:VD a)(hb:VD b):Fn 237 [] [.agg (dyC a),.agg (dyC b)] (.agg (dyC (uq a b))) []:=by
 have h81:=v81 ha hb;have hR:uq a b=if 0<=qo a b then a else b:=rfl
 generalize uq a b=R at*;generalize qo a b=C at*;clear ha hb;refine fY6 Tryz.func237 rfl ?_;refine gYn h81 ?_;refine brI (fun h1=>?_) (fun h1=>?_)
 .have h1:0<=C:=Z0 h1;rw[hR,Z4 h1];conv=>whnf
  exact⟨lr rfl,lh0⟩
 .have h1:¬0<=C:=Z1 h1;rw[hR,Z5 h1];conv=>whnf
  exact⟨lr rfl,lh0⟩
theorem zcv{a b:Dy}(ha:VD a)(hb:VD b):VD (yr a b):=by unfold yr;split<;>assumption
theorem zbs{a b:Dy}(ha:VD a)(hb:VD b):VD (uq a b):=by unfold uq;split<;>assumption
def kz(x:Iv):Dy:=uq (xt x.lo) (xt x.hi)
def zb1(x:Iv):Dy:=if zdr x=0 then d0 else yr (xt x.lo) (xt x.hi)
theorem zbf{x:Iv}(k:KI x):VD (kz x):=zbs (zcw k.lo) (zcw k.hi)
theorem zgn{x:Iv}(k:KI x):VD (zb1 x):=by
 unfold zb1;split
 .exact qg
 .exact zcv (zcw k.lo) (zcw k.hi)
theorem qfx{h h':Hp}{b:Bool}:leA h h' (.tup [.agg [.bool false,.nilsl,.int .i64 0],.bool b]) (.tup [.agg (dyC d0),.bool b]):=lt0 (lc qaq (lc (lr rfl) ln0))
theorem i182(x:Iv)(h:RI x):Fn 205 [] [.agg (ivC x)] (.tup [.agg (dyC (if kB x=true then kz x else d0)),.bool (kB x)]) []:=by
 have h126:=zrk [x] OC (by simpa using h);rw[k1]at h126;by_cases hk:kB x=true
 .have k:=(zp h).1 hk;rw[Z4 hk,hk];rw[hk]at h126;have n1:=qin k.lo;have n2:=qin k.hi;have n3:=i227 (zcw k.lo) (zcw k.hi);have hR:uq (xt x.lo) (xt x.hi)=kz x:=rfl;rw[hR]at n3;generalize kz x=M at*;generalize xt x.lo=a at*;generalize xt x.hi=b at*;clear k hk h hR;refine fY6 Tryz.func205 rfl ?_;refine gYn h126 ?_;refine gYn n1 ?_;refine gYn n2 ?_;refine gYn n3 ?_;refine gYd ?_;exact⟨lr rfl,lh0⟩
 .have hk:kB x=false:=by simpa using hk
  rw[hk,Z5 OC];rw[hk]at h126;clear hk h;refine fY6 Tryz.func205 rfl ?_;refine gYn h126 ?_;exact⟨qfx,lh0⟩
theorem i181(x:Iv)(h:RI x):Fn 370 [] [.agg (ivC x)] (.tup [.agg (dyC (if kB x=true then zb1 x else d0)),.bool (kB x)]) []:=by
 have h126:=zrk [x] OC (by simpa using h);have h134:=i134 x h;rw[k1]at h126;by_cases hk:kB x=true
 .have k:=(zp h).1 hk;rw[Z4 hk,hk];rw[hk]at h126;have n1:=qin k.lo;have n2:=qin k.hi;have n3:=i226 (zcw k.lo) (zcw k.hi);have hR:zb1 x=if zdr x=0 then d0 else yr (xt x.lo) (xt x.hi):=rfl
  generalize zb1 x=M at*;generalize zdr x=S at*;generalize yr (xt x.lo) (xt x.hi)=L at*;generalize xt x.lo=a at*;generalize xt x.hi=b at*;clear k hk h;refine fY6 Tryz.func370 rfl ?_;refine gYn h126 ?_;refine gYn h134 ?_;refine brI (fun h1=>?_) (fun h1=>?_)
  .have h1:S=0:=by simpa using h1
   rw[Z4 h1]at hR;subst hR;conv=>whnf
   exact⟨qfx,lh0⟩
  have h1:S≠0:=by simpa using h1
  rw[Z5 h1]at hR;subst hR;conv=>whnf
  refine gYn n1 ?_;refine gYn n2 ?_;refine gYn n3 ?_;refine gYd ?_;exact⟨lr rfl,lh0⟩
 .have hk:kB x=false:=by simpa using hk
  rw[hk,Z5 OC];rw[hk]at h126;clear hk h h134;refine fY6 Tryz.func370 rfl ?_;refine gYn h126 ?_;exact⟨qfx,lh0⟩
def zon(x:Iv):Iv:=if kB x=true then⟨zb1 x,kz x,false⟩else wI0
theorem i137(x:Iv)(h:RI x):Fn 310 [] [.agg (ivC x)] (.agg (ivC (zon x))) []:=by
 have h126:=zrk [x] OC (by simpa using h);rw[k1]at h126;have n1:=i181 x h;have n2:=i182 x h;have h25:=i25;rw[e25]at h25;have hR:zon x=if kB x=true then⟨zb1 x,kz x,false⟩else wI0:=rfl
 generalize zon x=R at*;generalize kB x=K at*
 cases K with
 |true=>
  rw[Z4 rfl]at hR n1 n2;generalize kz x=a at*;generalize zb1 x=b at*;subst hR;clear h;refine fY6 Tryz.func310 rfl ?_;refine gYn h126 ?_;refine gYn n1 ?_;refine gYn n2 ?_;exact⟨lr rfl,lh0⟩
 |false=>
  rw[Z5 OC]at hR;subst hR;clear h n1 n2;refine fY6 Tryz.func310 rfl ?_;refine gYn h126 ?_;refine gYn h25 ?_;exact⟨lr rfl,lh0⟩
def zf3(x y:Iv):Iv:=if(kB x&&kB y)=true then⟨yr x.lo y.lo,uq x.hi y.hi,false⟩else wI0
theorem i201(x y:Iv)(hx:RI x)(hy:RI y):Fn 165 [] [.agg (ivC x),.agg (ivC y)] (.agg (ivC (zf3 x y))) []:=by
 have h126:=zrk [x,y] OC (by simpa using⟨hx,hy⟩);rw[k2]at h126;have h25:=i25;rw[e25]at h25;have hR:zf3 x y=if(kB x&&kB y)=true then⟨yr x.lo y.lo,uq x.hi y.hi,false⟩else wI0:=rfl
 generalize zf3 x y=R at*;by_cases hk:(kB x&&kB y)=true
 .rw[hk]at h126;rw[Z4 hk]at hR;rw[Bool.and_eq_true]at hk;have kx:=(zp hx).1 hk.1;have ky:=(zp hy).1 hk.2;have n1:=i226 kx.lo ky.lo;have n2:=i227 kx.hi ky.hi;generalize yr x.lo y.lo=a at*;generalize uq x.hi y.hi=b at*;subst hR;clear kx ky hx hy hk;refine fY6 Tryz.func165 rfl ?_;refine gYn h126 ?_;refine gYn n1 ?_;refine gYn n2 ?_;refine gYd ?_;exact⟨lr rfl,lh0⟩
 .rw[Z5 hk]at hR;rw[show(kB x&&kB y)=false by simpa using hk]at h126;subst hR;clear hx hy hk;refine fY6 Tryz.func165 rfl ?_;refine gYn h126 ?_;refine gYn h25 ?_;exact⟨lr rfl,lh0⟩
def ww(x:Iv)(k:Int):Iv:=if kB x=true then vh (wo x.lo k) (wo x.hi k)else wI0
theorem i191(x:Iv)(h:RI x)(k:Int):Fn 130 G0 [.agg (ivC x),.int .i64 k] (.agg (ivC (ww x k))) G0:=by
 have h126:=zrk [x] OC (by simpa using h);rw[k1]at h126;have h25:=i25;rw[e25]at h25;have hR:ww x k=if kB x=true then vh (wo x.lo k) (wo x.hi k)else wI0:=rfl
 generalize ww x k=R at*;by_cases hk:kB x=true
 .rw[hk]at h126;rw[Z4 hk]at hR;have kx:=(zp h).1 hk;have n1:=v230 kx.lo k;have n2:=v230 kx.hi k;have n3:=qh6 (wo x.lo k) (wo x.hi k);rw[<-hR]at n3;generalize wo x.lo k=a at*;generalize wo x.hi k=b at*;clear kx h hk hR;obtain⟨⟨a1,a2,a3⟩,e⟩:=a;obtain⟨⟨b1,b2,b3⟩,f⟩:=b;refine fY6 Tryz.func130 rfl ?_;refine gYn h126 ?_;refine gYc n1 ?_;refine gYc n2 ?_;refine gYn n3 ?_;exact⟨lr rfl,leG⟩
 .rw[Z5 hk]at hR;rw[show kB x=false by simpa using hk]at h126;subst hR;clear h hk;refine fY6 Tryz.func130 rfl ?_;refine gYn h126 ?_;refine gYn h25 ?_;exact⟨lr rfl,leG⟩
def vi(x:Iv)(p:Int):Iv:=if kB x=true/\pcB p=true then vh (qt x.lo p.toNat false) (qt x.hi p.toNat true)else wI0
theorem qkp(x:Iv)(h:RI x)(p:Int):Fn 154 G0 [.agg (ivC x),.int .i64 p] (.agg (ivC (vi x p))) G0:=by
 have h126:=zrk [x] OC (by simpa using h);rw[k1]at h126;have h127:=qc3 p;have h25:=i25;rw[e25]at h25;have hR:vi x p=if kB x=true/\pcB p=true then vh (qt x.lo p.toNat false) (qt x.hi p.toNat true)else wI0:=rfl
 generalize vi x p=R at*;by_cases hk:kB x=true
 .rw[hk]at h126;by_cases hp:pcB p=true
  .rw[hp]at h127;rw[Z4 ⟨hk,hp⟩]at hR;have kx:=(zp h).1 hk;obtain⟨q,rfl,hq⟩:=jx.1 hp;rw[q0]at hR;have n1:=v185 kx.lo q hq;have n2:=v184 kx.hi q hq;have n3:=qh6 (qt x.lo q false) (qt x.hi q true);rw[<-hR]at n3;generalize qt x.lo q false=a at*;generalize qt x.hi q true=b at*;clear kx h hk hR;obtain⟨⟨a1,a2,a3⟩,e⟩:=a;obtain⟨⟨b1,b2,b3⟩,f⟩:=b;refine fY6 Tryz.func154 rfl ?_;refine gYn h126 ?_;refine gYn h127 ?_;refine gYc n1 ?_;refine gYc n2 ?_;refine gYn n3 ?_;exact⟨lr rfl,leG⟩
  .rw[Z5 fun c=>hp c.2]at hR;rw[show pcB p=false by simpa using hp]at h127;subst hR;clear h hk hp;refine fY6 Tryz.func154 rfl ?_;refine gYn h126 ?_;refine gYn h127 ?_;refine gYn h25 ?_;exact⟨lr rfl,leG⟩
 .rw[Z5 fun c=>hk c.1]at hR;rw[show kB x=false by simpa using hk]at h126;subst hR;clear h hk;refine fY6 Tryz.func154 rfl ?_;refine gYn h126 ?_;refine gYn h25 ?_;exact⟨lr rfl,leG⟩
theorem qjv{a b:Dy}(h:0<vg a)(hc:qo a b<=0):b.neg=false:=by
 rw[zp3 a (min a.e b.e)]at h;unfold qo zvs at hc;unfold zvs at h;have hb:0<zi b (min a.e b.e):=by
  generalize zi a (min a.e b.e)=x at*;generalize zi b (min a.e b.e)=y at*;split at h
  .omega
  .split at h
   .split at hc
    .omega
    .split at hc<;>omega
   .omega
 unfold zi at hb
 cases hn:b.neg with
 |false=>rfl
 |true=>rw[Z4 hn]at hb;omega
theorem zvp{a:Dy}(h:0<vg a):a.neg=false:=by
 unfold vg at h;split at h
 .omega
 .cases hn:a.neg with
  |false=>rfl
  |true=>rw[Z4 hn]at h;omega
def zbw(x:Iv)(p:Int):Iv:=if kB x=true/\pcB p=true/\0<vg x.lo then vh (jo x.lo p.toNat false) (jo x.hi p.toNat true)else wI0
theorem i92(x:Iv)(h:RI x)(p:Int):Fn 270 G0 [.agg (ivC x),.int .i64 p] (.agg (ivC (zbw x p))) G0:=by
 have h126:=zrk [x] OC (by simpa using h);rw[k1]at h126;have h127:=qc3 p;have h25:=i25;rw[e25]at h25;have hR:zbw x p=if kB x=true/\pcB p=true/\0<vg x.lo then vh (jo x.lo p.toNat false) (jo x.hi p.toNat true)else wI0:=rfl
 generalize zbw x p=R at*;by_cases hk:kB x=true
 .rw[hk]at h126;have kx:=(zp h).1 hk;have h124:=zt1 kx.lo;by_cases hp:pcB p=true
  .rw[hp]at h127;by_cases hs:0<vg x.lo
   .rw[Z4 ⟨hk,hp,hs⟩]at hR;obtain⟨q,rfl,hq⟩:=jx.1 hp;rw[q0]at hR;have n1:=v145 kx.lo (zvp hs) q hq;have n2:=v146 kx.hi (qjv hs kx.le) q hq;have n3:=qh6 (jo x.lo q false) (jo x.hi q true);rw[<-hR]at n3;generalize jo x.lo q false=a at*;generalize jo x.hi q true=b at*;generalize vg x.lo=S at*;clear kx h hk hR;obtain⟨⟨a1,a2,a3⟩,e⟩:=a;obtain⟨⟨b1,b2,b3⟩,f⟩:=b;refine fY6 Tryz.func270 rfl ?_;refine gYn h126 ?_;refine gYn h127 ?_;refine gYn h124 ?_;refine brI (fun h1=>?_) (fun h1=>?_)
    .have h1:S<=0:=Z0 h1;omega
    conv=>whnf
    refine gYc n1 ?_;refine gYc n2 ?_;refine gYn n3 ?_;exact⟨lr rfl,leG⟩
   .rw[Z5 fun c=>hs c.2.2]at hR;subst hR;generalize vg x.lo=S at*;clear h hk kx;refine fY6 Tryz.func270 rfl ?_;refine gYn h126 ?_;refine gYn h127 ?_;refine gYn h124 ?_;refine brI (fun h1=>?_) (fun h1=>?_)
    rotate_left
    .have h1:¬S<=0:=Z1 h1;omega
    conv=>whnf
    refine gYn h25 ?_;exact⟨lr rfl,leG⟩
  .rw[Z5 fun c=>hp c.2.1]at hR;rw[show pcB p=false by simpa using hp]at h127;subst hR;clear h hk hp kx h124;refine fY6 Tryz.func270 rfl ?_;refine gYn h126 ?_;refine gYn h127 ?_;refine gYn h25 ?_;exact⟨lr rfl,leG⟩
 .rw[Z5 fun c=>hk c.1]at hR;rw[show kB x=false by simpa using hk]at h126;subst hR;clear h hk;refine fY6 Tryz.func270 rfl ?_;refine gYn h126 ?_;refine gYn h25 ?_;exact⟨lr rfl,leG⟩
def yf(d:Dy)(p:Nat)(up:Bool):Nat->Dy×Int->Dy×Int
 |0,r=>r
 |k+1,r=>if r.2=0 then yf d p up k (wz r.1 d p up)else r
def zcb(d:Dy)(n p:Nat)(up:Bool):Dy×Int:=yf d p up (n-1) (qt d p up)
theorem zsm(d:Dy)(p:Nat)(up:Bool)(hp:8<=p/\p<=512):∀k r,VD r.1->VD (yf d p up k r).1
 |0,r,h=>h
 |k+1,r,h=>by
  simp only[yf];split
  .exact zsm d p up hp k _ (kj _ _ _ _ hp)
  .exact h
theorem zoi(d:Dy)(n p:Nat)(up:Bool)(hp:8<=p/\p<=512):VD (zcb d n p up).1:=zsm d p up hp _ _ (wd _ _ _ hp)
theorem i183t{d:Dy}(hd:VD d)(n p:Nat)(hn:1<=n/\n<=16)(hp:8<=p/\p<=512):Fn 381 G0 [.agg (dyC d),.int .i64 n,.int .i64 p,.fn 225 [],.fn 73 []] (dyV (zcb d n p true)) G0:=by
 have h0:=v184 hd p hp;have hm:∀a,VD a->Fn 73 G0 [.agg (dyC a),.agg (dyC d),.int .i64 p] (dyV (wz a d p true)) G0:=fun a ha=>qhr ha hd p hp
 have hv0:=wd d true p hp;obtain⟨R,hR⟩:∃R,zcb d n p true=R:=⟨_,rfl⟩;rw[hR];unfold zcb at hR;generalize qt d p true=r0 at*;obtain⟨d1,d2,d3⟩:=d;have hm:∀a,VD a->Fn 73 G0 [.agg (dyC a),.agg [.bool d1,.sl .u32 d2,.int .i64 d3],.int .i64 p] (dyV (wz a ⟨d1,d2,d3⟩ p true)) G0:=hm;obtain⟨⟨a1,a2,a3⟩,e0⟩:=r0;have h0:Fn 225 G0 [.agg [.bool d1,.sl .u32 d2,.int .i64 d3],.int .i64 p] (dyV (⟨a1,a2,a3⟩,e0)) G0:=h0;show Fn 381 G0 [.agg [.bool d1,.sl .u32 d2,.int .i64 d3],.int .i64 n,.int .i64 p,.fn 225 [],.fn 73 []] _ G0;refine fY6 Tryz.func381 rfl ?_;refine gYc h0 ?_;refine⟨Nat×Dy×Int,fun s=>(1<=s.1/\s.1<=n)/\VD s.2.1/\yf ⟨d1,d2,d3⟩ p true (n-s.1) s.2=R,fun s=> [(14,.int .i64 s.1),(13,.int .i64 s.2.2)],fun s=> [(12,.cells (dyC s.2.1))],fun s=>n-s.1,(1,⟨a1,a2,a3⟩,e0),?_,?_,fun s hs=>?_⟩
 .exact⟨⟨OC,hn.1⟩,hv0,hR⟩
 .exact KZ0
 obtain⟨k,⟨r1,r2,r3⟩,e⟩:=s;obtain⟨⟨h1,h2⟩,h3,h4⟩:=hs;simp only at h1 h2 h3 h4;refine gYe ?_;refine brI (fun k1=>?_) (fun k1=>?_)
 .have k1:k<n:=by simp only[Z2]at k1;omega
  obtain⟨j,hj⟩:∃j,n-k=j+1:=⟨n-k-1,O⟩;rw[hj]at h4;simp only[yf]at h4;conv=>whnf
  refine brI (fun k2=>?_) (fun k2=>?_)
  .have k2:e=0:=by simpa using k2
   rw[Z4 k2]at h4;have hmm:Fn 73 G0 [.agg [.bool r1,.sl .u32 r2,.int .i64 r3],.agg [.bool d1,.sl .u32 d2,.int .i64 d3],.int .i64 p] (dyV (wz ⟨r1,r2,r3⟩ ⟨d1,d2,d3⟩ p true)) G0:=hm _ h3;have hvm:=kj ⟨r1,r2,r3⟩ ⟨d1,d2,d3⟩ true p hp;generalize wz ⟨r1,r2,r3⟩ ⟨d1,d2,d3⟩ p true=M at*;obtain⟨⟨m1,m2,m3⟩,f⟩:=M;conv=>whnf
   refine gYc hmm ?_;refine⟨(k+1,⟨m1,m2,m3⟩,f),⟨⟨OD,OD⟩,hvm,by simp only;rw[(O:n-(k+1)=j)];exact h4⟩,by show n-(k+1)<n-k;omega,?_⟩;exact KZ0
  .have k2:e≠0:=by simpa using k2
   rw[Z5 k2]at h4;subst h4;conv=>whnf
   exact⟨lr rfl,leG⟩
 .have k1:¬k<n:=by simp only[Z3]at k1;omega
  rw[(O:n-k=0)]at h4;simp only[yf]at h4;subst h4;conv=>whnf
  exact⟨lr rfl,leG⟩
theorem i183f{d:Dy}(hd:VD d)(n p:Nat)(hn:1<=n/\n<=16)(hp:8<=p/\p<=512):Fn 381 G0 [.agg (dyC d),.int .i64 n,.int .i64 p,.fn 224 [],.fn 72 []] (dyV (zcb d n p false)) G0:=by
 have h0:=v185 hd p hp;have hm:∀a,VD a->Fn 72 G0 [.agg (dyC a),.agg (dyC d),.int .i64 p] (dyV (wz a d p false)) G0:=fun a ha=>qhs ha hd p hp
 have hv0:=wd d false p hp;obtain⟨R,hR⟩:∃R,zcb d n p false=R:=⟨_,rfl⟩;rw[hR];unfold zcb at hR;generalize qt d p false=r0 at*;obtain⟨d1,d2,d3⟩:=d;have hm:∀a,VD a->Fn 72 G0 [.agg (dyC a),.agg [.bool d1,.sl .u32 d2,.int .i64 d3],.int .i64 p] (dyV (wz a ⟨d1,d2,d3⟩ p false)) G0:=hm;obtain⟨⟨a1,a2,a3⟩,e0⟩:=r0;have h0:Fn 224 G0 [.agg [.bool d1,.sl .u32 d2,.int .i64 d3],.int .i64 p] (dyV (⟨a1,a2,a3⟩,e0)) G0:=h0;show Fn 381 G0 [.agg [.bool d1,.sl .u32 d2,.int .i64 d3],.int .i64 n,.int .i64 p,.fn 224 [],.fn 72 []] _ G0;refine fY6 Tryz.func381 rfl ?_;refine gYc h0 ?_;refine⟨Nat×Dy×Int,fun s=>(1<=s.1/\s.1<=n)/\VD s.2.1/\yf ⟨d1,d2,d3⟩ p false (n-s.1) s.2=R,fun s=> [(14,.int .i64 s.1),(13,.int .i64 s.2.2)],fun s=> [(12,.cells (dyC s.2.1))],fun s=>n-s.1,(1,⟨a1,a2,a3⟩,e0),?_,?_,fun s hs=>?_⟩
 .exact⟨⟨OC,hn.1⟩,hv0,hR⟩
 .exact KZ0
 obtain⟨k,⟨r1,r2,r3⟩,e⟩:=s;obtain⟨⟨h1,h2⟩,h3,h4⟩:=hs;simp only at h1 h2 h3 h4;refine gYe ?_;refine brI (fun k1=>?_) (fun k1=>?_)
 .have k1:k<n:=by simp only[Z2]at k1;omega
  obtain⟨j,hj⟩:∃j,n-k=j+1:=⟨n-k-1,O⟩;rw[hj]at h4;simp only[yf]at h4;conv=>whnf
  refine brI (fun k2=>?_) (fun k2=>?_)
  .have k2:e=0:=by simpa using k2
   rw[Z4 k2]at h4;have hmm:Fn 72 G0 [.agg [.bool r1,.sl .u32 r2,.int .i64 r3],.agg [.bool d1,.sl .u32 d2,.int .i64 d3],.int .i64 p] (dyV (wz ⟨r1,r2,r3⟩ ⟨d1,d2,d3⟩ p false)) G0:=hm _ h3;have hvm:=kj ⟨r1,r2,r3⟩ ⟨d1,d2,d3⟩ false p hp;generalize wz ⟨r1,r2,r3⟩ ⟨d1,d2,d3⟩ p false=M at*;obtain⟨⟨m1,m2,m3⟩,f⟩:=M;conv=>whnf
   refine gYc hmm ?_;refine⟨(k+1,⟨m1,m2,m3⟩,f),⟨⟨OD,OD⟩,hvm,by simp only;rw[(O:n-(k+1)=j)];exact h4⟩,by show n-(k+1)<n-k;omega,?_⟩;exact KZ0
  .have k2:e≠0:=by simpa using k2
   rw[Z5 k2]at h4;subst h4;conv=>whnf
   exact⟨lr rfl,leG⟩
 .have k1:¬k<n:=by simp only[Z3]at k1;omega
  rw[(O:n-k=0)]at h4;simp only[yf]at h4;subst h4;conv=>whnf
  exact⟨lr rfl,leG⟩
def zco(d:Dy)(n p:Nat)(up:Bool):Dy×Int:=if vg d<0 then(jm (zcb (jm d) n p (!up)).1,(zcb (jm d) n p (!up)).2)else zcb d n p up
theorem qew(d:Dy):vg (jm d)= -vg d:=by
 unfold vg jm;by_cases h:nm d=0
 .rw[Z4 h,Z4 h];rfl
 .rw[Z5 h,Z5 h];have h2:nm ⟨!d.neg,d.m,d.e⟩=nm d:=rfl;rw[h2,Z5 h];cases d.neg<;>rfl
theorem qkq{d:Dy}(hd:VD d)(hs:¬vg d<0)(n p:Nat)(hn:1<=n/\n<=16)(hp:8<=p/\p<=512)(up:Bool):Fn 344 G0 [.agg (dyC d),.int .i64 n,.int .i64 p,.bool up] (dyV (zcb d n p up)) G0:=by
 have h1:=i183t hd n p hn hp;have h2:=i183f hd n p hn hp;have h124:=zt1 hd;generalize zcb d n p=F at*;generalize vg d=S at*;clear hd
 cases up with
 |true=>
  generalize F true=R at*;obtain⟨⟨r1,r2,r3⟩,e⟩:=R;refine fY6 Tryz.func344 rfl ?_;refine gYn h124 ?_;refine brI (fun k1=>?_) (fun k1=>?_)
  .exact absurd (Z0 k1) hs
  conv=>whnf
  refine gYc h1 ?_;exact⟨lr rfl,leG⟩
 |false=>
  generalize F false=R at*;obtain⟨⟨r1,r2,r3⟩,e⟩:=R;refine fY6 Tryz.func344 rfl ?_;refine gYn h124 ?_;refine brI (fun k1=>?_) (fun k1=>?_)
  .exact absurd (Z0 k1) hs
  conv=>whnf
  refine gYc h2 ?_;exact⟨lr rfl,leG⟩
theorem i138{d:Dy}(hd:VD d)(n p:Nat)(hn:1<=n/\n<=16)(hp:8<=p/\p<=512)(up:Bool):Fn 344 G0 [.agg (dyC d),.int .i64 n,.int .i64 p,.bool up] (dyV (zco d n p up)) G0:=by
 by_cases hs:vg d<0
 .have hR:zco d n p up=(jm (zcb (jm d) n p (!up)).1,(zcb (jm d) n p (!up)).2):=by unfold zco;rw[Z4 hs]
  rw[hR];have h124:=zt1 hd;have h135:Fn 85 [] [.agg (dyC d)] (.agg (dyC (jm d))) []:=qd8 hd;have h138:=qkq (ua hd) (by rw[qew];omega) n p hn hp (!up);have hv:=zoi (jm d) n p (!up) hp;have h135b:Fn 85 [] [.agg (dyC (zcb (jm d) n p (!up)).1)] (.agg (dyC (jm (zcb (jm d) n p (!up)).1))) []:=qd8 hv;generalize zcb (jm d) n p (!up)=P at*;generalize jm d=N at*;generalize vg d=S at*;generalize jm P.1=Q at*;clear hd hv hR;obtain⟨⟨r1,r2,r3⟩,e⟩:=P;refine fY6 Tryz.func344 rfl ?_;refine gYn h124 ?_;refine brI (fun k1=>?_) (fun k1=>?_)
  rotate_left
  .exact absurd hs (Z1 k1)
  conv=>whnf
  refine gYn h135 ?_;refine gYc h138 ?_;refine gYn h135b ?_;exact⟨lr rfl,leG⟩
 .have hR:zco d n p up=zcb d n p up:=by unfold zco;rw[Z5 hs]
  rw[hR];exact qkq hd hs n p hn hp up
theorem qdn(d:Dy)(n p:Nat)(up:Bool)(hp:8<=p/\p<=512):VD (zco d n p up).1:=by
 unfold zco;split
 .exact ua (zoi _ _ _ _ hp)
 .exact zoi _ _ _ _ hp
def pwK(x:Iv)(n p:Nat):Iv:=vh (zco x.lo n p false) (zco x.hi n p true)
def zje(x:Iv)(n p:Int):Iv:=
 if kB x=true/\pcB p=true/\0<=n/\n<=16 then(if n=0 then ve (wl 1)else pwK (if n % 2=0 then zon x else x) n.toNat p.toNat)else wI0
theorem zsk{x:Iv}(hk:kB x=true):zon x=⟨zb1 x,kz x,false⟩:=by unfold zon;rw[Z4 hk]
theorem jl(n:Int)(h: -4611686018427387904<=n/\n<=4611686018427387904):VD (wl n):=by
 unfold wl;have hb:bl n.natAbs<=64:=wv.2 (by show n.natAbs<18446744073709551616;omega);exact zoj (zrj O O O)
theorem i87(x:Iv)(h:RI x)(n p:Int):Fn 268 G0 [.agg (ivC x),.int .i64 n,.int .i64 p] (.agg (ivC (zje x n p))) G0:=by
 have h126:=zrk [x] OC (by simpa using h);rw[k1]at h126;have h127:=qc3 p;have h25:=i25;rw[e25]at h25;have hR:zje x n p=if kB x=true/\pcB p=true/\0<=n/\n<=16 then(if n=0 then ve (wl 1)else pwK (if n % 2=0 then zon x else x) n.toNat p.toNat)else wI0:=rfl
 generalize zje x n p=R at*;by_cases hk:kB x=true
 rotate_left
 .rw[Z5 fun c=>hk c.1]at hR;rw[show kB x=false by simpa using hk]at h126;subst hR;clear h hk;refine fY6 Tryz.func268 rfl ?_;refine gYn h126 ?_;refine gYn h25 ?_;exact⟨lr rfl,leG⟩
 rw[hk]at h126;by_cases hp:pcB p=true
 rotate_left
 .rw[Z5 fun c=>hp c.2.1]at hR;rw[show pcB p=false by simpa using hp]at h127;subst hR;clear h hk;refine fY6 Tryz.func268 rfl ?_;refine gYn h126 ?_;refine gYn h127 ?_;refine gYn h25 ?_;exact⟨lr rfl,leG⟩
 rw[hp]at h127;by_cases hn:0<=n/\n<=16
 rotate_left
 .rw[Z5 fun c=>hn c.2.2]at hR;subst hR;clear h hk;refine fY6 Tryz.func268 rfl ?_;refine gYn h126 ?_;refine gYn h127 ?_;refine brI (fun k1=>?_) (fun k1=>?_)
  .conv=>whnf
   refine gYn h25 ?_;exact⟨lr rfl,leG⟩
  have k1:¬n<0:=Z1 k1;conv=>whnf
  refine brI (fun k2=>?_) (fun k2=>?_)
  .conv=>whnf
   refine gYn h25 ?_;exact⟨lr rfl,leG⟩
  have k2:¬16<n:=Z1 k2;omega
 rw[Z4 ⟨hk,hp,hn⟩]at hR;obtain⟨N,rfl⟩:=Int.eq_ofNat_of_zero_le hn.1;by_cases h0:N=0
 .subst h0;rw[Z4 (by rfl)]at hR;have h77:=v77 1 OA;have h136:=qh5 (jl 1 OA);generalize wl 1=I1 at*;rw[<-hR]at h136;clear h hk hR;refine fY6 Tryz.func268 rfl ?_;refine gYn h126 ?_;refine gYn h127 ?_;refine gYc h77 ?_;refine gYn h136 ?_;exact⟨lr rfl,leG⟩
 rw[Z5 O,q0]at hR;have kx:=(zp h).1 hk;obtain⟨q,rfl,hq⟩:=jx.1 hp;rw[q0]at hR;have hcase:∀y:Iv,VD y.lo->VD y.hi->R=pwK y N q->
  Fn 344 G0 [.agg (dyC y.lo),.int .i64 N,.int .i64 q,.bool false] (dyV (zco y.lo N q false)) G0/\Fn 344 G0 [.agg (dyC y.hi),.int .i64 N,.int .i64 q,.bool true] (dyV (zco y.hi N q true)) G0/\
  Fn 79 [] [.agg (dyC (zco y.lo N q false).1),.int .i64 (zco y.lo N q false).2,.agg (dyC (zco y.hi N q true).1),.int .i64 (zco y.hi N q true).2] (.agg (ivC R)) []:=by
  intro y hl hh e;refine⟨i138 hl N q O hq false,i138 hh N q O hq true,?_⟩;rw[e];exact qh6 _ _
 have hmod:((N:Int).tmod 2==0)=decide ((N:Int) % 2=0):=by
  have:(N:Int).tmod 2=((N % 2:Nat):Int):=(Int.ofNat_tmod N 2).symm;rw[this,Bool.eq_iff_iff,beq_iff_eq,Z2];omega
 by_cases he:(N:Int) % 2=0
 .rw[Z4 he,zsk hk]at hR;rw[Z6 he]at hmod;have h137:=i137 x h;rw[zsk hk]at h137;obtain⟨n1,n2,n3⟩:=hcase _ (zgn kx) (zbf kx) hR;simp only at n1 n2 n3;generalize zco (zb1 x) N q false=A at*;generalize zco (kz x) N q true=B at*;generalize zb1 x=L at*;generalize kz x=U at*;clear hcase hR kx h hk;obtain⟨⟨a1,a2,a3⟩,e⟩:=A;obtain⟨⟨b1,b2,b3⟩,f⟩:=B;refine fY6 Tryz.func268 rfl ?_;refine gYn h126 ?_;refine gYn h127 ?_;refine brI (fun k2=>?_) (fun k2=>?_)
  .have k2:=Z0 k2;omega
  conv=>whnf
  refine brI (fun k3=>?_) (fun k3=>?_)
  .have k3:(N:Int)=0:=by simpa using k3
   omega
  conv=>whnf
  refine⟨OA,?_⟩;conv=>whnf
  refine brI (fun k4=>?_) (fun k4=>?_)
  rotate_left
  .have k4:((N:Int).tmod 2==0)=false:=k4;rw[hmod]at k4;cases k4
  conv=>whnf
  refine gYn h137 ?_;refine gYc n1 ?_;refine gYc n2 ?_;refine gYn n3 ?_;exact⟨lr rfl,leG⟩
 .rw[Z5 he]at hR;rw[Z7 he]at hmod;obtain⟨n1,n2,n3⟩:=hcase _ kx.lo kx.hi hR;generalize zco x.lo N q false=A at*;generalize zco x.hi N q true=B at*;clear hcase hR kx h hk;obtain⟨⟨a1,a2,a3⟩,e⟩:=A;obtain⟨⟨b1,b2,b3⟩,f⟩:=B;refine fY6 Tryz.func268 rfl ?_;refine gYn h126 ?_;refine gYn h127 ?_;refine brI (fun k2=>?_) (fun k2=>?_)
  .have k2:=Z0 k2;omega
  conv=>whnf
  refine brI (fun k3=>?_) (fun k3=>?_)
  .have k3:(N:Int)=0:=by simpa using k3
   omega
  conv=>whnf
  refine⟨OA,?_⟩;conv=>whnf
  refine brI (fun k4=>?_) (fun k4=>?_)
  .have k4:((N:Int).tmod 2==0)=true:=k4;rw[hmod]at k4;cases k4
  conv=>whnf
  refine gYc n1 ?_;refine gYc n2 ?_;refine gYn n3 ?_;exact⟨lr rfl,leG⟩
