/- Intervals: less, more, magnitudes, Abs, Hull, Scale, Round, Sqrt, Width. -/
import Derived.Test.YthbgbmdmimejiaaGreatDoorJYu
set_option linter.all false
open Int renaming toNat_natCast->q0
namespace Go.Proofs.YthbgbmdmimejiaaGreatDoor
open Go Go.Sx
set_option maxRecDepth 100000
set_option maxHeartbeats 8000000
def xn(a b:Dy):Dy:=if qr a b<=0 then a else b
def yq(a b:Dy):Dy:=if 0<=qr a b then a else b
theorem i226{a b:Dy}(ha:VD a)(hb:VD b):Fn 31 [] [.agg (dyC a),.agg (dyC b)] (.agg (dyC (xn a b))) []:=by
 have h81:=v81 ha hb;have hR:xn a b=if qr a b<=0 then a else b:=rfl
 generalize xn a b=R at*;generalize qr a b=C at*;clear ha hb;refine fY6 Tryz.func31 rfl ?_;refine gYn h81 ?_;refine brI (fun h1=>?_) (fun h1=>?_)
 .have h1:C<=0:=Z0 h1;rw[hR,Z4 h1];conv=>whnf
  exact⟨lr rfl,lh0⟩
 .have h1:¬C<=0:=Z1 h1;rw[hR,Z5 h1];conv=>whnf
  exact⟨lr rfl,lh0⟩
theorem i227{a b:Dy}(ha:VD a)(hb:VD b):Fn 30 [] [.agg (dyC a),.agg (dyC b)] (.agg (dyC (yq a b))) []:=by
 have h81:=v81 ha hb;have hR:yq a b=if 0<=qr a b then a else b:=rfl
 generalize yq a b=R at*;generalize qr a b=C at*;clear ha hb;refine fY6 Tryz.func30 rfl ?_;refine gYn h81 ?_;refine brI (fun h1=>?_) (fun h1=>?_)
 .have h1:0<=C:=Z0 h1;rw[hR,Z4 h1];conv=>whnf
  exact⟨lr rfl,lh0⟩
 .have h1:¬0<=C:=Z1 h1;rw[hR,Z5 h1];conv=>whnf
  exact⟨lr rfl,lh0⟩
theorem zi9{a b:Dy}(ha:VD a)(hb:VD b):VD (xn a b):=by unfold xn;split<;>assumption
theorem zi8{a b:Dy}(ha:VD a)(hb:VD b):VD (yq a b):=by unfold yq;split<;>assumption
def kw(x:Iv):Dy:=yq (zax x.lo) (zax x.hi)
def zb9(x:Iv):Dy:=if zln x=0 then d0 else xn (zax x.lo) (zax x.hi)
theorem zdl{x:Iv}(k:KI x):VD (kw x):=zi8 (zdm k.lo) (zdm k.hi)
theorem zk5{x:Iv}(k:KI x):VD (zb9 x):=by
 unfold zb9;split
 .exact vg
 .exact zi9 (zdm k.lo) (zdm k.hi)
theorem zz8{h h':Hp}{b:Bool}:leA h h' (.tup [.agg [.bool false,.nilsl,.int .i64 0],.bool b]) (.tup [.agg (dyC d0),.bool b]):=lt0 (lc qbs (lc (lr rfl) ln0))
theorem i182(x:Iv)(h:RI x):Fn 176 [] [.agg (ivC x)] (.tup [.agg (dyC (if kB x=true then kw x else d0)),.bool (kB x)]) []:=by
 have h126:=zn5 [x] OC (by simpa using h);rw[k1]at h126;by_cases hk:kB x=true
 .have k:=(qh h).1 hk;rw[Z4 hk,hk];rw[hk]at h126;have n1:=qca k.lo;have n2:=qca k.hi;have n3:=i227 (zdm k.lo) (zdm k.hi);have hR:yq (zax x.lo) (zax x.hi)=kw x:=rfl;rw[hR]at n3;generalize kw x=M at*;generalize zax x.lo=a at*;generalize zax x.hi=b at*;clear k hk h hR;refine fY6 Tryz.func176 rfl ?_;refine gYn h126 ?_;refine gYn n1 ?_;refine gYn n2 ?_;refine gYn n3 ?_;refine gYd ?_;exact⟨lr rfl,lh0⟩
 .have hk:kB x=false:=by simpa using hk
  rw[hk,Z5 OC];rw[hk]at h126;clear hk h;refine fY6 Tryz.func176 rfl ?_;refine gYn h126 ?_;exact⟨zz8,lh0⟩
theorem i181(x:Iv)(h:RI x):Fn 175 [] [.agg (ivC x)] (.tup [.agg (dyC (if kB x=true then zb9 x else d0)),.bool (kB x)]) []:=by
 have h126:=zn5 [x] OC (by simpa using h);have h134:=i134 x h;rw[k1]at h126;by_cases hk:kB x=true
 .have k:=(qh h).1 hk;rw[Z4 hk,hk];rw[hk]at h126;have n1:=qca k.lo;have n2:=qca k.hi;have n3:=i226 (zdm k.lo) (zdm k.hi);have hR:zb9 x=if zln x=0 then d0 else xn (zax x.lo) (zax x.hi):=rfl
  generalize zb9 x=M at*;generalize zln x=S at*;generalize xn (zax x.lo) (zax x.hi)=L at*;generalize zax x.lo=a at*;generalize zax x.hi=b at*;clear k hk h;refine fY6 Tryz.func175 rfl ?_;refine gYn h126 ?_;refine gYn h134 ?_;refine brI (fun h1=>?_) (fun h1=>?_)
  .have h1:S=0:=by simpa using h1
   rw[Z4 h1]at hR;subst hR;conv=>whnf
   exact⟨zz8,lh0⟩
  have h1:S≠0:=by simpa using h1
  rw[Z5 h1]at hR;subst hR;conv=>whnf
  refine gYn n1 ?_;refine gYn n2 ?_;refine gYn n3 ?_;refine gYd ?_;exact⟨lr rfl,lh0⟩
 .have hk:kB x=false:=by simpa using hk
  rw[hk,Z5 OC];rw[hk]at h126;clear hk h h134;refine fY6 Tryz.func175 rfl ?_;refine gYn h126 ?_;exact⟨zz8,lh0⟩
def zya(x:Iv):Iv:=if kB x=true then⟨zb9 x,kw x,false⟩else wI0
theorem i137(x:Iv)(h:RI x):Fn 141 [] [.agg (ivC x)] (.agg (ivC (zya x))) []:=by
 have h126:=zn5 [x] OC (by simpa using h);rw[k1]at h126;have n1:=i181 x h;have n2:=i182 x h;have h25:=i25;rw[e25]at h25;have hR:zya x=if kB x=true then⟨zb9 x,kw x,false⟩else wI0:=rfl
 generalize zya x=R at*;generalize kB x=K at*
 cases K with
 |true=>
  rw[Z4 rfl]at hR n1 n2;generalize kw x=a at*;generalize zb9 x=b at*;subst hR;clear h;refine fY6 Tryz.func141 rfl ?_;refine gYn h126 ?_;refine gYn n1 ?_;refine gYn n2 ?_;exact⟨lr rfl,lh0⟩
 |false=>
  rw[Z5 OC]at hR;subst hR;clear h n1 n2;refine fY6 Tryz.func141 rfl ?_;refine gYn h126 ?_;refine gYn h25 ?_;exact⟨lr rfl,lh0⟩
def zfu(x y:Iv):Iv:=if(kB x&&kB y)=true then⟨xn x.lo y.lo,yq x.hi y.hi,false⟩else wI0
theorem i201(x y:Iv)(hx:RI x)(hy:RI y):Fn 194 [] [.agg (ivC x),.agg (ivC y)] (.agg (ivC (zfu x y))) []:=by
 have h126:=zn5 [x,y] OC (by simpa using⟨hx,hy⟩);rw[k2]at h126;have h25:=i25;rw[e25]at h25;have hR:zfu x y=if(kB x&&kB y)=true then⟨xn x.lo y.lo,yq x.hi y.hi,false⟩else wI0:=rfl
 generalize zfu x y=R at*;by_cases hk:(kB x&&kB y)=true
 .rw[hk]at h126;rw[Z4 hk]at hR;rw[Bool.and_eq_true]at hk;have kx:=(qh hx).1 hk.1;have ky:=(qh hy).1 hk.2;have n1:=i226 kx.lo ky.lo;have n2:=i227 kx.hi ky.hi;generalize xn x.lo y.lo=a at*;generalize yq x.hi y.hi=b at*;subst hR;clear kx ky hx hy hk;refine fY6 Tryz.func194 rfl ?_;refine gYn h126 ?_;refine gYn n1 ?_;refine gYn n2 ?_;refine gYd ?_;exact⟨lr rfl,lh0⟩
 .rw[Z5 hk]at hR;rw[show(kB x&&kB y)=false by simpa using hk]at h126;subst hR;clear hx hy hk;refine fY6 Tryz.func194 rfl ?_;refine gYn h126 ?_;refine gYn h25 ?_;exact⟨lr rfl,lh0⟩
def wq(x:Iv)(k:Int):Iv:=if kB x=true then wm (wa x.lo k) (wa x.hi k)else wI0
theorem i191(x:Iv)(h:RI x)(k:Int):Fn 185 G0 [.agg (ivC x),.int .i64 k] (.agg (ivC (wq x k))) G0:=by
 have h126:=zn5 [x] OC (by simpa using h);rw[k1]at h126;have h25:=i25;rw[e25]at h25;have hR:wq x k=if kB x=true then wm (wa x.lo k) (wa x.hi k)else wI0:=rfl
 generalize wq x k=R at*;by_cases hk:kB x=true
 .rw[hk]at h126;rw[Z4 hk]at hR;have kx:=(qh h).1 hk;have n1:=v230 kx.lo k;have n2:=v230 kx.hi k;have n3:=qbu (wa x.lo k) (wa x.hi k);rw[<-hR]at n3;generalize wa x.lo k=a at*;generalize wa x.hi k=b at*;clear kx h hk hR;obtain⟨⟨a1,a2,a3⟩,e⟩:=a;obtain⟨⟨b1,b2,b3⟩,f⟩:=b;refine fY6 Tryz.func185 rfl ?_;refine gYn h126 ?_;refine gYc n1 ?_;refine gYc n2 ?_;refine gYn n3 ?_;exact⟨lr rfl,leG⟩
 .rw[Z5 hk]at hR;rw[show kB x=false by simpa using hk]at h126;subst hR;clear h hk;refine fY6 Tryz.func185 rfl ?_;refine gYn h126 ?_;refine gYn h25 ?_;exact⟨lr rfl,leG⟩
def vh(x:Iv)(p:Int):Iv:=if kB x=true/\pcB p=true then wm (qp x.lo p.toNat false) (qp x.hi p.toNat true)else wI0
theorem qd1(x:Iv)(h:RI x)(p:Int):Fn 183 G0 [.agg (ivC x),.int .i64 p] (.agg (ivC (vh x p))) G0:=by
 have h126:=zn5 [x] OC (by simpa using h);rw[k1]at h126;have h127:=zxy p;have h25:=i25;rw[e25]at h25;have hR:vh x p=if kB x=true/\pcB p=true then wm (qp x.lo p.toNat false) (qp x.hi p.toNat true)else wI0:=rfl
 generalize vh x p=R at*;by_cases hk:kB x=true
 .rw[hk]at h126;by_cases hp:pcB p=true
  .rw[hp]at h127;rw[Z4 ⟨hk,hp⟩]at hR;have kx:=(qh h).1 hk;obtain⟨q,rfl,hq⟩:=xm.1 hp;rw[q0]at hR;have n1:=v185 kx.lo q hq;have n2:=v184 kx.hi q hq;have n3:=qbu (qp x.lo q false) (qp x.hi q true);rw[<-hR]at n3;generalize qp x.lo q false=a at*;generalize qp x.hi q true=b at*;clear kx h hk hR;obtain⟨⟨a1,a2,a3⟩,e⟩:=a;obtain⟨⟨b1,b2,b3⟩,f⟩:=b;refine fY6 Tryz.func183 rfl ?_;refine gYn h126 ?_;refine gYn h127 ?_;refine gYc n1 ?_;refine gYc n2 ?_;refine gYn n3 ?_;exact⟨lr rfl,leG⟩
  .rw[Z5 fun c=>hp c.2]at hR;rw[show pcB p=false by simpa using hp]at h127;subst hR;clear h hk hp;refine fY6 Tryz.func183 rfl ?_;refine gYn h126 ?_;refine gYn h127 ?_;refine gYn h25 ?_;exact⟨lr rfl,leG⟩
 .rw[Z5 fun c=>hk c.1]at hR;rw[show kB x=false by simpa using hk]at h126;subst hR;clear h hk;refine fY6 Tryz.func183 rfl ?_;refine gYn h126 ?_;refine gYn h25 ?_;exact⟨lr rfl,leG⟩
theorem qc1{a b:Dy}(h:0<wb a)(hc:qr a b<=0):b.neg=false:=by
 rw[zmo a (min a.e b.e)]at h;unfold qr zr5 at hc;unfold zr5 at h;have hb:0<zi b (min a.e b.e):=by
  generalize zi a (min a.e b.e)=x at*;generalize zi b (min a.e b.e)=y at*;split at h
  .omega
  .split at h
   .split at hc
    .omega
    .split at hc<;>omega
   .omega
 unfold zi at hb
 cases hn:b.neg with
 |false=>rfl
 |true=>rw[Z4 hn]at hb;omega
theorem zzg{a:Dy}(h:0<wb a):a.neg=false:=by
 unfold wb at h;split at h
 .omega
 .cases hn:a.neg with
  |false=>rfl
  |true=>rw[Z4 hn]at h;omega
def zji(x:Iv)(p:Int):Iv:=if kB x=true/\pcB p=true/\0<wb x.lo then wm (xt x.lo p.toNat false) (xt x.hi p.toNat true)else wI0
theorem i92(x:Iv)(h:RI x)(p:Int):Fn 106 G0 [.agg (ivC x),.int .i64 p] (.agg (ivC (zji x p))) G0:=by
 have h126:=zn5 [x] OC (by simpa using h);rw[k1]at h126;have h127:=zxy p;have h25:=i25;rw[e25]at h25;have hR:zji x p=if kB x=true/\pcB p=true/\0<wb x.lo then wm (xt x.lo p.toNat false) (xt x.hi p.toNat true)else wI0:=rfl
 generalize zji x p=R at*;by_cases hk:kB x=true
 .rw[hk]at h126;have kx:=(qh h).1 hk;have h124:=zql kx.lo;by_cases hp:pcB p=true
  .rw[hp]at h127;by_cases hs:0<wb x.lo
   .rw[Z4 ⟨hk,hp,hs⟩]at hR;obtain⟨q,rfl,hq⟩:=xm.1 hp;rw[q0]at hR;have n1:=v145 kx.lo (zzg hs) q hq;have n2:=v146 kx.hi (qc1 hs kx.le) q hq;have n3:=qbu (xt x.lo q false) (xt x.hi q true);rw[<-hR]at n3;generalize xt x.lo q false=a at*;generalize xt x.hi q true=b at*;generalize wb x.lo=S at*;clear kx h hk hR;obtain⟨⟨a1,a2,a3⟩,e⟩:=a;obtain⟨⟨b1,b2,b3⟩,f⟩:=b;refine fY6 Tryz.func106 rfl ?_;refine gYn h126 ?_;refine gYn h127 ?_;refine gYn h124 ?_;refine brI (fun h1=>?_) (fun h1=>?_)
    .have h1:S<=0:=Z0 h1;omega
    conv=>whnf
    refine gYc n1 ?_;refine gYc n2 ?_;refine gYn n3 ?_;exact⟨lr rfl,leG⟩
   .rw[Z5 fun c=>hs c.2.2]at hR;subst hR;generalize wb x.lo=S at*;clear h hk kx;refine fY6 Tryz.func106 rfl ?_;refine gYn h126 ?_;refine gYn h127 ?_;refine gYn h124 ?_;refine brI (fun h1=>?_) (fun h1=>?_)
    rotate_left
    .have h1:¬S<=0:=Z1 h1;omega
    conv=>whnf
    refine gYn h25 ?_;exact⟨lr rfl,leG⟩
  .rw[Z5 fun c=>hp c.2.1]at hR;rw[show pcB p=false by simpa using hp]at h127;subst hR;clear h hk hp kx h124;refine fY6 Tryz.func106 rfl ?_;refine gYn h126 ?_;refine gYn h127 ?_;refine gYn h25 ?_;exact⟨lr rfl,leG⟩
 .rw[Z5 fun c=>hk c.1]at hR;rw[show kB x=false by simpa using hk]at h126;subst hR;clear h hk;refine fY6 Tryz.func106 rfl ?_;refine gYn h126 ?_;refine gYn h25 ?_;exact⟨lr rfl,leG⟩
def zgw(d:Dy)(p:Nat)(up:Bool):Nat->Dy×Int->Dy×Int
 |0,r=>r
 |k+1,r=>if r.2=0 then zgw d p up k (jr r.1 d p up)else r
def zjb(d:Dy)(n p:Nat)(up:Bool):Dy×Int:=zgw d p up (n-1) (qp d p up)
theorem zo7(d:Dy)(p:Nat)(up:Bool)(hp:8<=p/\p<=512):∀k r,VD r.1->VD (zgw d p up k r).1
 |0,r,h=>h
 |k+1,r,h=>by
  simp only[zgw];split
  .exact zo7 d p up hp k _ (ul _ _ _ _ hp)
  .exact h
theorem zud(d:Dy)(n p:Nat)(up:Bool)(hp:8<=p/\p<=512):VD (zjb d n p up).1:=zo7 d p up hp _ _ (jq _ _ _ hp)
theorem i183t{d:Dy}(hd:VD d)(n p:Nat)(hn:1<=n/\n<=16)(hp:8<=p/\p<=512):Fn 177 G0 [.agg (dyC d),.int .i64 n,.int .i64 p,.fn 178 [],.fn 137 []] (dyV (zjb d n p true)) G0:=by
 have h0:=v184 hd p hp;have hm:∀a,VD a->Fn 137 G0 [.agg (dyC a),.agg (dyC d),.int .i64 p] (dyV (jr a d p true)) G0:=fun a ha=>qbm ha hd p hp
 have hv0:=jq d true p hp;obtain⟨R,hR⟩:∃R,zjb d n p true=R:=⟨_,rfl⟩;rw[hR];unfold zjb at hR;generalize qp d p true=r0 at*;obtain⟨d1,d2,d3⟩:=d;have hm:∀a,VD a->Fn 137 G0 [.agg (dyC a),.agg [.bool d1,.sl .u32 d2,.int .i64 d3],.int .i64 p] (dyV (jr a ⟨d1,d2,d3⟩ p true)) G0:=hm;obtain⟨⟨a1,a2,a3⟩,e0⟩:=r0;have h0:Fn 178 G0 [.agg [.bool d1,.sl .u32 d2,.int .i64 d3],.int .i64 p] (dyV (⟨a1,a2,a3⟩,e0)) G0:=h0;show Fn 177 G0 [.agg [.bool d1,.sl .u32 d2,.int .i64 d3],.int .i64 n,.int .i64 p,.fn 178 [],.fn 137 []] _ G0;refine fY6 Tryz.func177 rfl ?_;refine gYc h0 ?_;refine⟨Nat×Dy×Int,fun s=>(1<=s.1/\s.1<=n)/\VD s.2.1/\zgw ⟨d1,d2,d3⟩ p true (n-s.1) s.2=R,fun s=> [(14,.int .i64 s.1),(13,.int .i64 s.2.2)],fun s=> [(12,.cells (dyC s.2.1))],fun s=>n-s.1,(1,⟨a1,a2,a3⟩,e0),?_,?_,fun s hs=>?_⟩
 .exact⟨⟨OC,hn.1⟩,hv0,hR⟩
 .exact KZ0
 obtain⟨k,⟨r1,r2,r3⟩,e⟩:=s;obtain⟨⟨h1,h2⟩,h3,h4⟩:=hs;simp only at h1 h2 h3 h4;refine gYe ?_;refine brI (fun k1=>?_) (fun k1=>?_)
 .have k1:k<n:=by simp only[Z2]at k1;omega
  obtain⟨j,hj⟩:∃j,n-k=j+1:=⟨n-k-1,O⟩;rw[hj]at h4;simp only[zgw]at h4;conv=>whnf
  refine brI (fun k2=>?_) (fun k2=>?_)
  .have k2:e=0:=by simpa using k2
   rw[Z4 k2]at h4;have hmm:Fn 137 G0 [.agg [.bool r1,.sl .u32 r2,.int .i64 r3],.agg [.bool d1,.sl .u32 d2,.int .i64 d3],.int .i64 p] (dyV (jr ⟨r1,r2,r3⟩ ⟨d1,d2,d3⟩ p true)) G0:=hm _ h3;have hvm:=ul ⟨r1,r2,r3⟩ ⟨d1,d2,d3⟩ true p hp;generalize jr ⟨r1,r2,r3⟩ ⟨d1,d2,d3⟩ p true=M at*;obtain⟨⟨m1,m2,m3⟩,f⟩:=M;conv=>whnf
   refine gYc hmm ?_;refine⟨(k+1,⟨m1,m2,m3⟩,f),⟨⟨OD,OD⟩,hvm,by simp only;rw[(O:n-(k+1)=j)];exact h4⟩,by show n-(k+1)<n-k;omega,?_⟩;exact KZ0
  .have k2:e≠0:=by simpa using k2
   rw[Z5 k2]at h4;subst h4;conv=>whnf
   exact⟨lr rfl,leG⟩
 .have k1:¬k<n:=by simp only[Z3]at k1;omega
  rw[(O:n-k=0)]at h4;simp only[zgw]at h4;subst h4;conv=>whnf
  exact⟨lr rfl,leG⟩
theorem i183f{d:Dy}(hd:VD d)(n p:Nat)(hn:1<=n/\n<=16)(hp:8<=p/\p<=512):Fn 177 G0 [.agg (dyC d),.int .i64 n,.int .i64 p,.fn 179 [],.fn 136 []] (dyV (zjb d n p false)) G0:=by
 have h0:=v185 hd p hp;have hm:∀a,VD a->Fn 136 G0 [.agg (dyC a),.agg (dyC d),.int .i64 p] (dyV (jr a d p false)) G0:=fun a ha=>qbn ha hd p hp
 have hv0:=jq d false p hp;obtain⟨R,hR⟩:∃R,zjb d n p false=R:=⟨_,rfl⟩;rw[hR];unfold zjb at hR;generalize qp d p false=r0 at*;obtain⟨d1,d2,d3⟩:=d;have hm:∀a,VD a->Fn 136 G0 [.agg (dyC a),.agg [.bool d1,.sl .u32 d2,.int .i64 d3],.int .i64 p] (dyV (jr a ⟨d1,d2,d3⟩ p false)) G0:=hm;obtain⟨⟨a1,a2,a3⟩,e0⟩:=r0;have h0:Fn 179 G0 [.agg [.bool d1,.sl .u32 d2,.int .i64 d3],.int .i64 p] (dyV (⟨a1,a2,a3⟩,e0)) G0:=h0;show Fn 177 G0 [.agg [.bool d1,.sl .u32 d2,.int .i64 d3],.int .i64 n,.int .i64 p,.fn 179 [],.fn 136 []] _ G0;refine fY6 Tryz.func177 rfl ?_;refine gYc h0 ?_;refine⟨Nat×Dy×Int,fun s=>(1<=s.1/\s.1<=n)/\VD s.2.1/\zgw ⟨d1,d2,d3⟩ p false (n-s.1) s.2=R,fun s=> [(14,.int .i64 s.1),(13,.int .i64 s.2.2)],fun s=> [(12,.cells (dyC s.2.1))],fun s=>n-s.1,(1,⟨a1,a2,a3⟩,e0),?_,?_,fun s hs=>?_⟩
 .exact⟨⟨OC,hn.1⟩,hv0,hR⟩
 .exact KZ0
 obtain⟨k,⟨r1,r2,r3⟩,e⟩:=s;obtain⟨⟨h1,h2⟩,h3,h4⟩:=hs;simp only at h1 h2 h3 h4;refine gYe ?_;refine brI (fun k1=>?_) (fun k1=>?_)
 .have k1:k<n:=by simp only[Z2]at k1;omega
  obtain⟨j,hj⟩:∃j,n-k=j+1:=⟨n-k-1,O⟩;rw[hj]at h4;simp only[zgw]at h4;conv=>whnf
  refine brI (fun k2=>?_) (fun k2=>?_)
  .have k2:e=0:=by simpa using k2
   rw[Z4 k2]at h4;have hmm:Fn 136 G0 [.agg [.bool r1,.sl .u32 r2,.int .i64 r3],.agg [.bool d1,.sl .u32 d2,.int .i64 d3],.int .i64 p] (dyV (jr ⟨r1,r2,r3⟩ ⟨d1,d2,d3⟩ p false)) G0:=hm _ h3;have hvm:=ul ⟨r1,r2,r3⟩ ⟨d1,d2,d3⟩ false p hp;generalize jr ⟨r1,r2,r3⟩ ⟨d1,d2,d3⟩ p false=M at*;obtain⟨⟨m1,m2,m3⟩,f⟩:=M;conv=>whnf
   refine gYc hmm ?_;refine⟨(k+1,⟨m1,m2,m3⟩,f),⟨⟨OD,OD⟩,hvm,by simp only;rw[(O:n-(k+1)=j)];exact h4⟩,by show n-(k+1)<n-k;omega,?_⟩;exact KZ0
  .have k2:e≠0:=by simpa using k2
   rw[Z5 k2]at h4;subst h4;conv=>whnf
   exact⟨lr rfl,leG⟩
 .have k1:¬k<n:=by simp only[Z3]at k1;omega
  rw[(O:n-k=0)]at h4;simp only[zgw]at h4;subst h4;conv=>whnf
  exact⟨lr rfl,leG⟩
def zi6(d:Dy)(n p:Nat)(up:Bool):Dy×Int:=if wb d<0 then(xy (zjb (xy d) n p (!up)).1,(zjb (xy d) n p (!up)).2)else zjb d n p up
theorem zy3(d:Dy):wb (xy d)= -wb d:=by
 unfold wb xy;by_cases h:nm d=0
 .rw[Z4 h,Z4 h];rfl
 .rw[Z5 h,Z5 h];have h2:nm ⟨!d.neg,d.m,d.e⟩=nm d:=rfl;rw[h2,Z5 h];cases d.neg<;>rfl
theorem qd2{d:Dy}(hd:VD d)(hs:¬wb d<0)(n p:Nat)(hn:1<=n/\n<=16)(hp:8<=p/\p<=512)(up:Bool):Fn 142 G0 [.agg (dyC d),.int .i64 n,.int .i64 p,.bool up] (dyV (zjb d n p up)) G0:=by
 have h1:=i183t hd n p hn hp;have h2:=i183f hd n p hn hp;have h124:=zql hd;generalize zjb d n p=F at*;generalize wb d=S at*;clear hd
 cases up with
 |true=>
  generalize F true=R at*;obtain⟨⟨r1,r2,r3⟩,e⟩:=R;refine fY6 Tryz.func142 rfl ?_;refine gYn h124 ?_;refine brI (fun k1=>?_) (fun k1=>?_)
  .exact absurd (Z0 k1) hs
  conv=>whnf
  refine gYc h1 ?_;exact⟨lr rfl,leG⟩
 |false=>
  generalize F false=R at*;obtain⟨⟨r1,r2,r3⟩,e⟩:=R;refine fY6 Tryz.func142 rfl ?_;refine gYn h124 ?_;refine brI (fun k1=>?_) (fun k1=>?_)
  .exact absurd (Z0 k1) hs
  conv=>whnf
  refine gYc h2 ?_;exact⟨lr rfl,leG⟩
theorem i138{d:Dy}(hd:VD d)(n p:Nat)(hn:1<=n/\n<=16)(hp:8<=p/\p<=512)(up:Bool):Fn 142 G0 [.agg (dyC d),.int .i64 n,.int .i64 p,.bool up] (dyV (zi6 d n p up)) G0:=by
 by_cases hs:wb d<0
 .have hR:zi6 d n p up=(xy (zjb (xy d) n p (!up)).1,(zjb (xy d) n p (!up)).2):=by unfold zi6;rw[Z4 hs]
  rw[hR];have h124:=zql hd;have h135:Fn 139 [] [.agg (dyC d)] (.agg (dyC (xy d))) []:=zyo hd;have h138:=qd2 (zdk hd) (by rw[zy3];omega) n p hn hp (!up);have hv:=zud (xy d) n p (!up) hp;have h135b:Fn 139 [] [.agg (dyC (zjb (xy d) n p (!up)).1)] (.agg (dyC (xy (zjb (xy d) n p (!up)).1))) []:=zyo hv;generalize zjb (xy d) n p (!up)=P at*;generalize xy d=N at*;generalize wb d=S at*;generalize xy P.1=Q at*;clear hd hv hR;obtain⟨⟨r1,r2,r3⟩,e⟩:=P;refine fY6 Tryz.func142 rfl ?_;refine gYn h124 ?_;refine brI (fun k1=>?_) (fun k1=>?_)
  rotate_left
  .exact absurd hs (Z1 k1)
  conv=>whnf
  refine gYn h135 ?_;refine gYc h138 ?_;refine gYn h135b ?_;exact⟨lr rfl,leG⟩
 .have hR:zi6 d n p up=zjb d n p up:=by unfold zi6;rw[Z5 hs]
  rw[hR];exact qd2 hd hs n p hn hp up
theorem zyc(d:Dy)(n p:Nat)(up:Bool)(hp:8<=p/\p<=512):VD (zi6 d n p up).1:=by
 unfold zi6;split
 .exact zdk (zud _ _ _ _ hp)
 .exact zud _ _ _ _ hp
def pwK(x:Iv)(n p:Nat):Iv:=wm (zi6 x.lo n p false) (zi6 x.hi n p true)
def zxl(x:Iv)(n p:Int):Iv:=
 if kB x=true/\pcB p=true/\0<=n/\n<=16 then(if n=0 then vp (kr 1)else pwK (if n % 2=0 then zya x else x) n.toNat p.toNat)else wI0
theorem zx9{x:Iv}(hk:kB x=true):zya x=⟨zb9 x,kw x,false⟩:=by unfold zya;rw[Z4 hk]
theorem kq(n:Int)(h: -4611686018427387904<=n/\n<=4611686018427387904):VD (kr n):=by
 unfold kr;have hb:bl n.natAbs<=64:=jo.2 (by show n.natAbs<18446744073709551616;omega);exact zk6 (zn4 O O O)
theorem i87(x:Iv)(h:RI x)(n p:Int):Fn 101 G0 [.agg (ivC x),.int .i64 n,.int .i64 p] (.agg (ivC (zxl x n p))) G0:=by
 have h126:=zn5 [x] OC (by simpa using h);rw[k1]at h126;have h127:=zxy p;have h25:=i25;rw[e25]at h25;have hR:zxl x n p=if kB x=true/\pcB p=true/\0<=n/\n<=16 then(if n=0 then vp (kr 1)else pwK (if n % 2=0 then zya x else x) n.toNat p.toNat)else wI0:=rfl
 generalize zxl x n p=R at*;by_cases hk:kB x=true
 rotate_left
 .rw[Z5 fun c=>hk c.1]at hR;rw[show kB x=false by simpa using hk]at h126;subst hR;clear h hk;refine fY6 Tryz.func101 rfl ?_;refine gYn h126 ?_;refine gYn h25 ?_;exact⟨lr rfl,leG⟩
 rw[hk]at h126;by_cases hp:pcB p=true
 rotate_left
 .rw[Z5 fun c=>hp c.2.1]at hR;rw[show pcB p=false by simpa using hp]at h127;subst hR;clear h hk;refine fY6 Tryz.func101 rfl ?_;refine gYn h126 ?_;refine gYn h127 ?_;refine gYn h25 ?_;exact⟨lr rfl,leG⟩
 rw[hp]at h127;by_cases hn:0<=n/\n<=16
 rotate_left
 .rw[Z5 fun c=>hn c.2.2]at hR;subst hR;clear h hk;refine fY6 Tryz.func101 rfl ?_;refine gYn h126 ?_;refine gYn h127 ?_;refine brI (fun k1=>?_) (fun k1=>?_)
  .conv=>whnf
   refine gYn h25 ?_;exact⟨lr rfl,leG⟩
  have k1:¬n<0:=Z1 k1;conv=>whnf
  refine brI (fun k2=>?_) (fun k2=>?_)
  .conv=>whnf
   refine gYn h25 ?_;exact⟨lr rfl,leG⟩
  have k2:¬16<n:=Z1 k2;omega
 rw[Z4 ⟨hk,hp,hn⟩]at hR;obtain⟨N,rfl⟩:=Int.eq_ofNat_of_zero_le hn.1;by_cases h0:N=0
 .subst h0;rw[Z4 (by rfl)]at hR;have h77:=v77 1 OA;have h136:=qbt (kq 1 OA);generalize kr 1=I1 at*;rw[<-hR]at h136;clear h hk hR;refine fY6 Tryz.func101 rfl ?_;refine gYn h126 ?_;refine gYn h127 ?_;refine gYc h77 ?_;refine gYn h136 ?_;exact⟨lr rfl,leG⟩
 rw[Z5 O,q0]at hR;have kx:=(qh h).1 hk;obtain⟨q,rfl,hq⟩:=xm.1 hp;rw[q0]at hR;have hcase:∀y:Iv,VD y.lo->VD y.hi->R=pwK y N q->
  Fn 142 G0 [.agg (dyC y.lo),.int .i64 N,.int .i64 q,.bool false] (dyV (zi6 y.lo N q false)) G0/\Fn 142 G0 [.agg (dyC y.hi),.int .i64 N,.int .i64 q,.bool true] (dyV (zi6 y.hi N q true)) G0/\
  Fn 134 [] [.agg (dyC (zi6 y.lo N q false).1),.int .i64 (zi6 y.lo N q false).2,.agg (dyC (zi6 y.hi N q true).1),.int .i64 (zi6 y.hi N q true).2] (.agg (ivC R)) []:=by
  intro y hl hh e;refine⟨i138 hl N q O hq false,i138 hh N q O hq true,?_⟩;rw[e];exact qbu _ _
 have hmod:((N:Int).tmod 2==0)=decide ((N:Int) % 2=0):=by
  have:(N:Int).tmod 2=((N % 2:Nat):Int):=(Int.ofNat_tmod N 2).symm;rw[this,Bool.eq_iff_iff,beq_iff_eq,Z2];omega
 by_cases he:(N:Int) % 2=0
 .rw[Z4 he,zx9 hk]at hR;rw[Z6 he]at hmod;have h137:=i137 x h;rw[zx9 hk]at h137;obtain⟨n1,n2,n3⟩:=hcase _ (zk5 kx) (zdl kx) hR;simp only at n1 n2 n3;generalize zi6 (zb9 x) N q false=A at*;generalize zi6 (kw x) N q true=B at*;generalize zb9 x=L at*;generalize kw x=U at*;clear hcase hR kx h hk;obtain⟨⟨a1,a2,a3⟩,e⟩:=A;obtain⟨⟨b1,b2,b3⟩,f⟩:=B;refine fY6 Tryz.func101 rfl ?_;refine gYn h126 ?_;refine gYn h127 ?_;refine brI (fun k2=>?_) (fun k2=>?_)
  .have k2:=Z0 k2;omega
  conv=>whnf
  refine brI (fun k3=>?_) (fun k3=>?_)
  .have k3:(N:Int)=0:=by simpa using k3
   omega
  conv=>whnf
  refine⟨OA,?_⟩;conv=>whnf
  refine brI (fun k4=>?_) (fun k4=>?_)
  rotate_left
  .have k4:((N:Int).tmod 2==0)=false:=k4;rw[hmod]at k4;cases k4
  conv=>whnf
  refine gYn h137 ?_;refine gYc n1 ?_;refine gYc n2 ?_;refine gYn n3 ?_;exact⟨lr rfl,leG⟩
 .rw[Z5 he]at hR;rw[Z7 he]at hmod;obtain⟨n1,n2,n3⟩:=hcase _ kx.lo kx.hi hR;generalize zi6 x.lo N q false=A at*;generalize zi6 x.hi N q true=B at*;clear hcase hR kx h hk;obtain⟨⟨a1,a2,a3⟩,e⟩:=A;obtain⟨⟨b1,b2,b3⟩,f⟩:=B;refine fY6 Tryz.func101 rfl ?_;refine gYn h126 ?_;refine gYn h127 ?_;refine brI (fun k2=>?_) (fun k2=>?_)
  .have k2:=Z0 k2;omega
  conv=>whnf
  refine brI (fun k3=>?_) (fun k3=>?_)
  .have k3:(N:Int)=0:=by simpa using k3
   omega
  conv=>whnf
  refine⟨OA,?_⟩;conv=>whnf
  refine brI (fun k4=>?_) (fun k4=>?_)
  .have k4:((N:Int).tmod 2==0)=true:=k4;rw[hmod]at k4;cases k4
  conv=>whnf
  refine gYc n1 ?_;refine gYc n2 ?_;refine gYn n3 ?_;exact⟨lr rfl,leG⟩
