/- Intervals: less, more, magnitudes, Abs, Hull, Scale, Round, Sqrt, Width. -/
import Derived.Test.YtbolipecnhlnnaaGreatDoorLYu
set_option linter.all false
open And renaming intro->q0
open Bool renaming and_eq_true->q2
open Int renaming toNat_natCast->q1
namespace Go.Proofs.YtbolipecnhlnnaaGreatDoor
open Go Go.Sx
set_option maxRecDepth 100000
set_option maxHeartbeats 8000000
def za0(a b:Dy):Dy:=if qh a b<=0 then a else b
def xc(a b:Dy):Dy:=if 0<=qh a b then a else b
theorem i226{a b:Dy}(ha:VD a)(hb:VD b):Fn 238 [] [.agg (dyC a),.agg (dyC b)] (.agg (dyC (za0 a b))) []:=by
 have h81:=v81 ha hb;have hR:za0 a b=if qh a b<=0 then a else b:=rfl
 generalize za0 a b=R at*;generalize qh a b=C at*;clear ha hb;refine fZ6 Tryz.func238 rfl rfl ?_;conv=>whnf
 refine gZn h81 ?_;conv=>whnf
 refine brI (fun h1=>?_) (fun h1=>?_)
 .have h1:C<=0:=Z0 h1;rw[hR,Z4 h1];conv=>whnf
  exact⟨lr rfl,lh0⟩
 .have h1:¬C<=0:=Z1 h1;rw[hR,Z5 h1];conv=>whnf
  exact⟨lr rfl,lh0⟩
theorem i227{a b:Dy}(ha:VD a)(hb:VD b):Fn 237 [] [.agg (dyC a),.agg (dyC b)] (.agg (dyC (xc a b))) []:=by
 have h81:=v81 ha hb;have hR:xc a b=if 0<=qh a b then a else b:=rfl
 generalize xc a b=R at*;generalize qh a b=C at*;clear ha hb;refine fZ6 Tryz.func237 rfl rfl ?_;conv=>whnf
 refine gZn h81 ?_;conv=>whnf
 refine brI (fun h1=>?_) (fun h1=>?_)
 .have h1:0<=C:=Z0 h1;rw[hR,Z4 h1];conv=>whnf
  exact⟨lr rfl,lh0⟩
 .have h1:¬0<=C:=Z1 h1;rw[hR,Z5 h1];conv=>whnf
  exact⟨lr rfl,lh0⟩
theorem zov{a b:Dy}(ha:VD a)(hb:VD b):VD (za0 a b):=by unfold za0;split<;>assumption
theorem zid{a b:Dy}(ha:VD a)(hb:VD b):VD (xc a b):=by unfold xc;split<;>assumption
def zdn(x:Iv):Dy:=xc (zge x.lo) (zge x.hi)
def migD(x:Iv):Dy:=if zig x=0 then d0 else za0 (zge x.lo) (zge x.hi)
theorem zjx{x:Iv}(k:KI x):VD (zdn x):=zid (zqy k.lo) (zqy k.hi)
theorem leD0b{h h':Hp}{b:Bool}:leA h h' (.tup [.agg [.bool false,.nilsl,.int .i64 0],.bool b]) (.tup [.agg (dyC d0),.bool b]):=lt0 (lc qdl (lc (lr rfl) ln0))
theorem i182(x:Iv)(h:RI x):Fn 205 [] [.agg (ivC x)] (.tup [.agg (dyC (if kB x=true then zdn x else d0)),.bool (kB x)]) []:=by
 have h126:=zyp [x] OC (by simpa using h);rw[k1]at h126;by_cases hk:kB x=true
 .have k:=(qb h).1 hk;rw[Z4 hk,hk];rw[hk]at h126;have n1:=v186 k.lo;have n2:=v186 k.hi;have n3:=i227 (zqy k.lo) (zqy k.hi);have hR:xc (zge x.lo) (zge x.hi)=zdn x:=rfl;rw[hR]at n3;generalize zdn x=M at*;generalize zge x.lo=a at*;generalize zge x.hi=b at*;clear k hk h hR;refine fZ6 Tryz.func205 rfl rfl ?_;conv=>whnf
  refine gZn h126 ?_;conv=>whnf
  refine gZn n1 ?_;conv=>whnf
  refine gZn n2 ?_;conv=>whnf
  refine gZn n3 ?_;conv=>whnf
  (refine⟨Z,Z,?_⟩;(conv=>whnf))
  exact⟨lr rfl,lh0⟩
 .have hk:kB x=false:=by simpa using hk
  rw[hk,Z5 OC];rw[hk]at h126;clear hk h;refine fZ6 Tryz.func205 rfl rfl ?_;conv=>whnf
  refine gZn h126 ?_;conv=>whnf
  exact⟨leD0b,lh0⟩
def zbr(x y:Iv):Iv:=if(kB x&&kB y)=true then⟨za0 x.lo y.lo,xc x.hi y.hi,false⟩else wI0
theorem i201(x y:Iv)(hx:RI x)(hy:RI y):Fn 165 [] [.agg (ivC x),.agg (ivC y)] (.agg (ivC (zbr x y))) []:=by
 have h126:=zyp [x,y] OC (by simpa using⟨hx,hy⟩);rw[k2]at h126;have h25:=i25;rw[e25]at h25;have hR:zbr x y=if(kB x&&kB y)=true then⟨za0 x.lo y.lo,xc x.hi y.hi,false⟩else wI0:=rfl
 generalize zbr x y=R at*;by_cases hk:(kB x&&kB y)=true
 .rw[hk]at h126;rw[Z4 hk]at hR;rw[q2]at hk;have kx:=(qb hx).1 hk.1;have ky:=(qb hy).1 hk.2;have n1:=i226 kx.lo ky.lo;have n2:=i227 kx.hi ky.hi;generalize za0 x.lo y.lo=a at*;generalize xc x.hi y.hi=b at*;subst hR;clear kx ky hx hy hk;refine fZ6 Tryz.func165 rfl rfl ?_;conv=>whnf
  refine gZn h126 ?_;conv=>whnf
  refine gZn n1 ?_;conv=>whnf
  refine gZn n2 ?_;conv=>whnf
  (refine⟨Z,Z,?_⟩;(conv=>whnf))
  exact⟨lr rfl,lh0⟩
 .rw[Z5 hk]at hR;rw[show(kB x&&kB y)=false by simpa using hk]at h126;subst hR;clear hx hy hk;refine fZ6 Tryz.func165 rfl rfl ?_;conv=>whnf
  refine gZn h126 ?_;conv=>whnf
  refine gZn h25 ?_;conv=>whnf
  exact⟨lr rfl,lh0⟩
def zn(x:Iv)(k:Int):Iv:=if kB x=true then jc (qg x.lo k) (qg x.hi k)else wI0
theorem i191(x:Iv)(h:RI x)(k:Int):Fn 130 G0 [.agg (ivC x),.int .i64 k] (.agg (ivC (zn x k))) G0:=by
 have h126:=zyp [x] OC (by simpa using h);rw[k1]at h126;have h25:=i25;rw[e25]at h25;have hR:zn x k=if kB x=true then jc (qg x.lo k) (qg x.hi k)else wI0:=rfl
 generalize zn x k=R at*;by_cases hk:kB x=true
 .rw[hk]at h126;rw[Z4 hk]at hR;have kx:=(qb h).1 hk;have n1:=v230 kx.lo k;have n2:=v230 kx.hi k;have n3:=i130 (qg x.lo k) (qg x.hi k);rw[<-hR]at n3;generalize qg x.lo k=a at*;generalize qg x.hi k=b at*;clear kx h hk hR;obtain⟨⟨a1,a2,a3⟩,e⟩:=a;obtain⟨⟨b1,b2,b3⟩,f⟩:=b;refine fZ6 Tryz.func130 rfl rfl ?_;conv=>whnf
  refine gZn h126 ?_;conv=>whnf
  refine gZc n1 ?_;conv=>whnf
  refine gZc n2 ?_;conv=>whnf
  refine gZn n3 ?_;conv=>whnf
  exact⟨lr rfl,leG⟩
 .rw[Z5 hk]at hR;rw[show kB x=false by simpa using hk]at h126;subst hR;clear h hk;refine fZ6 Tryz.func130 rfl rfl ?_;conv=>whnf
  refine gZn h126 ?_;conv=>whnf
  refine gZn h25 ?_;conv=>whnf
  exact⟨lr rfl,leG⟩
def ux(x:Iv)(p:Int):Iv:=if kB x=true/\pcB p=true then jc (wp x.lo p.toNat false) (wp x.hi p.toNat true)else wI0
theorem i189(x:Iv)(h:RI x)(p:Int):Fn 154 G0 [.agg (ivC x),.int .i64 p] (.agg (ivC (ux x p))) G0:=by
 have h126:=zyp [x] OC (by simpa using h);rw[k1]at h126;have h127:=i127 p;have h25:=i25;rw[e25]at h25;have hR:ux x p=if kB x=true/\pcB p=true then jc (wp x.lo p.toNat false) (wp x.hi p.toNat true)else wI0:=rfl
 generalize ux x p=R at*;by_cases hk:kB x=true
 .rw[hk]at h126;by_cases hp:pcB p=true
  .rw[hp]at h127;rw[Z4 ⟨hk,hp⟩]at hR;have kx:=(qb h).1 hk;obtain⟨q,rfl,hq⟩:=yu.1 hp;rw[q1]at hR;have n1:=v185 kx.lo q hq;have n2:=v184 kx.hi q hq;have n3:=i130 (wp x.lo q false) (wp x.hi q true);rw[<-hR]at n3;generalize wp x.lo q false=a at*;generalize wp x.hi q true=b at*;clear kx h hk hR;obtain⟨⟨a1,a2,a3⟩,e⟩:=a;obtain⟨⟨b1,b2,b3⟩,f⟩:=b;refine fZ6 Tryz.func154 rfl rfl ?_;conv=>whnf
   refine gZn h126 ?_;conv=>whnf
   refine gZn h127 ?_;conv=>whnf
   refine gZc n1 ?_;conv=>whnf
   refine gZc n2 ?_;conv=>whnf
   refine gZn n3 ?_;conv=>whnf
   exact⟨lr rfl,leG⟩
  .rw[Z5 fun c=>hp c.2]at hR;rw[show pcB p=false by simpa using hp]at h127;subst hR;clear h hk hp;refine fZ6 Tryz.func154 rfl rfl ?_;conv=>whnf
   refine gZn h126 ?_;conv=>whnf
   refine gZn h127 ?_;conv=>whnf
   refine gZn h25 ?_;conv=>whnf
   exact⟨lr rfl,leG⟩
 .rw[Z5 fun c=>hk c.1]at hR;rw[show kB x=false by simpa using hk]at h126;subst hR;clear h hk;refine fZ6 Tryz.func154 rfl rfl ?_;conv=>whnf
  refine gZn h126 ?_;conv=>whnf
  refine gZn h25 ?_;conv=>whnf
  exact⟨lr rfl,leG⟩
theorem zjy(n:Int)(h: -4611686018427387904<=n/\n<=4611686018427387904):VD (zcb n):=by
 unfold zcb;have hb:bl n.natAbs<=64:=ur.2 (by show n.natAbs<18446744073709551616;omega);exact zie (zf5 O O O)
theorem zg{h h':Hp}{i:Nat}{l m:List AV}(e:l=m)(hk:okR.okRL h h' m=true):leB h h' i (.cells l) (.cells m):=bc0 (by rw[e];exact zeh hk)
def stI(dn up:Dy×Int)(o:Iv)(K:Iv->Iv):Iv:=
 if dn.2≠0\/up.2≠0 then wI0 else K ⟨if qh dn.1 o.lo<0 then dn.1 else o.lo,if 0<qh up.1 o.hi then up.1 else o.hi,false⟩
def s0I(dn up:Dy×Int)(K:Iv->Iv):Iv:=if dn.2≠0\/up.2≠0 then wI0 else K ⟨dn.1,up.1,false⟩
def f4I(dn up:Dy->Dy->Dy×Int)(x y:Iv):Nat->Iv->Iv
 |0,_=>s0I (dn x.lo y.lo) (up x.lo y.lo) (fun o=>stI (dn x.lo y.hi) (up x.lo y.hi) o (fun o=>stI (dn x.hi y.lo) (up x.hi y.lo) o (fun o=>stI (dn x.hi y.hi) (up x.hi y.hi) o (fun o=>o))))
 |1,o=>stI (dn x.lo y.hi) (up x.lo y.hi) o (fun o=>stI (dn x.hi y.lo) (up x.hi y.lo) o (fun o=>stI (dn x.hi y.hi) (up x.hi y.hi) o (fun o=>o)))
 |2,o=>stI (dn x.hi y.lo) (up x.hi y.lo) o (fun o=>stI (dn x.hi y.hi) (up x.hi y.hi) o (fun o=>o))
 |3,o=>stI (dn x.hi y.hi) (up x.hi y.hi) o (fun o=>o)
 | _+4,o=>o
def ja(dn up:Dy->Dy->Dy×Int)(x y:Iv):Iv:=f4I dn up x y 0 wI0
theorem i131m{x y:Iv}(hx:KI x)(hy:KI y)(p:Nat)(hp:8<=p/\p<=512):Fn 71 G0 [.agg (ivC x),.agg (ivC y),.int .i64 p,.fn 72 [],.fn 73 []] (.agg (ivC (ja (fun a b=>ug a b p false) (fun a b=>ug a b p true) x y))) G0:=by
 have h25:=i25;rw[e25]at h25;have hd0:=v132 hx.lo hy.lo p hp;have hu0:=v133 hx.lo hy.lo p hp;have vd0:=zcj x.lo y.lo false p hp;have vu0:=zcj x.lo y.lo true p hp;have hd1:=v132 hx.lo hy.hi p hp;have hu1:=v133 hx.lo hy.hi p hp;have vd1:=zcj x.lo y.hi false p hp;have vu1:=zcj x.lo y.hi true p hp;have hd2:=v132 hx.hi hy.lo p hp;have hu2:=v133 hx.hi hy.lo p hp;have vd2:=zcj x.hi y.lo false p hp;have vu2:=zcj x.hi y.lo true p hp;have hd3:=v132 hx.hi hy.hi p hp;have hu3:=v133 hx.hi hy.hi p hp;have vd3:=zcj x.hi y.hi false p hp;have vu3:=zcj x.hi y.hi true p hp;obtain⟨R,hR⟩:∃R,ja (fun a b=>ug a b p false) (fun a b=>ug a b p true) x y=R:=⟨_,rfl⟩;rw[hR];unfold ja at hR;obtain⟨D0,hD0⟩:∃A,ug x.lo y.lo p false=A:=⟨_,rfl⟩;obtain⟨U0,hU0⟩:∃A,ug x.lo y.lo p true=A:=⟨_,rfl⟩;rw[hD0]at hd0 vd0;rw[hU0]at hu0 vu0;obtain⟨D1,hD1⟩:∃A,ug x.lo y.hi p false=A:=⟨_,rfl⟩;obtain⟨U1,hU1⟩:∃A,ug x.lo y.hi p true=A:=⟨_,rfl⟩;rw[hD1]at hd1 vd1;rw[hU1]at hu1 vu1;obtain⟨D2,hD2⟩:∃A,ug x.hi y.lo p false=A:=⟨_,rfl⟩;obtain⟨U2,hU2⟩:∃A,ug x.hi y.lo p true=A:=⟨_,rfl⟩;rw[hD2]at hd2 vd2;rw[hU2]at hu2 vu2;obtain⟨D3,hD3⟩:∃A,ug x.hi y.hi p false=A:=⟨_,rfl⟩;obtain⟨U3,hU3⟩:∃A,ug x.hi y.hi p true=A:=⟨_,rfl⟩;rw[hD3]at hd3 vd3;rw[hU3]at hu3 vu3;have g3:∀o,f4I (fun a b=>ug a b p false) (fun a b=>ug a b p true) x y 3 o=stI D3 U3 o (fun o=>o):=fun o=>by rw[<-hD3,<-hU3];rfl
 have g2:∀o,f4I (fun a b=>ug a b p false) (fun a b=>ug a b p true) x y 2 o=stI D2 U2 o (f4I (fun a b=>ug a b p false) (fun a b=>ug a b p true) x y 3):=fun o=>by rw[<-hD2,<-hU2];rfl
 have g1:∀o,f4I (fun a b=>ug a b p false) (fun a b=>ug a b p true) x y 1 o=stI D1 U1 o (f4I (fun a b=>ug a b p false) (fun a b=>ug a b p true) x y 2):=fun o=>by rw[<-hD1,<-hU1];rfl
 have g0:∀o,f4I (fun a b=>ug a b p false) (fun a b=>ug a b p true) x y 0 o=s0I D0 U0 (f4I (fun a b=>ug a b p false) (fun a b=>ug a b p true) x y 1):=fun o=>by rw[<-hD0,<-hU0];rfl
 have g4:∀o,f4I (fun a b=>ug a b p false) (fun a b=>ug a b p true) x y 4 o=o:=fun o=>rfl
 generalize f4I (fun a b=>ug a b p false) (fun a b=>ug a b p true) x y=G at*;clear hD0 hD1 hD2 hD3 hU0 hU1 hU2 hU3 hx hy;obtain⟨⟨a01,a02,a03⟩,e0⟩:=D0;obtain⟨⟨b01,b02,b03⟩,f0⟩:=U0;obtain⟨⟨a11,a12,a13⟩,e1⟩:=D1;obtain⟨⟨b11,b12,b13⟩,f1⟩:=U1;obtain⟨⟨a21,a22,a23⟩,e2⟩:=D2;obtain⟨⟨b21,b22,b23⟩,f2⟩:=U2;obtain⟨⟨a31,a32,a33⟩,e3⟩:=D3;obtain⟨⟨b31,b32,b33⟩,f3⟩:=U3;obtain⟨⟨x1,x2,x3⟩,⟨x4,x5,x6⟩,x7⟩:=x;obtain⟨⟨y1,y2,y3⟩,⟨y4,y5,y6⟩,y7⟩:=y;have hd0:Fn 72 G0 [.agg [.bool x1,.sl .u32 x2,.int .i64 x3],.agg [.bool y1,.sl .u32 y2,.int .i64 y3],.int .i64 p] (dyV (⟨a01,a02,a03⟩,e0)) G0:=hd0;have hu0:Fn 73 G0 [.agg [.bool x1,.sl .u32 x2,.int .i64 x3],.agg [.bool y1,.sl .u32 y2,.int .i64 y3],.int .i64 p] (dyV (⟨b01,b02,b03⟩,f0)) G0:=hu0;simp only at vd0 vu0;have hd1:Fn 72 G0 [.agg [.bool x1,.sl .u32 x2,.int .i64 x3],.agg [.bool y4,.sl .u32 y5,.int .i64 y6],.int .i64 p] (dyV (⟨a11,a12,a13⟩,e1)) G0:=hd1;have hu1:Fn 73 G0 [.agg [.bool x1,.sl .u32 x2,.int .i64 x3],.agg [.bool y4,.sl .u32 y5,.int .i64 y6],.int .i64 p] (dyV (⟨b11,b12,b13⟩,f1)) G0:=hu1;simp only at vd1 vu1;have hd2:Fn 72 G0 [.agg [.bool x4,.sl .u32 x5,.int .i64 x6],.agg [.bool y1,.sl .u32 y2,.int .i64 y3],.int .i64 p] (dyV (⟨a21,a22,a23⟩,e2)) G0:=hd2;have hu2:Fn 73 G0 [.agg [.bool x4,.sl .u32 x5,.int .i64 x6],.agg [.bool y1,.sl .u32 y2,.int .i64 y3],.int .i64 p] (dyV (⟨b21,b22,b23⟩,f2)) G0:=hu2;simp only at vd2 vu2;have hd3:Fn 72 G0 [.agg [.bool x4,.sl .u32 x5,.int .i64 x6],.agg [.bool y4,.sl .u32 y5,.int .i64 y6],.int .i64 p] (dyV (⟨a31,a32,a33⟩,e3)) G0:=hd3;have hu3:Fn 73 G0 [.agg [.bool x4,.sl .u32 x5,.int .i64 x6],.agg [.bool y4,.sl .u32 y5,.int .i64 y6],.int .i64 p] (dyV (⟨b31,b32,b33⟩,f3)) G0:=hu3;simp only at vd3 vu3;show Fn 71 G0 [.agg [.bool x1,.sl .u32 x2,.int .i64 x3,.bool x4,.sl .u32 x5,.int .i64 x6,.bool x7],.agg [.bool y1,.sl .u32 y2,.int .i64 y3,.bool y4,.sl .u32 y5,.int .i64 y6,.bool y7],.int .i64 p,.fn 72 [],.fn 73 []] _ G0;refine fZ6 Tryz.func71 rfl rfl ?_;conv=>whnf
 refine⟨Nat×Iv,fun s=>s.1<=4/\(VD s.2.lo/\VD s.2.hi)/\s.2.all=false/\G s.1 s.2=R,fun s=> [(41,.int .i64 s.1)],fun s=> [(12,.cells (ivC s.2))],fun s=>4-s.1,(0,⟨d0,d0,false⟩),?_,?_,fun s hs=>?_⟩
 .exact⟨OC,⟨qf,qf⟩,rfl,by rw[<-hR];simp only;rw[g0,g0]⟩
 .exact KZ0
 obtain⟨i,o⟩:=s;obtain⟨h1,⟨h2,h3⟩,h4,h5⟩:=hs;simp only at h1 h2 h3 h4 h5;have c0:Fn 101 [] [.agg [.bool a01,.sl .u32 a02,.int .i64 a03],.agg (dyC o.lo)] (.int .i64 (qh ⟨a01,a02,a03⟩ o.lo)) []:=v81 vd0 h2;have u0:Fn 101 [] [.agg [.bool b01,.sl .u32 b02,.int .i64 b03],.agg (dyC o.hi)] (.int .i64 (qh ⟨b01,b02,b03⟩ o.hi)) []:=v81 vu0 h3;have c1:Fn 101 [] [.agg [.bool a11,.sl .u32 a12,.int .i64 a13],.agg (dyC o.lo)] (.int .i64 (qh ⟨a11,a12,a13⟩ o.lo)) []:=v81 vd1 h2;have u1:Fn 101 [] [.agg [.bool b11,.sl .u32 b12,.int .i64 b13],.agg (dyC o.hi)] (.int .i64 (qh ⟨b11,b12,b13⟩ o.hi)) []:=v81 vu1 h3;have c2:Fn 101 [] [.agg [.bool a21,.sl .u32 a22,.int .i64 a23],.agg (dyC o.lo)] (.int .i64 (qh ⟨a21,a22,a23⟩ o.lo)) []:=v81 vd2 h2;have u2:Fn 101 [] [.agg [.bool b21,.sl .u32 b22,.int .i64 b23],.agg (dyC o.hi)] (.int .i64 (qh ⟨b21,b22,b23⟩ o.hi)) []:=v81 vu2 h3;have c3:Fn 101 [] [.agg [.bool a31,.sl .u32 a32,.int .i64 a33],.agg (dyC o.lo)] (.int .i64 (qh ⟨a31,a32,a33⟩ o.lo)) []:=v81 vd3 h2;have u3:Fn 101 [] [.agg [.bool b31,.sl .u32 b32,.int .i64 b33],.agg (dyC o.hi)] (.int .i64 (qh ⟨b31,b32,b33⟩ o.hi)) []:=v81 vu3 h3;obtain⟨⟨o1,o2,o3⟩,⟨o4,o5,o6⟩,o7⟩:=o;simp only at h4 h2 h3;subst h4;have c0:Fn 101 [] [.agg [.bool a01,.sl .u32 a02,.int .i64 a03],.agg [.bool o1,.sl .u32 o2,.int .i64 o3]] (.int .i64 (qh ⟨a01,a02,a03⟩ ⟨o1,o2,o3⟩)) []:=c0;have u0:Fn 101 [] [.agg [.bool b01,.sl .u32 b02,.int .i64 b03],.agg [.bool o4,.sl .u32 o5,.int .i64 o6]] (.int .i64 (qh ⟨b01,b02,b03⟩ ⟨o4,o5,o6⟩)) []:=u0;have c1:Fn 101 [] [.agg [.bool a11,.sl .u32 a12,.int .i64 a13],.agg [.bool o1,.sl .u32 o2,.int .i64 o3]] (.int .i64 (qh ⟨a11,a12,a13⟩ ⟨o1,o2,o3⟩)) []:=c1;have u1:Fn 101 [] [.agg [.bool b11,.sl .u32 b12,.int .i64 b13],.agg [.bool o4,.sl .u32 o5,.int .i64 o6]] (.int .i64 (qh ⟨b11,b12,b13⟩ ⟨o4,o5,o6⟩)) []:=u1;have c2:Fn 101 [] [.agg [.bool a21,.sl .u32 a22,.int .i64 a23],.agg [.bool o1,.sl .u32 o2,.int .i64 o3]] (.int .i64 (qh ⟨a21,a22,a23⟩ ⟨o1,o2,o3⟩)) []:=c2
 have u2:Fn 101 [] [.agg [.bool b21,.sl .u32 b22,.int .i64 b23],.agg [.bool o4,.sl .u32 o5,.int .i64 o6]] (.int .i64 (qh ⟨b21,b22,b23⟩ ⟨o4,o5,o6⟩)) []:=u2;have c3:Fn 101 [] [.agg [.bool a31,.sl .u32 a32,.int .i64 a33],.agg [.bool o1,.sl .u32 o2,.int .i64 o3]] (.int .i64 (qh ⟨a31,a32,a33⟩ ⟨o1,o2,o3⟩)) []:=c3;have u3:Fn 101 [] [.agg [.bool b31,.sl .u32 b32,.int .i64 b33],.agg [.bool o4,.sl .u32 o5,.int .i64 o6]] (.int .i64 (qh ⟨b31,b32,b33⟩ ⟨o4,o5,o6⟩)) []:=u3;obtain rfl|rfl|rfl|rfl|rfl:i=0\/i=1\/i=2\/i=3\/i=4:=O
 .rw[g0]at h5;unfold s0I at h5;simp only at h5
  (refine⟨Z,?_⟩;(conv=>whnf))
  refine⟨⟨by show(0:Int)<=0;decide,by show(0:Int)<4;decide⟩,?_⟩;conv=>whnf
  refine⟨⟨OA,OA⟩,?_⟩;conv=>whnf
  refine⟨⟨OA,OA⟩,?_⟩;conv=>whnf
  refine gZc hd0 ?_;conv=>whnf
  refine⟨⟨OA,OA⟩,?_⟩;conv=>whnf
  refine⟨⟨OA,OA⟩,?_⟩;conv=>whnf
  refine gZc hu0 ?_;conv=>whnf
  refine brI (fun k1=>?_) (fun k1=>?_)
  .have k1:e0≠0:=by simpa using k1
   rw[Z4 (.inl k1)]at h5;subst h5;conv=>whnf
   refine gZn h25 ?_;conv=>whnf
   exact⟨lr rfl,leG⟩
  have k1:e0=0:=by simpa using k1
  conv=>whnf
  refine brI (fun k2=>?_) (fun k2=>?_)
  .have k2:f0≠0:=by simpa using k2
   rw[Z4 (.inr k2)]at h5;subst h5;conv=>whnf
   refine gZn h25 ?_;conv=>whnf
   exact⟨lr rfl,leG⟩
  have k2:f0=0:=by simpa using k2
  rw[Z5 (by simp[k1,k2])]at h5;conv=>whnf
  refine⟨(1,⟨⟨a01,a02,a03⟩,⟨b01,b02,b03⟩,false⟩),⟨by show 1<=4;decide,⟨vd0,vu0⟩,rfl,by exact h5⟩,by show 4-1<4-0;decide,?_⟩
  (conv=>whnf)
  refine q0 ?_ ?_
  .repeat' first|refine lc ?_ ?_|exact la0|exact lr rfl|exact ln0
  .repeat' first|refine lh1 ?_ ?_|exact lh0|exact bf0|exact bd0|exact zg rfl rfl|exact bg0 rfl
 .rw[g1]at h5;unfold stI at h5;simp only at h5
  (refine⟨Z,?_⟩;(conv=>whnf))
  refine⟨⟨by show(0:Int)<=1;decide,by show(1:Int)<4;decide⟩,?_⟩;conv=>whnf
  refine⟨⟨OA,OA⟩,?_⟩;conv=>whnf
  refine⟨⟨OA,OA⟩,?_⟩;conv=>whnf
  refine gZc hd1 ?_;conv=>whnf
  refine⟨⟨OA,OA⟩,?_⟩;conv=>whnf
  refine⟨⟨OA,OA⟩,?_⟩;conv=>whnf
  refine gZc hu1 ?_;conv=>whnf
  refine brI (fun k1=>?_) (fun k1=>?_)
  .have k1:e1≠0:=by simpa using k1
   rw[Z4 (.inl k1)]at h5;subst h5;conv=>whnf
   refine gZn h25 ?_;conv=>whnf
   exact⟨lr rfl,leG⟩
  have k1:e1=0:=by simpa using k1
  conv=>whnf
  refine brI (fun k2=>?_) (fun k2=>?_)
  .have k2:f1≠0:=by simpa using k2
   rw[Z4 (.inr k2)]at h5;subst h5;conv=>whnf
   refine gZn h25 ?_;conv=>whnf
   exact⟨lr rfl,leG⟩
  have k2:f1=0:=by simpa using k2
  rw[Z5 (by simp[k1,k2])]at h5;conv=>whnf
  refine gZn c1 ?_;conv=>whnf
  refine brI (fun k3=>?_) (fun k3=>?_)
  .have k3:qh ⟨a11,a12,a13⟩ ⟨o1,o2,o3⟩<0:=Z0 k3;rw[Z4 k3]at h5;conv=>whnf
   refine gZn u1 ?_;conv=>whnf
   refine brI (fun k4=>?_) (fun k4=>?_)
   .have k4:0<qh ⟨b11,b12,b13⟩ ⟨o4,o5,o6⟩:=Z0 k4;rw[Z4 k4]at h5;conv=>whnf
    refine⟨(2,⟨⟨a11,a12,a13⟩,⟨b11,b12,b13⟩,false⟩),⟨by show 2<=4;decide,⟨vd1,vu1⟩,rfl,by exact h5⟩,by show 4-2<4-1;decide,?_⟩
    (conv=>whnf)
    refine q0 ?_ ?_
    .repeat' first|refine lc ?_ ?_|exact la0|exact lr rfl|exact ln0
    .repeat' first|refine lh1 ?_ ?_|exact lh0|exact bf0|exact bd0|exact zg rfl rfl|exact bg0 rfl
   .have k4:¬0<qh ⟨b11,b12,b13⟩ ⟨o4,o5,o6⟩:=Z1 k4;rw[Z5 k4]at h5;conv=>whnf
    refine⟨(2,⟨⟨a11,a12,a13⟩,⟨o4,o5,o6⟩,false⟩),⟨by show 2<=4;decide,⟨vd1,h3⟩,rfl,by exact h5⟩,by show 4-2<4-1;decide,?_⟩
    (conv=>whnf)
    refine q0 ?_ ?_
    .repeat' first|refine lc ?_ ?_|exact la0|exact lr rfl|exact ln0
    .repeat' first|refine lh1 ?_ ?_|exact lh0|exact bf0|exact bd0|exact zg rfl rfl|exact bg0 rfl
  .have k3:¬qh ⟨a11,a12,a13⟩ ⟨o1,o2,o3⟩<0:=Z1 k3;rw[Z5 k3]at h5;conv=>whnf
   refine gZn u1 ?_;conv=>whnf
   refine brI (fun k4=>?_) (fun k4=>?_)
   .have k4:0<qh ⟨b11,b12,b13⟩ ⟨o4,o5,o6⟩:=Z0 k4;rw[Z4 k4]at h5;conv=>whnf
    refine⟨(2,⟨⟨o1,o2,o3⟩,⟨b11,b12,b13⟩,false⟩),⟨by show 2<=4;decide,⟨h2,vu1⟩,rfl,by exact h5⟩,by show 4-2<4-1;decide,?_⟩
    (conv=>whnf)
    refine q0 ?_ ?_
    .repeat' first|refine lc ?_ ?_|exact la0|exact lr rfl|exact ln0
    .repeat' first|refine lh1 ?_ ?_|exact lh0|exact bf0|exact bd0|exact zg rfl rfl|exact bg0 rfl
   .have k4:¬0<qh ⟨b11,b12,b13⟩ ⟨o4,o5,o6⟩:=Z1 k4;rw[Z5 k4]at h5;conv=>whnf
    refine⟨(2,⟨⟨o1,o2,o3⟩,⟨o4,o5,o6⟩,false⟩),⟨by show 2<=4;decide,⟨h2,h3⟩,rfl,by exact h5⟩,by show 4-2<4-1;decide,?_⟩
    (conv=>whnf)
    refine q0 ?_ ?_
    .repeat' first|refine lc ?_ ?_|exact la0|exact lr rfl|exact ln0
    .repeat' first|refine lh1 ?_ ?_|exact lh0|exact bf0|exact bd0|exact zg rfl rfl|exact bg0 rfl
 .rw[g2]at h5;unfold stI at h5;simp only at h5
  (refine⟨Z,?_⟩;(conv=>whnf))
  refine⟨⟨by show(0:Int)<=2;decide,by show(2:Int)<4;decide⟩,?_⟩;conv=>whnf
  refine⟨⟨OA,OA⟩,?_⟩;conv=>whnf
  refine⟨⟨OA,OA⟩,?_⟩;conv=>whnf
  refine gZc hd2 ?_;conv=>whnf
  refine⟨⟨OA,OA⟩,?_⟩;conv=>whnf
  refine⟨⟨OA,OA⟩,?_⟩;conv=>whnf
  refine gZc hu2 ?_;conv=>whnf
  refine brI (fun k1=>?_) (fun k1=>?_)
  .have k1:e2≠0:=by simpa using k1
   rw[Z4 (.inl k1)]at h5;subst h5;conv=>whnf
   refine gZn h25 ?_;conv=>whnf
   exact⟨lr rfl,leG⟩
  have k1:e2=0:=by simpa using k1
  conv=>whnf
  refine brI (fun k2=>?_) (fun k2=>?_)
  .have k2:f2≠0:=by simpa using k2
   rw[Z4 (.inr k2)]at h5;subst h5;conv=>whnf
   refine gZn h25 ?_;conv=>whnf
   exact⟨lr rfl,leG⟩
  have k2:f2=0:=by simpa using k2
  rw[Z5 (by simp[k1,k2])]at h5;conv=>whnf
  refine gZn c2 ?_;conv=>whnf
  refine brI (fun k3=>?_) (fun k3=>?_)
  .have k3:qh ⟨a21,a22,a23⟩ ⟨o1,o2,o3⟩<0:=Z0 k3;rw[Z4 k3]at h5;conv=>whnf
   refine gZn u2 ?_;conv=>whnf
   refine brI (fun k4=>?_) (fun k4=>?_)
   .have k4:0<qh ⟨b21,b22,b23⟩ ⟨o4,o5,o6⟩:=Z0 k4;rw[Z4 k4]at h5;conv=>whnf
    refine⟨(3,⟨⟨a21,a22,a23⟩,⟨b21,b22,b23⟩,false⟩),⟨by show 3<=4;decide,⟨vd2,vu2⟩,rfl,by exact h5⟩,by show 4-3<4-2;decide,?_⟩
    (conv=>whnf)
    refine q0 ?_ ?_
    .repeat' first|refine lc ?_ ?_|exact la0|exact lr rfl|exact ln0
    .repeat' first|refine lh1 ?_ ?_|exact lh0|exact bf0|exact bd0|exact zg rfl rfl|exact bg0 rfl
   .have k4:¬0<qh ⟨b21,b22,b23⟩ ⟨o4,o5,o6⟩:=Z1 k4;rw[Z5 k4]at h5;conv=>whnf
    refine⟨(3,⟨⟨a21,a22,a23⟩,⟨o4,o5,o6⟩,false⟩),⟨by show 3<=4;decide,⟨vd2,h3⟩,rfl,by exact h5⟩,by show 4-3<4-2;decide,?_⟩
    (conv=>whnf)
    refine q0 ?_ ?_
    .repeat' first|refine lc ?_ ?_|exact la0|exact lr rfl|exact ln0
    .repeat' first|refine lh1 ?_ ?_|exact lh0|exact bf0|exact bd0|exact zg rfl rfl|exact bg0 rfl
  .have k3:¬qh ⟨a21,a22,a23⟩ ⟨o1,o2,o3⟩<0:=Z1 k3;rw[Z5 k3]at h5;conv=>whnf
   refine gZn u2 ?_;conv=>whnf
   refine brI (fun k4=>?_) (fun k4=>?_)
   .have k4:0<qh ⟨b21,b22,b23⟩ ⟨o4,o5,o6⟩:=Z0 k4;rw[Z4 k4]at h5;conv=>whnf
    refine⟨(3,⟨⟨o1,o2,o3⟩,⟨b21,b22,b23⟩,false⟩),⟨by show 3<=4;decide,⟨h2,vu2⟩,rfl,by exact h5⟩,by show 4-3<4-2;decide,?_⟩
    (conv=>whnf)
    refine q0 ?_ ?_
    .repeat' first|refine lc ?_ ?_|exact la0|exact lr rfl|exact ln0
    .repeat' first|refine lh1 ?_ ?_|exact lh0|exact bf0|exact bd0|exact zg rfl rfl|exact bg0 rfl
   .have k4:¬0<qh ⟨b21,b22,b23⟩ ⟨o4,o5,o6⟩:=Z1 k4;rw[Z5 k4]at h5;conv=>whnf
    refine⟨(3,⟨⟨o1,o2,o3⟩,⟨o4,o5,o6⟩,false⟩),⟨by show 3<=4;decide,⟨h2,h3⟩,rfl,by exact h5⟩,by show 4-3<4-2;decide,?_⟩
    (conv=>whnf)
    refine q0 ?_ ?_
    .repeat' first|refine lc ?_ ?_|exact la0|exact lr rfl|exact ln0
    .repeat' first|refine lh1 ?_ ?_|exact lh0|exact bf0|exact bd0|exact zg rfl rfl|exact bg0 rfl
 .rw[g3]at h5;unfold stI at h5;simp only at h5
  (refine⟨Z,?_⟩;(conv=>whnf))
  refine⟨⟨by show(0:Int)<=3;decide,by show(3:Int)<4;decide⟩,?_⟩;conv=>whnf
  refine⟨⟨OA,OA⟩,?_⟩;conv=>whnf
  refine⟨⟨OA,OA⟩,?_⟩;conv=>whnf
  refine gZc hd3 ?_;conv=>whnf
  refine⟨⟨OA,OA⟩,?_⟩;conv=>whnf
  refine⟨⟨OA,OA⟩,?_⟩;conv=>whnf
  refine gZc hu3 ?_;conv=>whnf
  refine brI (fun k1=>?_) (fun k1=>?_)
  .have k1:e3≠0:=by simpa using k1
   rw[Z4 (.inl k1)]at h5;subst h5;conv=>whnf
   refine gZn h25 ?_;conv=>whnf
   exact⟨lr rfl,leG⟩
  have k1:e3=0:=by simpa using k1
  conv=>whnf
  refine brI (fun k2=>?_) (fun k2=>?_)
  .have k2:f3≠0:=by simpa using k2
   rw[Z4 (.inr k2)]at h5;subst h5;conv=>whnf
   refine gZn h25 ?_;conv=>whnf
   exact⟨lr rfl,leG⟩
  have k2:f3=0:=by simpa using k2
  rw[Z5 (by simp[k1,k2])]at h5;conv=>whnf
  refine gZn c3 ?_;conv=>whnf
  refine brI (fun k3=>?_) (fun k3=>?_)
  .have k3:qh ⟨a31,a32,a33⟩ ⟨o1,o2,o3⟩<0:=Z0 k3;rw[Z4 k3]at h5;conv=>whnf
   refine gZn u3 ?_;conv=>whnf
   refine brI (fun k4=>?_) (fun k4=>?_)
   .have k4:0<qh ⟨b31,b32,b33⟩ ⟨o4,o5,o6⟩:=Z0 k4;rw[Z4 k4]at h5;conv=>whnf
    refine⟨(4,⟨⟨a31,a32,a33⟩,⟨b31,b32,b33⟩,false⟩),⟨by show 4<=4;decide,⟨vd3,vu3⟩,rfl,by rw[g4];exact h5⟩,by show 4-4<4-3;decide,?_⟩
    (conv=>whnf)
    refine q0 ?_ ?_
    .repeat' first|refine lc ?_ ?_|exact la0|exact lr rfl|exact ln0
    .repeat' first|refine lh1 ?_ ?_|exact lh0|exact bf0|exact bd0|exact zg rfl rfl|exact bg0 rfl
   .have k4:¬0<qh ⟨b31,b32,b33⟩ ⟨o4,o5,o6⟩:=Z1 k4;rw[Z5 k4]at h5;conv=>whnf
    refine⟨(4,⟨⟨a31,a32,a33⟩,⟨o4,o5,o6⟩,false⟩),⟨by show 4<=4;decide,⟨vd3,h3⟩,rfl,by rw[g4];exact h5⟩,by show 4-4<4-3;decide,?_⟩
    (conv=>whnf)
    refine q0 ?_ ?_
    .repeat' first|refine lc ?_ ?_|exact la0|exact lr rfl|exact ln0
    .repeat' first|refine lh1 ?_ ?_|exact lh0|exact bf0|exact bd0|exact zg rfl rfl|exact bg0 rfl
  .have k3:¬qh ⟨a31,a32,a33⟩ ⟨o1,o2,o3⟩<0:=Z1 k3;rw[Z5 k3]at h5;conv=>whnf
   refine gZn u3 ?_;conv=>whnf
   refine brI (fun k4=>?_) (fun k4=>?_)
   .have k4:0<qh ⟨b31,b32,b33⟩ ⟨o4,o5,o6⟩:=Z0 k4;rw[Z4 k4]at h5;conv=>whnf
    refine⟨(4,⟨⟨o1,o2,o3⟩,⟨b31,b32,b33⟩,false⟩),⟨by show 4<=4;decide,⟨h2,vu3⟩,rfl,by rw[g4];exact h5⟩,by show 4-4<4-3;decide,?_⟩
    (conv=>whnf)
    refine q0 ?_ ?_
    .repeat' first|refine lc ?_ ?_|exact la0|exact lr rfl|exact ln0
    .repeat' first|refine lh1 ?_ ?_|exact lh0|exact bf0|exact bd0|exact zg rfl rfl|exact bg0 rfl
   .have k4:¬0<qh ⟨b31,b32,b33⟩ ⟨o4,o5,o6⟩:=Z1 k4;rw[Z5 k4]at h5;conv=>whnf
    refine⟨(4,⟨⟨o1,o2,o3⟩,⟨o4,o5,o6⟩,false⟩),⟨by show 4<=4;decide,⟨h2,h3⟩,rfl,by rw[g4];exact h5⟩,by show 4-4<4-3;decide,?_⟩
    (conv=>whnf)
    refine q0 ?_ ?_
    .repeat' first|refine lc ?_ ?_|exact la0|exact lr rfl|exact ln0
    .repeat' first|refine lh1 ?_ ?_|exact lh0|exact bf0|exact bd0|exact zg rfl rfl|exact bg0 rfl
 .rw[g4]at h5;subst h5
  (refine⟨Z,?_⟩;(conv=>whnf))
  exact⟨lr rfl,leG⟩
theorem i131d{x y:Iv}(hx:KI x)(hy:KI y)(p:Nat)(hp:8<=p/\p<=512):Fn 71 G0 [.agg (ivC x),.agg (ivC y),.int .i64 p,.fn 265 [],.fn 266 []] (.agg (ivC (ja (fun a b=>uy a b p false) (fun a b=>uy a b p true) x y))) G0:=by
 have h25:=i25;rw[e25]at h25;have hd0:=v76 hx.lo hy.lo p hp;have hu0:=v78 hx.lo hy.lo p hp;have vd0:=zbq x.lo y.lo false p hp;have vu0:=zbq x.lo y.lo true p hp;have hd1:=v76 hx.lo hy.hi p hp;have hu1:=v78 hx.lo hy.hi p hp;have vd1:=zbq x.lo y.hi false p hp;have vu1:=zbq x.lo y.hi true p hp;have hd2:=v76 hx.hi hy.lo p hp;have hu2:=v78 hx.hi hy.lo p hp;have vd2:=zbq x.hi y.lo false p hp;have vu2:=zbq x.hi y.lo true p hp;have hd3:=v76 hx.hi hy.hi p hp;have hu3:=v78 hx.hi hy.hi p hp;have vd3:=zbq x.hi y.hi false p hp;have vu3:=zbq x.hi y.hi true p hp;obtain⟨R,hR⟩:∃R,ja (fun a b=>uy a b p false) (fun a b=>uy a b p true) x y=R:=⟨_,rfl⟩;rw[hR];unfold ja at hR;obtain⟨D0,hD0⟩:∃A,uy x.lo y.lo p false=A:=⟨_,rfl⟩;obtain⟨U0,hU0⟩:∃A,uy x.lo y.lo p true=A:=⟨_,rfl⟩;rw[hD0]at hd0 vd0;rw[hU0]at hu0 vu0;obtain⟨D1,hD1⟩:∃A,uy x.lo y.hi p false=A:=⟨_,rfl⟩;obtain⟨U1,hU1⟩:∃A,uy x.lo y.hi p true=A:=⟨_,rfl⟩;rw[hD1]at hd1 vd1;rw[hU1]at hu1 vu1;obtain⟨D2,hD2⟩:∃A,uy x.hi y.lo p false=A:=⟨_,rfl⟩;obtain⟨U2,hU2⟩:∃A,uy x.hi y.lo p true=A:=⟨_,rfl⟩;rw[hD2]at hd2 vd2;rw[hU2]at hu2 vu2;obtain⟨D3,hD3⟩:∃A,uy x.hi y.hi p false=A:=⟨_,rfl⟩;obtain⟨U3,hU3⟩:∃A,uy x.hi y.hi p true=A:=⟨_,rfl⟩;rw[hD3]at hd3 vd3;rw[hU3]at hu3 vu3;have g3:∀o,f4I (fun a b=>uy a b p false) (fun a b=>uy a b p true) x y 3 o=stI D3 U3 o (fun o=>o):=fun o=>by rw[<-hD3,<-hU3];rfl
 have g2:∀o,f4I (fun a b=>uy a b p false) (fun a b=>uy a b p true) x y 2 o=stI D2 U2 o (f4I (fun a b=>uy a b p false) (fun a b=>uy a b p true) x y 3):=fun o=>by rw[<-hD2,<-hU2];rfl
 have g1:∀o,f4I (fun a b=>uy a b p false) (fun a b=>uy a b p true) x y 1 o=stI D1 U1 o (f4I (fun a b=>uy a b p false) (fun a b=>uy a b p true) x y 2):=fun o=>by rw[<-hD1,<-hU1];rfl
 have g0:∀o,f4I (fun a b=>uy a b p false) (fun a b=>uy a b p true) x y 0 o=s0I D0 U0 (f4I (fun a b=>uy a b p false) (fun a b=>uy a b p true) x y 1):=fun o=>by rw[<-hD0,<-hU0];rfl
 have g4:∀o,f4I (fun a b=>uy a b p false) (fun a b=>uy a b p true) x y 4 o=o:=fun o=>rfl
 generalize f4I (fun a b=>uy a b p false) (fun a b=>uy a b p true) x y=G at*;clear hD0 hD1 hD2 hD3 hU0 hU1 hU2 hU3 hx hy;obtain⟨⟨a01,a02,a03⟩,e0⟩:=D0;obtain⟨⟨b01,b02,b03⟩,f0⟩:=U0;obtain⟨⟨a11,a12,a13⟩,e1⟩:=D1;obtain⟨⟨b11,b12,b13⟩,f1⟩:=U1;obtain⟨⟨a21,a22,a23⟩,e2⟩:=D2;obtain⟨⟨b21,b22,b23⟩,f2⟩:=U2;obtain⟨⟨a31,a32,a33⟩,e3⟩:=D3;obtain⟨⟨b31,b32,b33⟩,f3⟩:=U3;obtain⟨⟨x1,x2,x3⟩,⟨x4,x5,x6⟩,x7⟩:=x;obtain⟨⟨y1,y2,y3⟩,⟨y4,y5,y6⟩,y7⟩:=y;have hd0:Fn 265 G0 [.agg [.bool x1,.sl .u32 x2,.int .i64 x3],.agg [.bool y1,.sl .u32 y2,.int .i64 y3],.int .i64 p] (dyV (⟨a01,a02,a03⟩,e0)) G0:=hd0;have hu0:Fn 266 G0 [.agg [.bool x1,.sl .u32 x2,.int .i64 x3],.agg [.bool y1,.sl .u32 y2,.int .i64 y3],.int .i64 p] (dyV (⟨b01,b02,b03⟩,f0)) G0:=hu0;simp only at vd0 vu0;have hd1:Fn 265 G0 [.agg [.bool x1,.sl .u32 x2,.int .i64 x3],.agg [.bool y4,.sl .u32 y5,.int .i64 y6],.int .i64 p] (dyV (⟨a11,a12,a13⟩,e1)) G0:=hd1;have hu1:Fn 266 G0 [.agg [.bool x1,.sl .u32 x2,.int .i64 x3],.agg [.bool y4,.sl .u32 y5,.int .i64 y6],.int .i64 p] (dyV (⟨b11,b12,b13⟩,f1)) G0:=hu1;simp only at vd1 vu1;have hd2:Fn 265 G0 [.agg [.bool x4,.sl .u32 x5,.int .i64 x6],.agg [.bool y1,.sl .u32 y2,.int .i64 y3],.int .i64 p] (dyV (⟨a21,a22,a23⟩,e2)) G0:=hd2;have hu2:Fn 266 G0 [.agg [.bool x4,.sl .u32 x5,.int .i64 x6],.agg [.bool y1,.sl .u32 y2,.int .i64 y3],.int .i64 p] (dyV (⟨b21,b22,b23⟩,f2)) G0:=hu2;simp only at vd2 vu2;have hd3:Fn 265 G0 [.agg [.bool x4,.sl .u32 x5,.int .i64 x6],.agg [.bool y4,.sl .u32 y5,.int .i64 y6],.int .i64 p] (dyV (⟨a31,a32,a33⟩,e3)) G0:=hd3;have hu3:Fn 266 G0 [.agg [.bool x4,.sl .u32 x5,.int .i64 x6],.agg [.bool y4,.sl .u32 y5,.int .i64 y6],.int .i64 p] (dyV (⟨b31,b32,b33⟩,f3)) G0:=hu3;simp only at vd3 vu3;show Fn 71 G0 [.agg [.bool x1,.sl .u32 x2,.int .i64 x3,.bool x4,.sl .u32 x5,.int .i64 x6,.bool x7],.agg [.bool y1,.sl .u32 y2,.int .i64 y3,.bool y4,.sl .u32 y5,.int .i64 y6,.bool y7],.int .i64 p,.fn 265 [],.fn 266 []] _ G0;refine fZ6 Tryz.func71 rfl rfl ?_;conv=>whnf
 refine⟨Nat×Iv,fun s=>s.1<=4/\(VD s.2.lo/\VD s.2.hi)/\s.2.all=false/\G s.1 s.2=R,fun s=> [(41,.int .i64 s.1)],fun s=> [(12,.cells (ivC s.2))],fun s=>4-s.1,(0,⟨d0,d0,false⟩),?_,?_,fun s hs=>?_⟩
 .exact⟨OC,⟨qf,qf⟩,rfl,by rw[<-hR];simp only;rw[g0,g0]⟩
 .exact KZ0
 obtain⟨i,o⟩:=s;obtain⟨h1,⟨h2,h3⟩,h4,h5⟩:=hs;simp only at h1 h2 h3 h4 h5;have c0:Fn 101 [] [.agg [.bool a01,.sl .u32 a02,.int .i64 a03],.agg (dyC o.lo)] (.int .i64 (qh ⟨a01,a02,a03⟩ o.lo)) []:=v81 vd0 h2;have u0:Fn 101 [] [.agg [.bool b01,.sl .u32 b02,.int .i64 b03],.agg (dyC o.hi)] (.int .i64 (qh ⟨b01,b02,b03⟩ o.hi)) []:=v81 vu0 h3;have c1:Fn 101 [] [.agg [.bool a11,.sl .u32 a12,.int .i64 a13],.agg (dyC o.lo)] (.int .i64 (qh ⟨a11,a12,a13⟩ o.lo)) []:=v81 vd1 h2;have u1:Fn 101 [] [.agg [.bool b11,.sl .u32 b12,.int .i64 b13],.agg (dyC o.hi)] (.int .i64 (qh ⟨b11,b12,b13⟩ o.hi)) []:=v81 vu1 h3;have c2:Fn 101 [] [.agg [.bool a21,.sl .u32 a22,.int .i64 a23],.agg (dyC o.lo)] (.int .i64 (qh ⟨a21,a22,a23⟩ o.lo)) []:=v81 vd2 h2;have u2:Fn 101 [] [.agg [.bool b21,.sl .u32 b22,.int .i64 b23],.agg (dyC o.hi)] (.int .i64 (qh ⟨b21,b22,b23⟩ o.hi)) []:=v81 vu2 h3;have c3:Fn 101 [] [.agg [.bool a31,.sl .u32 a32,.int .i64 a33],.agg (dyC o.lo)] (.int .i64 (qh ⟨a31,a32,a33⟩ o.lo)) []:=v81 vd3 h2;have u3:Fn 101 [] [.agg [.bool b31,.sl .u32 b32,.int .i64 b33],.agg (dyC o.hi)] (.int .i64 (qh ⟨b31,b32,b33⟩ o.hi)) []:=v81 vu3 h3;obtain⟨⟨o1,o2,o3⟩,⟨o4,o5,o6⟩,o7⟩:=o;simp only at h4 h2 h3;subst h4;have c0:Fn 101 [] [.agg [.bool a01,.sl .u32 a02,.int .i64 a03],.agg [.bool o1,.sl .u32 o2,.int .i64 o3]] (.int .i64 (qh ⟨a01,a02,a03⟩ ⟨o1,o2,o3⟩)) []:=c0;have u0:Fn 101 [] [.agg [.bool b01,.sl .u32 b02,.int .i64 b03],.agg [.bool o4,.sl .u32 o5,.int .i64 o6]] (.int .i64 (qh ⟨b01,b02,b03⟩ ⟨o4,o5,o6⟩)) []:=u0;have c1:Fn 101 [] [.agg [.bool a11,.sl .u32 a12,.int .i64 a13],.agg [.bool o1,.sl .u32 o2,.int .i64 o3]] (.int .i64 (qh ⟨a11,a12,a13⟩ ⟨o1,o2,o3⟩)) []:=c1;have u1:Fn 101 [] [.agg [.bool b11,.sl .u32 b12,.int .i64 b13],.agg [.bool o4,.sl .u32 o5,.int .i64 o6]] (.int .i64 (qh ⟨b11,b12,b13⟩ ⟨o4,o5,o6⟩)) []:=u1;have c2:Fn 101 [] [.agg [.bool a21,.sl .u32 a22,.int .i64 a23],.agg [.bool o1,.sl .u32 o2,.int .i64 o3]] (.int .i64 (qh ⟨a21,a22,a23⟩ ⟨o1,o2,o3⟩)) []:=c2
 have u2:Fn 101 [] [.agg [.bool b21,.sl .u32 b22,.int .i64 b23],.agg [.bool o4,.sl .u32 o5,.int .i64 o6]] (.int .i64 (qh ⟨b21,b22,b23⟩ ⟨o4,o5,o6⟩)) []:=u2;have c3:Fn 101 [] [.agg [.bool a31,.sl .u32 a32,.int .i64 a33],.agg [.bool o1,.sl .u32 o2,.int .i64 o3]] (.int .i64 (qh ⟨a31,a32,a33⟩ ⟨o1,o2,o3⟩)) []:=c3;have u3:Fn 101 [] [.agg [.bool b31,.sl .u32 b32,.int .i64 b33],.agg [.bool o4,.sl .u32 o5,.int .i64 o6]] (.int .i64 (qh ⟨b31,b32,b33⟩ ⟨o4,o5,o6⟩)) []:=u3;obtain rfl|rfl|rfl|rfl|rfl:i=0\/i=1\/i=2\/i=3\/i=4:=O
 .rw[g0]at h5;unfold s0I at h5;simp only at h5
  (refine⟨Z,?_⟩;(conv=>whnf))
  refine⟨⟨by show(0:Int)<=0;decide,by show(0:Int)<4;decide⟩,?_⟩;conv=>whnf
  refine⟨⟨OA,OA⟩,?_⟩;conv=>whnf
  refine⟨⟨OA,OA⟩,?_⟩;conv=>whnf
  refine gZc hd0 ?_;conv=>whnf
  refine⟨⟨OA,OA⟩,?_⟩;conv=>whnf
  refine⟨⟨OA,OA⟩,?_⟩;conv=>whnf
  refine gZc hu0 ?_;conv=>whnf
  refine brI (fun k1=>?_) (fun k1=>?_)
  .have k1:e0≠0:=by simpa using k1
   rw[Z4 (.inl k1)]at h5;subst h5;conv=>whnf
   refine gZn h25 ?_;conv=>whnf
   exact⟨lr rfl,leG⟩
  have k1:e0=0:=by simpa using k1
  conv=>whnf
  refine brI (fun k2=>?_) (fun k2=>?_)
  .have k2:f0≠0:=by simpa using k2
   rw[Z4 (.inr k2)]at h5;subst h5;conv=>whnf
   refine gZn h25 ?_;conv=>whnf
   exact⟨lr rfl,leG⟩
  have k2:f0=0:=by simpa using k2
  rw[Z5 (by simp[k1,k2])]at h5;conv=>whnf
  refine⟨(1,⟨⟨a01,a02,a03⟩,⟨b01,b02,b03⟩,false⟩),⟨by show 1<=4;decide,⟨vd0,vu0⟩,rfl,by exact h5⟩,by show 4-1<4-0;decide,?_⟩
  (conv=>whnf)
  refine q0 ?_ ?_
  .repeat' first|refine lc ?_ ?_|exact la0|exact lr rfl|exact ln0
  .repeat' first|refine lh1 ?_ ?_|exact lh0|exact bf0|exact bd0|exact zg rfl rfl|exact bg0 rfl
 .rw[g1]at h5;unfold stI at h5;simp only at h5
  (refine⟨Z,?_⟩;(conv=>whnf))
  refine⟨⟨by show(0:Int)<=1;decide,by show(1:Int)<4;decide⟩,?_⟩;conv=>whnf
  refine⟨⟨OA,OA⟩,?_⟩;conv=>whnf
  refine⟨⟨OA,OA⟩,?_⟩;conv=>whnf
  refine gZc hd1 ?_;conv=>whnf
  refine⟨⟨OA,OA⟩,?_⟩;conv=>whnf
  refine⟨⟨OA,OA⟩,?_⟩;conv=>whnf
  refine gZc hu1 ?_;conv=>whnf
  refine brI (fun k1=>?_) (fun k1=>?_)
  .have k1:e1≠0:=by simpa using k1
   rw[Z4 (.inl k1)]at h5;subst h5;conv=>whnf
   refine gZn h25 ?_;conv=>whnf
   exact⟨lr rfl,leG⟩
  have k1:e1=0:=by simpa using k1
  conv=>whnf
  refine brI (fun k2=>?_) (fun k2=>?_)
  .have k2:f1≠0:=by simpa using k2
   rw[Z4 (.inr k2)]at h5;subst h5;conv=>whnf
   refine gZn h25 ?_;conv=>whnf
   exact⟨lr rfl,leG⟩
  have k2:f1=0:=by simpa using k2
  rw[Z5 (by simp[k1,k2])]at h5;conv=>whnf
  refine gZn c1 ?_;conv=>whnf
  refine brI (fun k3=>?_) (fun k3=>?_)
  .have k3:qh ⟨a11,a12,a13⟩ ⟨o1,o2,o3⟩<0:=Z0 k3;rw[Z4 k3]at h5;conv=>whnf
   refine gZn u1 ?_;conv=>whnf
   refine brI (fun k4=>?_) (fun k4=>?_)
   .have k4:0<qh ⟨b11,b12,b13⟩ ⟨o4,o5,o6⟩:=Z0 k4;rw[Z4 k4]at h5;conv=>whnf
    refine⟨(2,⟨⟨a11,a12,a13⟩,⟨b11,b12,b13⟩,false⟩),⟨by show 2<=4;decide,⟨vd1,vu1⟩,rfl,by exact h5⟩,by show 4-2<4-1;decide,?_⟩
    (conv=>whnf)
    refine q0 ?_ ?_
    .repeat' first|refine lc ?_ ?_|exact la0|exact lr rfl|exact ln0
    .repeat' first|refine lh1 ?_ ?_|exact lh0|exact bf0|exact bd0|exact zg rfl rfl|exact bg0 rfl
   .have k4:¬0<qh ⟨b11,b12,b13⟩ ⟨o4,o5,o6⟩:=Z1 k4;rw[Z5 k4]at h5;conv=>whnf
    refine⟨(2,⟨⟨a11,a12,a13⟩,⟨o4,o5,o6⟩,false⟩),⟨by show 2<=4;decide,⟨vd1,h3⟩,rfl,by exact h5⟩,by show 4-2<4-1;decide,?_⟩
    (conv=>whnf)
    refine q0 ?_ ?_
    .repeat' first|refine lc ?_ ?_|exact la0|exact lr rfl|exact ln0
    .repeat' first|refine lh1 ?_ ?_|exact lh0|exact bf0|exact bd0|exact zg rfl rfl|exact bg0 rfl
  .have k3:¬qh ⟨a11,a12,a13⟩ ⟨o1,o2,o3⟩<0:=Z1 k3;rw[Z5 k3]at h5;conv=>whnf
   refine gZn u1 ?_;conv=>whnf
   refine brI (fun k4=>?_) (fun k4=>?_)
   .have k4:0<qh ⟨b11,b12,b13⟩ ⟨o4,o5,o6⟩:=Z0 k4;rw[Z4 k4]at h5;conv=>whnf
    refine⟨(2,⟨⟨o1,o2,o3⟩,⟨b11,b12,b13⟩,false⟩),⟨by show 2<=4;decide,⟨h2,vu1⟩,rfl,by exact h5⟩,by show 4-2<4-1;decide,?_⟩
    (conv=>whnf)
    refine q0 ?_ ?_
    .repeat' first|refine lc ?_ ?_|exact la0|exact lr rfl|exact ln0
    .repeat' first|refine lh1 ?_ ?_|exact lh0|exact bf0|exact bd0|exact zg rfl rfl|exact bg0 rfl
   .have k4:¬0<qh ⟨b11,b12,b13⟩ ⟨o4,o5,o6⟩:=Z1 k4;rw[Z5 k4]at h5;conv=>whnf
    refine⟨(2,⟨⟨o1,o2,o3⟩,⟨o4,o5,o6⟩,false⟩),⟨by show 2<=4;decide,⟨h2,h3⟩,rfl,by exact h5⟩,by show 4-2<4-1;decide,?_⟩
    (conv=>whnf)
    refine q0 ?_ ?_
    .repeat' first|refine lc ?_ ?_|exact la0|exact lr rfl|exact ln0
    .repeat' first|refine lh1 ?_ ?_|exact lh0|exact bf0|exact bd0|exact zg rfl rfl|exact bg0 rfl
 .rw[g2]at h5;unfold stI at h5;simp only at h5
  (refine⟨Z,?_⟩;(conv=>whnf))
  refine⟨⟨by show(0:Int)<=2;decide,by show(2:Int)<4;decide⟩,?_⟩;conv=>whnf
  refine⟨⟨OA,OA⟩,?_⟩;conv=>whnf
  refine⟨⟨OA,OA⟩,?_⟩;conv=>whnf
  refine gZc hd2 ?_;conv=>whnf
  refine⟨⟨OA,OA⟩,?_⟩;conv=>whnf
  refine⟨⟨OA,OA⟩,?_⟩;conv=>whnf
  refine gZc hu2 ?_;conv=>whnf
  refine brI (fun k1=>?_) (fun k1=>?_)
  .have k1:e2≠0:=by simpa using k1
   rw[Z4 (.inl k1)]at h5;subst h5;conv=>whnf
   refine gZn h25 ?_;conv=>whnf
   exact⟨lr rfl,leG⟩
  have k1:e2=0:=by simpa using k1
  conv=>whnf
  refine brI (fun k2=>?_) (fun k2=>?_)
  .have k2:f2≠0:=by simpa using k2
   rw[Z4 (.inr k2)]at h5;subst h5;conv=>whnf
   refine gZn h25 ?_;conv=>whnf
   exact⟨lr rfl,leG⟩
  have k2:f2=0:=by simpa using k2
  rw[Z5 (by simp[k1,k2])]at h5;conv=>whnf
  refine gZn c2 ?_;conv=>whnf
  refine brI (fun k3=>?_) (fun k3=>?_)
  .have k3:qh ⟨a21,a22,a23⟩ ⟨o1,o2,o3⟩<0:=Z0 k3;rw[Z4 k3]at h5;conv=>whnf
   refine gZn u2 ?_;conv=>whnf
   refine brI (fun k4=>?_) (fun k4=>?_)
   .have k4:0<qh ⟨b21,b22,b23⟩ ⟨o4,o5,o6⟩:=Z0 k4;rw[Z4 k4]at h5;conv=>whnf
    refine⟨(3,⟨⟨a21,a22,a23⟩,⟨b21,b22,b23⟩,false⟩),⟨by show 3<=4;decide,⟨vd2,vu2⟩,rfl,by exact h5⟩,by show 4-3<4-2;decide,?_⟩
    (conv=>whnf)
    refine q0 ?_ ?_
    .repeat' first|refine lc ?_ ?_|exact la0|exact lr rfl|exact ln0
    .repeat' first|refine lh1 ?_ ?_|exact lh0|exact bf0|exact bd0|exact zg rfl rfl|exact bg0 rfl
   .have k4:¬0<qh ⟨b21,b22,b23⟩ ⟨o4,o5,o6⟩:=Z1 k4;rw[Z5 k4]at h5;conv=>whnf
    refine⟨(3,⟨⟨a21,a22,a23⟩,⟨o4,o5,o6⟩,false⟩),⟨by show 3<=4;decide,⟨vd2,h3⟩,rfl,by exact h5⟩,by show 4-3<4-2;decide,?_⟩
    (conv=>whnf)
    refine q0 ?_ ?_
    .repeat' first|refine lc ?_ ?_|exact la0|exact lr rfl|exact ln0
    .repeat' first|refine lh1 ?_ ?_|exact lh0|exact bf0|exact bd0|exact zg rfl rfl|exact bg0 rfl
  .have k3:¬qh ⟨a21,a22,a23⟩ ⟨o1,o2,o3⟩<0:=Z1 k3;rw[Z5 k3]at h5;conv=>whnf
   refine gZn u2 ?_;conv=>whnf
   refine brI (fun k4=>?_) (fun k4=>?_)
   .have k4:0<qh ⟨b21,b22,b23⟩ ⟨o4,o5,o6⟩:=Z0 k4;rw[Z4 k4]at h5;conv=>whnf
    refine⟨(3,⟨⟨o1,o2,o3⟩,⟨b21,b22,b23⟩,false⟩),⟨by show 3<=4;decide,⟨h2,vu2⟩,rfl,by exact h5⟩,by show 4-3<4-2;decide,?_⟩
    (conv=>whnf)
    refine q0 ?_ ?_
    .repeat' first|refine lc ?_ ?_|exact la0|exact lr rfl|exact ln0
    .repeat' first|refine lh1 ?_ ?_|exact lh0|exact bf0|exact bd0|exact zg rfl rfl|exact bg0 rfl
   .have k4:¬0<qh ⟨b21,b22,b23⟩ ⟨o4,o5,o6⟩:=Z1 k4;rw[Z5 k4]at h5;conv=>whnf
    refine⟨(3,⟨⟨o1,o2,o3⟩,⟨o4,o5,o6⟩,false⟩),⟨by show 3<=4;decide,⟨h2,h3⟩,rfl,by exact h5⟩,by show 4-3<4-2;decide,?_⟩
    (conv=>whnf)
    refine q0 ?_ ?_
    .repeat' first|refine lc ?_ ?_|exact la0|exact lr rfl|exact ln0
    .repeat' first|refine lh1 ?_ ?_|exact lh0|exact bf0|exact bd0|exact zg rfl rfl|exact bg0 rfl
 .rw[g3]at h5;unfold stI at h5;simp only at h5
  (refine⟨Z,?_⟩;(conv=>whnf))
  refine⟨⟨by show(0:Int)<=3;decide,by show(3:Int)<4;decide⟩,?_⟩;conv=>whnf
  refine⟨⟨OA,OA⟩,?_⟩;conv=>whnf
  refine⟨⟨OA,OA⟩,?_⟩;conv=>whnf
  refine gZc hd3 ?_;conv=>whnf
  refine⟨⟨OA,OA⟩,?_⟩;conv=>whnf
  refine⟨⟨OA,OA⟩,?_⟩;conv=>whnf
  refine gZc hu3 ?_;conv=>whnf
  refine brI (fun k1=>?_) (fun k1=>?_)
  .have k1:e3≠0:=by simpa using k1
   rw[Z4 (.inl k1)]at h5;subst h5;conv=>whnf
   refine gZn h25 ?_;conv=>whnf
   exact⟨lr rfl,leG⟩
  have k1:e3=0:=by simpa using k1
  conv=>whnf
  refine brI (fun k2=>?_) (fun k2=>?_)
  .have k2:f3≠0:=by simpa using k2
   rw[Z4 (.inr k2)]at h5;subst h5;conv=>whnf
   refine gZn h25 ?_;conv=>whnf
   exact⟨lr rfl,leG⟩
  have k2:f3=0:=by simpa using k2
  rw[Z5 (by simp[k1,k2])]at h5;conv=>whnf
  refine gZn c3 ?_;conv=>whnf
  refine brI (fun k3=>?_) (fun k3=>?_)
  .have k3:qh ⟨a31,a32,a33⟩ ⟨o1,o2,o3⟩<0:=Z0 k3;rw[Z4 k3]at h5;conv=>whnf
   refine gZn u3 ?_;conv=>whnf
   refine brI (fun k4=>?_) (fun k4=>?_)
   .have k4:0<qh ⟨b31,b32,b33⟩ ⟨o4,o5,o6⟩:=Z0 k4;rw[Z4 k4]at h5;conv=>whnf
    refine⟨(4,⟨⟨a31,a32,a33⟩,⟨b31,b32,b33⟩,false⟩),⟨by show 4<=4;decide,⟨vd3,vu3⟩,rfl,by rw[g4];exact h5⟩,by show 4-4<4-3;decide,?_⟩
    (conv=>whnf)
    refine q0 ?_ ?_
    .repeat' first|refine lc ?_ ?_|exact la0|exact lr rfl|exact ln0
    .repeat' first|refine lh1 ?_ ?_|exact lh0|exact bf0|exact bd0|exact zg rfl rfl|exact bg0 rfl
   .have k4:¬0<qh ⟨b31,b32,b33⟩ ⟨o4,o5,o6⟩:=Z1 k4;rw[Z5 k4]at h5;conv=>whnf
    refine⟨(4,⟨⟨a31,a32,a33⟩,⟨o4,o5,o6⟩,false⟩),⟨by show 4<=4;decide,⟨vd3,h3⟩,rfl,by rw[g4];exact h5⟩,by show 4-4<4-3;decide,?_⟩
    (conv=>whnf)
    refine q0 ?_ ?_
    .repeat' first|refine lc ?_ ?_|exact la0|exact lr rfl|exact ln0
    .repeat' first|refine lh1 ?_ ?_|exact lh0|exact bf0|exact bd0|exact zg rfl rfl|exact bg0 rfl
  .have k3:¬qh ⟨a31,a32,a33⟩ ⟨o1,o2,o3⟩<0:=Z1 k3;rw[Z5 k3]at h5;conv=>whnf
   refine gZn u3 ?_;conv=>whnf
   refine brI (fun k4=>?_) (fun k4=>?_)
   .have k4:0<qh ⟨b31,b32,b33⟩ ⟨o4,o5,o6⟩:=Z0 k4;rw[Z4 k4]at h5;conv=>whnf
    refine⟨(4,⟨⟨o1,o2,o3⟩,⟨b31,b32,b33⟩,false⟩),⟨by show 4<=4;decide,⟨h2,vu3⟩,rfl,by rw[g4];exact h5⟩,by show 4-4<4-3;decide,?_⟩
    (conv=>whnf)
    refine q0 ?_ ?_
    .repeat' first|refine lc ?_ ?_|exact la0|exact lr rfl|exact ln0
    .repeat' first|refine lh1 ?_ ?_|exact lh0|exact bf0|exact bd0|exact zg rfl rfl|exact bg0 rfl
   .have k4:¬0<qh ⟨b31,b32,b33⟩ ⟨o4,o5,o6⟩:=Z1 k4;rw[Z5 k4]at h5;conv=>whnf
    refine⟨(4,⟨⟨o1,o2,o3⟩,⟨o4,o5,o6⟩,false⟩),⟨by show 4<=4;decide,⟨h2,h3⟩,rfl,by rw[g4];exact h5⟩,by show 4-4<4-3;decide,?_⟩
    (conv=>whnf)
    refine q0 ?_ ?_
    .repeat' first|refine lc ?_ ?_|exact la0|exact lr rfl|exact ln0
    .repeat' first|refine lh1 ?_ ?_|exact lh0|exact bf0|exact bd0|exact zg rfl rfl|exact bg0 rfl
 .rw[g4]at h5;subst h5
  (refine⟨Z,?_⟩;(conv=>whnf))
  exact⟨lr rfl,leG⟩
def kf(x y:Iv)(p:Int):Iv:=if(kB x&&kB y)=true/\pcB p=true then ja (fun a b=>ug a b p.toNat false) (fun a b=>ug a b p.toNat true) x y else wI0
theorem i84(x y:Iv)(hx:RI x)(hy:RI y)(p:Int):Fn 21 G0 [.agg (ivC x),.agg (ivC y),.int .i64 p] (.agg (ivC (kf x y p))) G0:=by
 have h126:=zyp [x,y] OC (by simpa using⟨hx,hy⟩);rw[k2]at h126;have h127:=i127 p;have h25:=i25;rw[e25]at h25;have hR:kf x y p=if(kB x&&kB y)=true/\pcB p=true then ja (fun a b=>ug a b p.toNat false) (fun a b=>ug a b p.toNat true) x y else wI0:=rfl
 generalize kf x y p=R at*;by_cases hk:(kB x&&kB y)=true
 .rw[hk]at h126;by_cases hp:pcB p=true
  .rw[hp]at h127;rw[Z4 ⟨hk,hp⟩]at hR;rw[q2]at hk;have kx:=(qb hx).1 hk.1;have ky:=(qb hy).1 hk.2;obtain⟨q,rfl,hq⟩:=yu.1 hp;rw[q1]at hR;have n1:=i131m kx ky q hq;rw[<-hR]at n1;clear hR hk kx ky hx hy;refine fZ6 Tryz.func21 rfl rfl ?_;conv=>whnf
   refine gZn h126 ?_;conv=>whnf
   refine gZn h127 ?_;conv=>whnf
   refine gZc n1 ?_;conv=>whnf
   exact⟨lr rfl,leG⟩
  .rw[Z5 fun c=>hp c.2]at hR;rw[show pcB p=false by simpa using hp]at h127;subst hR;clear hk hx hy;refine fZ6 Tryz.func21 rfl rfl ?_;conv=>whnf
   refine gZn h126 ?_;conv=>whnf
   refine gZn h127 ?_;conv=>whnf
   refine gZn h25 ?_;conv=>whnf
   exact⟨lr rfl,leG⟩
 .rw[Z5 fun c=>hk c.1]at hR;rw[show(kB x&&kB y)=false by simpa using hk]at h126;subst hR;clear hk hx hy;refine fZ6 Tryz.func21 rfl rfl ?_;conv=>whnf
  refine gZn h126 ?_;conv=>whnf
  refine gZn h25 ?_;conv=>whnf
  exact⟨lr rfl,leG⟩
def ze9(x y:Iv)(p:Int):Iv:=if(kB x&&kB y)=true/\pcB p=true/\zig y≠0 then ja (fun a b=>uy a b p.toNat false) (fun a b=>uy a b p.toNat true) x y else wI0
theorem i85(x y:Iv)(hx:RI x)(hy:RI y)(p:Int):Fn 210 G0 [.agg (ivC x),.agg (ivC y),.int .i64 p] (.agg (ivC (ze9 x y p))) G0:=by
 have h126:=zyp [x,y] OC (by simpa using⟨hx,hy⟩);rw[k2]at h126;have h127:=i127 p;have h25:=i25;have h134:=i134 y hy;rw[e25]at h25;have hR:ze9 x y p=if(kB x&&kB y)=true/\pcB p=true/\zig y≠0 then ja (fun a b=>uy a b p.toNat false) (fun a b=>uy a b p.toNat true) x y else wI0:=rfl
 generalize ze9 x y p=R at*;generalize zig y=S at*;by_cases hk:(kB x&&kB y)=true
 .rw[hk]at h126;by_cases hp:pcB p=true
  .rw[hp]at h127;by_cases hs:S=0
   .rw[Z5 fun c=>c.2.2 hs]at hR;subst hR hs;clear hk hx hy;refine fZ6 Tryz.func210 rfl rfl ?_;conv=>whnf
    refine gZn h126 ?_;conv=>whnf
    refine gZn h127 ?_;conv=>whnf
    refine gZn h134 ?_;conv=>whnf
    refine gZn h25 ?_;conv=>whnf
    exact⟨lr rfl,leG⟩
   rw[Z4 ⟨hk,hp,hs⟩]at hR;rw[q2]at hk;have kx:=(qb hx).1 hk.1;have ky:=(qb hy).1 hk.2;obtain⟨q,rfl,hq⟩:=yu.1 hp;rw[q1]at hR;have n1:=i131d kx ky q hq;rw[<-hR]at n1;clear hR hk kx ky hx hy;refine fZ6 Tryz.func210 rfl rfl ?_;conv=>whnf
   refine gZn h126 ?_;conv=>whnf
   refine gZn h127 ?_;conv=>whnf
   refine gZn h134 ?_;conv=>whnf
   refine brI (fun k1=>?_) (fun k1=>?_)
   .have k1:S=0:=by simpa using k1
    exact absurd k1 hs
   conv=>whnf
   refine gZc n1 ?_;conv=>whnf
   exact⟨lr rfl,leG⟩
  .rw[Z5 fun c=>hp c.2.1]at hR;rw[show pcB p=false by simpa using hp]at h127;subst hR;clear hk hx hy h134;refine fZ6 Tryz.func210 rfl rfl ?_;conv=>whnf
   refine gZn h126 ?_;conv=>whnf
   refine gZn h127 ?_;conv=>whnf
   refine gZn h25 ?_;conv=>whnf
   exact⟨lr rfl,leG⟩
 .rw[Z5 fun c=>hk c.1]at hR;rw[show(kB x&&kB y)=false by simpa using hk]at h126;subst hR;clear hk hx hy h134;refine fZ6 Tryz.func210 rfl rfl ?_;conv=>whnf
  refine gZn h126 ?_;conv=>whnf
  refine gZn h25 ?_;conv=>whnf
  exact⟨lr rfl,leG⟩
def CI(x:Iv):Prop:=x=wI0\/(x.all=false/\VD x.lo/\VD x.hi)
theorem CI.ri{x:Iv}(h:CI x):RI x:=by
 rcases h with rfl|⟨_,h1,h2⟩
 .exact zzu
 .exact⟨h1.lb,h2.lb,by have:=h1.len;omega,by have:=h2.len;omega⟩
theorem qfa:CI wI0:=.inl rfl
theorem zle{a b:Dy×Int}(ha:VD a.1)(hb:VD b.1):CI (jc a b):=by
 unfold jc;split
 .exact qfa
 .exact .inr ⟨rfl,ha,hb⟩
theorem vg{p:Int}(h:pcB p=true):8<=p.toNat/\p.toNat<=512:=by
 obtain⟨q,rfl,hq⟩:=yu.1 h;exact hq
theorem qbw(x y:Iv)(p:Int):CI (yp x y p):=by
 unfold yp;split
 .rename_i h;exact zle (zdb _ _ _ _ (vg h.2)) (zdb _ _ _ _ (vg h.2))
 .exact qfa
theorem qfb{dn up:Dy×Int}{o:Iv}{K:Iv->Iv}(h1:VD dn.1)(h2:VD up.1)(h3:VD o.lo)(h4:VD o.hi)(hK:∀o,o.all=false->VD o.lo->VD o.hi->CI (K o)):CI (stI dn up o K):=by
 unfold stI;split
 .exact qfa
 .refine hK _ rfl ?_ ?_
  .simp only;split<;>assumption
  .simp only;split<;>assumption
theorem zet(dn up:Dy->Dy->Dy×Int)(x y:Iv):ja dn up x y=s0I (dn x.lo y.lo) (up x.lo y.lo) (fun o=>stI (dn x.lo y.hi) (up x.lo y.hi) o (fun o=>stI (dn x.hi y.lo) (up x.hi y.lo) o (fun o=>stI (dn x.hi y.hi) (up x.hi y.hi) o (fun o=>o)))):=by
 unfold ja;rw[f4I]
theorem zwi{dn up:Dy->Dy->Dy×Int}(h1:∀a b,VD (dn a b).1)(h2:∀a b,VD (up a b).1)(x y:Iv):CI (ja dn up x y):=by
 rw[zet];unfold s0I;split
 .exact qfa
 .refine qfb (h1 _ _) (h2 _ _) (h1 _ _) (h2 _ _) fun o _ a b=>?_
  refine qfb (h1 _ _) (h2 _ _) a b fun o _ a b=>?_
  refine qfb (h1 _ _) (h2 _ _) a b fun o c a b=>?_
  exact .inr ⟨c,a,b⟩
theorem qbv(x y:Iv)(p:Int):CI (kf x y p):=by
 unfold kf;split
 .rename_i h;exact zwi (fun a b=>zcj _ _ _ _ (vg h.2)) (fun a b=>zcj _ _ _ _ (vg h.2)) x y
 .exact qfa
theorem qjm(x y:Iv)(p:Int):CI (ze9 x y p):=by
 unfold ze9;split
 .rename_i h;exact zwi (fun a b=>zbq _ _ _ _ (vg h.2.1)) (fun a b=>zbq _ _ _ _ (vg h.2.1)) x y
 .exact qfa
theorem qjl{x:Iv}(h:RI x):CI (ze6 x):=by
 unfold ze6;split
 .rename_i hk;have k:=(qb h).1 hk;exact .inr ⟨rfl,ze1 k.hi,ze1 k.lo⟩
 .exact qfa
def zI:Iv:=⟨d0,d0,false⟩
