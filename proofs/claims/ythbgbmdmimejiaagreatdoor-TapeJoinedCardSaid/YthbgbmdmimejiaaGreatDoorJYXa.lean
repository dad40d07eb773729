/- Intervals: products, quotients. -/
import Derived.Test.YthbgbmdmimejiaaGreatDoorJYu
set_option linter.all false
open And renaming intro->q0
namespace Go.Proofs.YthbgbmdmimejiaaGreatDoor
open Go Go.Sx
set_option maxRecDepth 100000
set_option maxHeartbeats 8000000
theorem zq{h h':Hp}{i:Nat}{l m:List AV}(e:l=m)(hk:okR.okRL h h' m=true):leB h h' i (.cells l) (.cells m):=bc0 (by rw[e];exact zc8 hk)
def stI(dn up:Dy×Int)(o:Iv)(K:Iv->Iv):Iv:=
 if dn.2≠0\/up.2≠0 then wI0 else K ⟨if qr dn.1 o.lo<0 then dn.1 else o.lo,if 0<qr up.1 o.hi then up.1 else o.hi,false⟩
def s0I(dn up:Dy×Int)(K:Iv->Iv):Iv:=if dn.2≠0\/up.2≠0 then wI0 else K ⟨dn.1,up.1,false⟩
def f4I(dn up:Dy->Dy->Dy×Int)(x y:Iv):Nat->Iv->Iv
 |0,_=>s0I (dn x.lo y.lo) (up x.lo y.lo) (fun o=>stI (dn x.lo y.hi) (up x.lo y.hi) o (fun o=>stI (dn x.hi y.lo) (up x.hi y.lo) o (fun o=>stI (dn x.hi y.hi) (up x.hi y.hi) o (fun o=>o))))
 |1,o=>stI (dn x.lo y.hi) (up x.lo y.hi) o (fun o=>stI (dn x.hi y.lo) (up x.hi y.lo) o (fun o=>stI (dn x.hi y.hi) (up x.hi y.hi) o (fun o=>o)))
 |2,o=>stI (dn x.hi y.lo) (up x.hi y.lo) o (fun o=>stI (dn x.hi y.hi) (up x.hi y.hi) o (fun o=>o))
 |3,o=>stI (dn x.hi y.hi) (up x.hi y.hi) o (fun o=>o)
 | _+4,o=>o
def kb(dn up:Dy->Dy->Dy×Int)(x y:Iv):Iv:=f4I dn up x y 0 wI0
theorem i131m{x y:Iv}(hx:KI x)(hy:KI y)(p:Nat)(hp:8<=p/\p<=512):Fn 135 G0 [.agg (ivC x),.agg (ivC y),.int .i64 p,.fn 136 [],.fn 137 []] (.agg (ivC (kb (fun a b=>jr a b p false) (fun a b=>jr a b p true) x y))) G0:=by
 have h25:=i25;rw[e25]at h25;have hd0:=qbn hx.lo hy.lo p hp;have hu0:=qbm hx.lo hy.lo p hp;have vd0:=ul x.lo y.lo false p hp;have vu0:=ul x.lo y.lo true p hp;have hd1:=qbn hx.lo hy.hi p hp;have hu1:=qbm hx.lo hy.hi p hp;have vd1:=ul x.lo y.hi false p hp;have vu1:=ul x.lo y.hi true p hp;have hd2:=qbn hx.hi hy.lo p hp;have hu2:=qbm hx.hi hy.lo p hp;have vd2:=ul x.hi y.lo false p hp;have vu2:=ul x.hi y.lo true p hp;have hd3:=qbn hx.hi hy.hi p hp;have hu3:=qbm hx.hi hy.hi p hp;have vd3:=ul x.hi y.hi false p hp;have vu3:=ul x.hi y.hi true p hp;obtain⟨R,hR⟩:∃R,kb (fun a b=>jr a b p false) (fun a b=>jr a b p true) x y=R:=⟨_,rfl⟩;rw[hR];unfold kb at hR;obtain⟨D0,hD0⟩:∃A,jr x.lo y.lo p false=A:=⟨_,rfl⟩;obtain⟨U0,hU0⟩:∃A,jr x.lo y.lo p true=A:=⟨_,rfl⟩;rw[hD0]at hd0 vd0;rw[hU0]at hu0 vu0;obtain⟨D1,hD1⟩:∃A,jr x.lo y.hi p false=A:=⟨_,rfl⟩;obtain⟨U1,hU1⟩:∃A,jr x.lo y.hi p true=A:=⟨_,rfl⟩;rw[hD1]at hd1 vd1;rw[hU1]at hu1 vu1;obtain⟨D2,hD2⟩:∃A,jr x.hi y.lo p false=A:=⟨_,rfl⟩;obtain⟨U2,hU2⟩:∃A,jr x.hi y.lo p true=A:=⟨_,rfl⟩;rw[hD2]at hd2 vd2;rw[hU2]at hu2 vu2;obtain⟨D3,hD3⟩:∃A,jr x.hi y.hi p false=A:=⟨_,rfl⟩;obtain⟨U3,hU3⟩:∃A,jr x.hi y.hi p true=A:=⟨_,rfl⟩;rw[hD3]at hd3 vd3;rw[hU3]at hu3 vu3;have g3:∀o,f4I (fun a b=>jr a b p false) (fun a b=>jr a b p true) x y 3 o=stI D3 U3 o (fun o=>o):=fun o=>by rw[<-hD3,<-hU3];rfl
 have g2:∀o,f4I (fun a b=>jr a b p false) (fun a b=>jr a b p true) x y 2 o=stI D2 U2 o (f4I (fun a b=>jr a b p false) (fun a b=>jr a b p true) x y 3):=fun o=>by rw[<-hD2,<-hU2];rfl
 have g1:∀o,f4I (fun a b=>jr a b p false) (fun a b=>jr a b p true) x y 1 o=stI D1 U1 o (f4I (fun a b=>jr a b p false) (fun a b=>jr a b p true) x y 2):=fun o=>by rw[<-hD1,<-hU1];rfl
 have g0:∀o,f4I (fun a b=>jr a b p false) (fun a b=>jr a b p true) x y 0 o=s0I D0 U0 (f4I (fun a b=>jr a b p false) (fun a b=>jr a b p true) x y 1):=fun o=>by rw[<-hD0,<-hU0];rfl
 have g4:∀o,f4I (fun a b=>jr a b p false) (fun a b=>jr a b p true) x y 4 o=o:=fun o=>rfl
 generalize f4I (fun a b=>jr a b p false) (fun a b=>jr a b p true) x y=G at*;clear hD0 hD1 hD2 hD3 hU0 hU1 hU2 hU3 hx hy;obtain⟨⟨a01,a02,a03⟩,e0⟩:=D0;obtain⟨⟨b01,b02,b03⟩,f0⟩:=U0;obtain⟨⟨a11,a12,a13⟩,e1⟩:=D1;obtain⟨⟨b11,b12,b13⟩,f1⟩:=U1;obtain⟨⟨a21,a22,a23⟩,e2⟩:=D2;obtain⟨⟨b21,b22,b23⟩,f2⟩:=U2;obtain⟨⟨a31,a32,a33⟩,e3⟩:=D3;obtain⟨⟨b31,b32,b33⟩,f3⟩:=U3;obtain⟨⟨x1,x2,x3⟩,⟨x4,x5,x6⟩,x7⟩:=x;obtain⟨⟨y1,y2,y3⟩,⟨y4,y5,y6⟩,y7⟩:=y;have hd0:Fn 136 G0 [.agg [.bool x1,.sl .u32 x2,.int .i64 x3],.agg [.bool y1,.sl .u32 y2,.int .i64 y3],.int .i64 p] (dyV (⟨a01,a02,a03⟩,e0)) G0:=hd0;have hu0:Fn 137 G0 [.agg [.bool x1,.sl .u32 x2,.int .i64 x3],.agg [.bool y1,.sl .u32 y2,.int .i64 y3],.int .i64 p] (dyV (⟨b01,b02,b03⟩,f0)) G0:=hu0;simp only at vd0 vu0;have hd1:Fn 136 G0 [.agg [.bool x1,.sl .u32 x2,.int .i64 x3],.agg [.bool y4,.sl .u32 y5,.int .i64 y6],.int .i64 p] (dyV (⟨a11,a12,a13⟩,e1)) G0:=hd1;have hu1:Fn 137 G0 [.agg [.bool x1,.sl .u32 x2,.int .i64 x3],.agg [.bool y4,.sl .u32 y5,.int .i64 y6],.int .i64 p] (dyV (⟨b11,b12,b13⟩,f1)) G0:=hu1;simp only at vd1 vu1;have hd2:Fn 136 G0 [.agg [.bool x4,.sl .u32 x5,.int .i64 x6],.agg [.bool y1,.sl .u32 y2,.int .i64 y3],.int .i64 p] (dyV (⟨a21,a22,a23⟩,e2)) G0:=hd2;have hu2:Fn 137 G0 [.agg [.bool x4,.sl .u32 x5,.int .i64 x6],.agg [.bool y1,.sl .u32 y2,.int .i64 y3],.int .i64 p] (dyV (⟨b21,b22,b23⟩,f2)) G0:=hu2;simp only at vd2 vu2;have hd3:Fn 136 G0 [.agg [.bool x4,.sl .u32 x5,.int .i64 x6],.agg [.bool y4,.sl .u32 y5,.int .i64 y6],.int .i64 p] (dyV (⟨a31,a32,a33⟩,e3)) G0:=hd3;have hu3:Fn 137 G0 [.agg [.bool x4,.sl .u32 x5,.int .i64 x6],.agg [.bool y4,.sl .u32 y5,.int .i64 y6],.int .i64 p] (dyV (⟨b31,b32,b33⟩,f3)) G0:=hu3;simp only at vd3 vu3;show Fn 135 G0 [.agg [.bool x1,.sl .u32 x2,.int .i64 x3,.bool x4,.sl .u32 x5,.int .i64 x6,.bool x7],.agg [.bool y1,.sl .u32 y2,.int .i64 y3,.bool y4,.sl .u32 y5,.int .i64 y6,.bool y7],.int .i64 p,.fn 136 [],.fn 137 []] _ G0;refine fY6 Tryz.func135 rfl ?_
 refine⟨Nat×Iv,fun s=>s.1<=4/\(VD s.2.lo/\VD s.2.hi)/\s.2.all=false/\G s.1 s.2=R,fun s=> [(41,.int .i64 s.1)],fun s=> [(12,.cells (ivC s.2))],fun s=>4-s.1,(0,⟨d0,d0,false⟩),?_,?_,fun s hs=>?_⟩
 .exact⟨OC,⟨vg,vg⟩,rfl,by rw[<-hR];simp only;rw[g0,g0]⟩
 .exact KZ0
 obtain⟨i,o⟩:=s;obtain⟨h1,⟨h2,h3⟩,h4,h5⟩:=hs;simp only at h1 h2 h3 h4 h5;have c0:Fn 32 [] [.agg [.bool a01,.sl .u32 a02,.int .i64 a03],.agg (dyC o.lo)] (.int .i64 (qr ⟨a01,a02,a03⟩ o.lo)) []:=v81 vd0 h2;have u0:Fn 32 [] [.agg [.bool b01,.sl .u32 b02,.int .i64 b03],.agg (dyC o.hi)] (.int .i64 (qr ⟨b01,b02,b03⟩ o.hi)) []:=v81 vu0 h3;have c1:Fn 32 [] [.agg [.bool a11,.sl .u32 a12,.int .i64 a13],.agg (dyC o.lo)] (.int .i64 (qr ⟨a11,a12,a13⟩ o.lo)) []:=v81 vd1 h2;have u1:Fn 32 [] [.agg [.bool b11,.sl .u32 b12,.int .i64 b13],.agg (dyC o.hi)] (.int .i64 (qr ⟨b11,b12,b13⟩ o.hi)) []:=v81 vu1 h3;have c2:Fn 32 [] [.agg [.bool a21,.sl .u32 a22,.int .i64 a23],.agg (dyC o.lo)] (.int .i64 (qr ⟨a21,a22,a23⟩ o.lo)) []:=v81 vd2 h2;have u2:Fn 32 [] [.agg [.bool b21,.sl .u32 b22,.int .i64 b23],.agg (dyC o.hi)] (.int .i64 (qr ⟨b21,b22,b23⟩ o.hi)) []:=v81 vu2 h3;have c3:Fn 32 [] [.agg [.bool a31,.sl .u32 a32,.int .i64 a33],.agg (dyC o.lo)] (.int .i64 (qr ⟨a31,a32,a33⟩ o.lo)) []:=v81 vd3 h2;have u3:Fn 32 [] [.agg [.bool b31,.sl .u32 b32,.int .i64 b33],.agg (dyC o.hi)] (.int .i64 (qr ⟨b31,b32,b33⟩ o.hi)) []:=v81 vu3 h3;obtain⟨⟨o1,o2,o3⟩,⟨o4,o5,o6⟩,o7⟩:=o;simp only at h4 h2 h3;subst h4;have c0:Fn 32 [] [.agg [.bool a01,.sl .u32 a02,.int .i64 a03],.agg [.bool o1,.sl .u32 o2,.int .i64 o3]] (.int .i64 (qr ⟨a01,a02,a03⟩ ⟨o1,o2,o3⟩)) []:=c0;have u0:Fn 32 [] [.agg [.bool b01,.sl .u32 b02,.int .i64 b03],.agg [.bool o4,.sl .u32 o5,.int .i64 o6]] (.int .i64 (qr ⟨b01,b02,b03⟩ ⟨o4,o5,o6⟩)) []:=u0;have c1:Fn 32 [] [.agg [.bool a11,.sl .u32 a12,.int .i64 a13],.agg [.bool o1,.sl .u32 o2,.int .i64 o3]] (.int .i64 (qr ⟨a11,a12,a13⟩ ⟨o1,o2,o3⟩)) []:=c1;have u1:Fn 32 [] [.agg [.bool b11,.sl .u32 b12,.int .i64 b13],.agg [.bool o4,.sl .u32 o5,.int .i64 o6]] (.int .i64 (qr ⟨b11,b12,b13⟩ ⟨o4,o5,o6⟩)) []:=u1;have c2:Fn 32 [] [.agg [.bool a21,.sl .u32 a22,.int .i64 a23],.agg [.bool o1,.sl .u32 o2,.int .i64 o3]] (.int .i64 (qr ⟨a21,a22,a23⟩ ⟨o1,o2,o3⟩)) []:=c2
 have u2:Fn 32 [] [.agg [.bool b21,.sl .u32 b22,.int .i64 b23],.agg [.bool o4,.sl .u32 o5,.int .i64 o6]] (.int .i64 (qr ⟨b21,b22,b23⟩ ⟨o4,o5,o6⟩)) []:=u2;have c3:Fn 32 [] [.agg [.bool a31,.sl .u32 a32,.int .i64 a33],.agg [.bool o1,.sl .u32 o2,.int .i64 o3]] (.int .i64 (qr ⟨a31,a32,a33⟩ ⟨o1,o2,o3⟩)) []:=c3;have u3:Fn 32 [] [.agg [.bool b31,.sl .u32 b32,.int .i64 b33],.agg [.bool o4,.sl .u32 o5,.int .i64 o6]] (.int .i64 (qr ⟨b31,b32,b33⟩ ⟨o4,o5,o6⟩)) []:=u3;obtain rfl|rfl|rfl|rfl|rfl:i=0\/i=1\/i=2\/i=3\/i=4:=O
 .rw[g0]at h5;unfold s0I at h5;simp only at h5;refine gYe ?_;refine⟨⟨by show(0:Int)<=0;decide,by show(0:Int)<4;decide⟩,?_⟩;conv=>whnf
  refine⟨⟨OA,OA⟩,?_⟩;conv=>whnf
  refine⟨⟨OA,OA⟩,?_⟩;conv=>whnf
  refine gYc hd0 ?_;refine⟨⟨OA,OA⟩,?_⟩;conv=>whnf
  refine⟨⟨OA,OA⟩,?_⟩;conv=>whnf
  refine gYc hu0 ?_;refine brI (fun k1=>?_) (fun k1=>?_)
  .have k1:e0≠0:=by simpa using k1
   rw[Z4 (.inl k1)]at h5;subst h5;conv=>whnf
   refine gYn h25 ?_;exact⟨lr rfl,leG⟩
  have k1:e0=0:=by simpa using k1
  conv=>whnf
  refine brI (fun k2=>?_) (fun k2=>?_)
  .have k2:f0≠0:=by simpa using k2
   rw[Z4 (.inr k2)]at h5;subst h5;conv=>whnf
   refine gYn h25 ?_;exact⟨lr rfl,leG⟩
  have k2:f0=0:=by simpa using k2
  rw[Z5 (by simp[k1,k2])]at h5;conv=>whnf
  refine⟨(1,⟨⟨a01,a02,a03⟩,⟨b01,b02,b03⟩,false⟩),⟨by show 1<=4;decide,⟨vd0,vu0⟩,rfl,by exact h5⟩,by show 4-1<4-0;decide,?_⟩
  (conv=>whnf)
  refine q0 ?_ ?_
  .repeat' first|refine lc ?_ ?_|exact la0|exact lr rfl|exact ln0
  .repeat' first|refine lh1 ?_ ?_|exact lh0|exact bf0|exact bd0|exact zq rfl rfl|exact bg0 rfl
 .rw[g1]at h5;unfold stI at h5;simp only at h5;refine gYe ?_;refine⟨⟨by show(0:Int)<=1;decide,by show(1:Int)<4;decide⟩,?_⟩;conv=>whnf
  refine⟨⟨OA,OA⟩,?_⟩;conv=>whnf
  refine⟨⟨OA,OA⟩,?_⟩;conv=>whnf
  refine gYc hd1 ?_;refine⟨⟨OA,OA⟩,?_⟩;conv=>whnf
  refine⟨⟨OA,OA⟩,?_⟩;conv=>whnf
  refine gYc hu1 ?_;refine brI (fun k1=>?_) (fun k1=>?_)
  .have k1:e1≠0:=by simpa using k1
   rw[Z4 (.inl k1)]at h5;subst h5;conv=>whnf
   refine gYn h25 ?_;exact⟨lr rfl,leG⟩
  have k1:e1=0:=by simpa using k1
  conv=>whnf
  refine brI (fun k2=>?_) (fun k2=>?_)
  .have k2:f1≠0:=by simpa using k2
   rw[Z4 (.inr k2)]at h5;subst h5;conv=>whnf
   refine gYn h25 ?_;exact⟨lr rfl,leG⟩
  have k2:f1=0:=by simpa using k2
  rw[Z5 (by simp[k1,k2])]at h5;conv=>whnf
  refine gYn c1 ?_;refine brI (fun k3=>?_) (fun k3=>?_)
  .have k3:qr ⟨a11,a12,a13⟩ ⟨o1,o2,o3⟩<0:=Z0 k3;rw[Z4 k3]at h5;conv=>whnf
   refine gYn u1 ?_;refine brI (fun k4=>?_) (fun k4=>?_)
   .have k4:0<qr ⟨b11,b12,b13⟩ ⟨o4,o5,o6⟩:=Z0 k4;rw[Z4 k4]at h5;conv=>whnf
    refine⟨(2,⟨⟨a11,a12,a13⟩,⟨b11,b12,b13⟩,false⟩),⟨by show 2<=4;decide,⟨vd1,vu1⟩,rfl,by exact h5⟩,by show 4-2<4-1;decide,?_⟩
    (conv=>whnf)
    refine q0 ?_ ?_
    .repeat' first|refine lc ?_ ?_|exact la0|exact lr rfl|exact ln0
    .repeat' first|refine lh1 ?_ ?_|exact lh0|exact bf0|exact bd0|exact zq rfl rfl|exact bg0 rfl
   .have k4:¬0<qr ⟨b11,b12,b13⟩ ⟨o4,o5,o6⟩:=Z1 k4;rw[Z5 k4]at h5;conv=>whnf
    refine⟨(2,⟨⟨a11,a12,a13⟩,⟨o4,o5,o6⟩,false⟩),⟨by show 2<=4;decide,⟨vd1,h3⟩,rfl,by exact h5⟩,by show 4-2<4-1;decide,?_⟩
    (conv=>whnf)
    refine q0 ?_ ?_
    .repeat' first|refine lc ?_ ?_|exact la0|exact lr rfl|exact ln0
    .repeat' first|refine lh1 ?_ ?_|exact lh0|exact bf0|exact bd0|exact zq rfl rfl|exact bg0 rfl
  .have k3:¬qr ⟨a11,a12,a13⟩ ⟨o1,o2,o3⟩<0:=Z1 k3;rw[Z5 k3]at h5;conv=>whnf
   refine gYn u1 ?_;refine brI (fun k4=>?_) (fun k4=>?_)
   .have k4:0<qr ⟨b11,b12,b13⟩ ⟨o4,o5,o6⟩:=Z0 k4;rw[Z4 k4]at h5;conv=>whnf
    refine⟨(2,⟨⟨o1,o2,o3⟩,⟨b11,b12,b13⟩,false⟩),⟨by show 2<=4;decide,⟨h2,vu1⟩,rfl,by exact h5⟩,by show 4-2<4-1;decide,?_⟩
    (conv=>whnf)
    refine q0 ?_ ?_
    .repeat' first|refine lc ?_ ?_|exact la0|exact lr rfl|exact ln0
    .repeat' first|refine lh1 ?_ ?_|exact lh0|exact bf0|exact bd0|exact zq rfl rfl|exact bg0 rfl
   .have k4:¬0<qr ⟨b11,b12,b13⟩ ⟨o4,o5,o6⟩:=Z1 k4;rw[Z5 k4]at h5;conv=>whnf
    refine⟨(2,⟨⟨o1,o2,o3⟩,⟨o4,o5,o6⟩,false⟩),⟨by show 2<=4;decide,⟨h2,h3⟩,rfl,by exact h5⟩,by show 4-2<4-1;decide,?_⟩
    (conv=>whnf)
    refine q0 ?_ ?_
    .repeat' first|refine lc ?_ ?_|exact la0|exact lr rfl|exact ln0
    .repeat' first|refine lh1 ?_ ?_|exact lh0|exact bf0|exact bd0|exact zq rfl rfl|exact bg0 rfl
 .rw[g2]at h5;unfold stI at h5;simp only at h5;refine gYe ?_;refine⟨⟨by show(0:Int)<=2;decide,by show(2:Int)<4;decide⟩,?_⟩;conv=>whnf
  refine⟨⟨OA,OA⟩,?_⟩;conv=>whnf
  refine⟨⟨OA,OA⟩,?_⟩;conv=>whnf
  refine gYc hd2 ?_;refine⟨⟨OA,OA⟩,?_⟩;conv=>whnf
  refine⟨⟨OA,OA⟩,?_⟩;conv=>whnf
  refine gYc hu2 ?_;refine brI (fun k1=>?_) (fun k1=>?_)
  .have k1:e2≠0:=by simpa using k1
   rw[Z4 (.inl k1)]at h5;subst h5;conv=>whnf
   refine gYn h25 ?_;exact⟨lr rfl,leG⟩
  have k1:e2=0:=by simpa using k1
  conv=>whnf
  refine brI (fun k2=>?_) (fun k2=>?_)
  .have k2:f2≠0:=by simpa using k2
   rw[Z4 (.inr k2)]at h5;subst h5;conv=>whnf
   refine gYn h25 ?_;exact⟨lr rfl,leG⟩
  have k2:f2=0:=by simpa using k2
  rw[Z5 (by simp[k1,k2])]at h5;conv=>whnf
  refine gYn c2 ?_;refine brI (fun k3=>?_) (fun k3=>?_)
  .have k3:qr ⟨a21,a22,a23⟩ ⟨o1,o2,o3⟩<0:=Z0 k3;rw[Z4 k3]at h5;conv=>whnf
   refine gYn u2 ?_;refine brI (fun k4=>?_) (fun k4=>?_)
   .have k4:0<qr ⟨b21,b22,b23⟩ ⟨o4,o5,o6⟩:=Z0 k4;rw[Z4 k4]at h5;conv=>whnf
    refine⟨(3,⟨⟨a21,a22,a23⟩,⟨b21,b22,b23⟩,false⟩),⟨by show 3<=4;decide,⟨vd2,vu2⟩,rfl,by exact h5⟩,by show 4-3<4-2;decide,?_⟩
    (conv=>whnf)
    refine q0 ?_ ?_
    .repeat' first|refine lc ?_ ?_|exact la0|exact lr rfl|exact ln0
    .repeat' first|refine lh1 ?_ ?_|exact lh0|exact bf0|exact bd0|exact zq rfl rfl|exact bg0 rfl
   .have k4:¬0<qr ⟨b21,b22,b23⟩ ⟨o4,o5,o6⟩:=Z1 k4;rw[Z5 k4]at h5;conv=>whnf
    refine⟨(3,⟨⟨a21,a22,a23⟩,⟨o4,o5,o6⟩,false⟩),⟨by show 3<=4;decide,⟨vd2,h3⟩,rfl,by exact h5⟩,by show 4-3<4-2;decide,?_⟩
    (conv=>whnf)
    refine q0 ?_ ?_
    .repeat' first|refine lc ?_ ?_|exact la0|exact lr rfl|exact ln0
    .repeat' first|refine lh1 ?_ ?_|exact lh0|exact bf0|exact bd0|exact zq rfl rfl|exact bg0 rfl
  .have k3:¬qr ⟨a21,a22,a23⟩ ⟨o1,o2,o3⟩<0:=Z1 k3;rw[Z5 k3]at h5;conv=>whnf
   refine gYn u2 ?_;refine brI (fun k4=>?_) (fun k4=>?_)
   .have k4:0<qr ⟨b21,b22,b23⟩ ⟨o4,o5,o6⟩:=Z0 k4;rw[Z4 k4]at h5;conv=>whnf
    refine⟨(3,⟨⟨o1,o2,o3⟩,⟨b21,b22,b23⟩,false⟩),⟨by show 3<=4;decide,⟨h2,vu2⟩,rfl,by exact h5⟩,by show 4-3<4-2;decide,?_⟩
    (conv=>whnf)
    refine q0 ?_ ?_
    .repeat' first|refine lc ?_ ?_|exact la0|exact lr rfl|exact ln0
    .repeat' first|refine lh1 ?_ ?_|exact lh0|exact bf0|exact bd0|exact zq rfl rfl|exact bg0 rfl
   .have k4:¬0<qr ⟨b21,b22,b23⟩ ⟨o4,o5,o6⟩:=Z1 k4;rw[Z5 k4]at h5;conv=>whnf
    refine⟨(3,⟨⟨o1,o2,o3⟩,⟨o4,o5,o6⟩,false⟩),⟨by show 3<=4;decide,⟨h2,h3⟩,rfl,by exact h5⟩,by show 4-3<4-2;decide,?_⟩
    (conv=>whnf)
    refine q0 ?_ ?_
    .repeat' first|refine lc ?_ ?_|exact la0|exact lr rfl|exact ln0
    .repeat' first|refine lh1 ?_ ?_|exact lh0|exact bf0|exact bd0|exact zq rfl rfl|exact bg0 rfl
 .rw[g3]at h5;unfold stI at h5;simp only at h5;refine gYe ?_;refine⟨⟨by show(0:Int)<=3;decide,by show(3:Int)<4;decide⟩,?_⟩;conv=>whnf
  refine⟨⟨OA,OA⟩,?_⟩;conv=>whnf
  refine⟨⟨OA,OA⟩,?_⟩;conv=>whnf
  refine gYc hd3 ?_;refine⟨⟨OA,OA⟩,?_⟩;conv=>whnf
  refine⟨⟨OA,OA⟩,?_⟩;conv=>whnf
  refine gYc hu3 ?_;refine brI (fun k1=>?_) (fun k1=>?_)
  .have k1:e3≠0:=by simpa using k1
   rw[Z4 (.inl k1)]at h5;subst h5;conv=>whnf
   refine gYn h25 ?_;exact⟨lr rfl,leG⟩
  have k1:e3=0:=by simpa using k1
  conv=>whnf
  refine brI (fun k2=>?_) (fun k2=>?_)
  .have k2:f3≠0:=by simpa using k2
   rw[Z4 (.inr k2)]at h5;subst h5;conv=>whnf
   refine gYn h25 ?_;exact⟨lr rfl,leG⟩
  have k2:f3=0:=by simpa using k2
  rw[Z5 (by simp[k1,k2])]at h5;conv=>whnf
  refine gYn c3 ?_;refine brI (fun k3=>?_) (fun k3=>?_)
  .have k3:qr ⟨a31,a32,a33⟩ ⟨o1,o2,o3⟩<0:=Z0 k3;rw[Z4 k3]at h5;conv=>whnf
   refine gYn u3 ?_;refine brI (fun k4=>?_) (fun k4=>?_)
   .have k4:0<qr ⟨b31,b32,b33⟩ ⟨o4,o5,o6⟩:=Z0 k4;rw[Z4 k4]at h5;conv=>whnf
    refine⟨(4,⟨⟨a31,a32,a33⟩,⟨b31,b32,b33⟩,false⟩),⟨by show 4<=4;decide,⟨vd3,vu3⟩,rfl,by rw[g4];exact h5⟩,by show 4-4<4-3;decide,?_⟩
    (conv=>whnf)
    refine q0 ?_ ?_
    .repeat' first|refine lc ?_ ?_|exact la0|exact lr rfl|exact ln0
    .repeat' first|refine lh1 ?_ ?_|exact lh0|exact bf0|exact bd0|exact zq rfl rfl|exact bg0 rfl
   .have k4:¬0<qr ⟨b31,b32,b33⟩ ⟨o4,o5,o6⟩:=Z1 k4;rw[Z5 k4]at h5;conv=>whnf
    refine⟨(4,⟨⟨a31,a32,a33⟩,⟨o4,o5,o6⟩,false⟩),⟨by show 4<=4;decide,⟨vd3,h3⟩,rfl,by rw[g4];exact h5⟩,by show 4-4<4-3;decide,?_⟩
    (conv=>whnf)
    refine q0 ?_ ?_
    .repeat' first|refine lc ?_ ?_|exact la0|exact lr rfl|exact ln0
    .repeat' first|refine lh1 ?_ ?_|exact lh0|exact bf0|exact bd0|exact zq rfl rfl|exact bg0 rfl
  .have k3:¬qr ⟨a31,a32,a33⟩ ⟨o1,o2,o3⟩<0:=Z1 k3;rw[Z5 k3]at h5;conv=>whnf
   refine gYn u3 ?_;refine brI (fun k4=>?_) (fun k4=>?_)
   .have k4:0<qr ⟨b31,b32,b33⟩ ⟨o4,o5,o6⟩:=Z0 k4;rw[Z4 k4]at h5;conv=>whnf
    refine⟨(4,⟨⟨o1,o2,o3⟩,⟨b31,b32,b33⟩,false⟩),⟨by show 4<=4;decide,⟨h2,vu3⟩,rfl,by rw[g4];exact h5⟩,by show 4-4<4-3;decide,?_⟩
    (conv=>whnf)
    refine q0 ?_ ?_
    .repeat' first|refine lc ?_ ?_|exact la0|exact lr rfl|exact ln0
    .repeat' first|refine lh1 ?_ ?_|exact lh0|exact bf0|exact bd0|exact zq rfl rfl|exact bg0 rfl
   .have k4:¬0<qr ⟨b31,b32,b33⟩ ⟨o4,o5,o6⟩:=Z1 k4;rw[Z5 k4]at h5;conv=>whnf
    refine⟨(4,⟨⟨o1,o2,o3⟩,⟨o4,o5,o6⟩,false⟩),⟨by show 4<=4;decide,⟨h2,h3⟩,rfl,by rw[g4];exact h5⟩,by show 4-4<4-3;decide,?_⟩
    (conv=>whnf)
    refine q0 ?_ ?_
    .repeat' first|refine lc ?_ ?_|exact la0|exact lr rfl|exact ln0
    .repeat' first|refine lh1 ?_ ?_|exact lh0|exact bf0|exact bd0|exact zq rfl rfl|exact bg0 rfl
 .rw[g4]at h5;subst h5;refine gYe ?_;exact⟨lr rfl,leG⟩
