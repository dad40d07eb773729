/- Intervals: products, quotients, squares, Meet, Width. -/
import Derived.Test.YthbgbmdmimejiaaGreatDoorJYy
import Derived.Test.YthbgbmdmimejiaaGreatDoorJYXb
import Derived.Test.YthbgbmdmimejiaaGreatDoorJVa
set_option linter.all false
open Int renaming toNat_natCast->q0
namespace Go.Proofs.YthbgbmdmimejiaaGreatDoor
open Go Go.Sx
set_option maxRecDepth 100000
set_option maxHeartbeats 8000000
def za0(x y:Iv)(p:Int):Iv:=if(kB x&&kB y)=true/\pcB p=true then kb (fun a b=>jr a b p.toNat false) (fun a b=>jr a b p.toNat true) x y else wI0
theorem i84(x y:Iv)(hx:RI x)(hy:RI y)(p:Int):Fn 98 G0 [.agg (ivC x),.agg (ivC y),.int .i64 p] (.agg (ivC (za0 x y p))) G0:=by
 have h126:=zn5 [x,y] OC (by simpa using⟨hx,hy⟩);rw[k2]at h126;have h127:=zxy p;have h25:=i25;rw[e25]at h25;have hR:za0 x y p=if(kB x&&kB y)=true/\pcB p=true then kb (fun a b=>jr a b p.toNat false) (fun a b=>jr a b p.toNat true) x y else wI0:=rfl
 generalize za0 x y p=R at*;by_cases hk:(kB x&&kB y)=true
 .rw[hk]at h126;by_cases hp:pcB p=true
  .rw[hp]at h127;rw[Z4 ⟨hk,hp⟩]at hR;rw[Bool.and_eq_true]at hk;have kx:=(qh hx).1 hk.1;have ky:=(qh hy).1 hk.2;obtain⟨q,rfl,hq⟩:=xm.1 hp;rw[q0]at hR;have n1:=i131m kx ky q hq;rw[<-hR]at n1;clear hR hk kx ky hx hy;refine fY6 Tryz.func98 rfl ?_;refine gYn h126 ?_;refine gYn h127 ?_;refine gYc n1 ?_;exact⟨lr rfl,leG⟩
  .rw[Z5 fun c=>hp c.2]at hR;rw[show pcB p=false by simpa using hp]at h127;subst hR;clear hk hx hy;refine fY6 Tryz.func98 rfl ?_;refine gYn h126 ?_;refine gYn h127 ?_;refine gYn h25 ?_;exact⟨lr rfl,leG⟩
 .rw[Z5 fun c=>hk c.1]at hR;rw[show(kB x&&kB y)=false by simpa using hk]at h126;subst hR;clear hk hx hy;refine fY6 Tryz.func98 rfl ?_;refine gYn h126 ?_;refine gYn h25 ?_;exact⟨lr rfl,leG⟩
def xp(x y:Iv)(p:Int):Iv:=if(kB x&&kB y)=true/\pcB p=true/\zln y≠0 then kb (fun a b=>ku a b p.toNat false) (fun a b=>ku a b p.toNat true) x y else wI0
theorem i85(x y:Iv)(hx:RI x)(hy:RI y)(p:Int):Fn 99 G0 [.agg (ivC x),.agg (ivC y),.int .i64 p] (.agg (ivC (xp x y p))) G0:=by
 have h126:=zn5 [x,y] OC (by simpa using⟨hx,hy⟩);rw[k2]at h126;have h127:=zxy p;have h25:=i25;have h134:=i134 y hy;rw[e25]at h25;have hR:xp x y p=if(kB x&&kB y)=true/\pcB p=true/\zln y≠0 then kb (fun a b=>ku a b p.toNat false) (fun a b=>ku a b p.toNat true) x y else wI0:=rfl
 generalize xp x y p=R at*;generalize zln y=S at*;by_cases hk:(kB x&&kB y)=true
 .rw[hk]at h126;by_cases hp:pcB p=true
  .rw[hp]at h127;by_cases hs:S=0
   .rw[Z5 fun c=>c.2.2 hs]at hR;subst hR hs;clear hk hx hy;refine fY6 Tryz.func99 rfl ?_;refine gYn h126 ?_;refine gYn h127 ?_;refine gYn h134 ?_;refine gYn h25 ?_;exact⟨lr rfl,leG⟩
   rw[Z4 ⟨hk,hp,hs⟩]at hR;rw[Bool.and_eq_true]at hk;have kx:=(qh hx).1 hk.1;have ky:=(qh hy).1 hk.2;obtain⟨q,rfl,hq⟩:=xm.1 hp;rw[q0]at hR;have n1:=i131d kx ky q hq;rw[<-hR]at n1;clear hR hk kx ky hx hy;refine fY6 Tryz.func99 rfl ?_;refine gYn h126 ?_;refine gYn h127 ?_;refine gYn h134 ?_;refine brI (fun k1=>?_) (fun k1=>?_)
   .have k1:S=0:=by simpa using k1
    exact absurd k1 hs
   conv=>whnf
   refine gYc n1 ?_;exact⟨lr rfl,leG⟩
  .rw[Z5 fun c=>hp c.2.1]at hR;rw[show pcB p=false by simpa using hp]at h127;subst hR;clear hk hx hy h134;refine fY6 Tryz.func99 rfl ?_;refine gYn h126 ?_;refine gYn h127 ?_;refine gYn h25 ?_;exact⟨lr rfl,leG⟩
 .rw[Z5 fun c=>hk c.1]at hR;rw[show(kB x&&kB y)=false by simpa using hk]at h126;subst hR;clear hk hx hy h134;refine fY6 Tryz.func99 rfl ?_;refine gYn h126 ?_;refine gYn h25 ?_;exact⟨lr rfl,leG⟩
def CI(x:Iv):Prop:=x=wI0\/(x.all=false/\VD x.lo/\VD x.hi)
theorem CI.ri{x:Iv}(h:CI x):RI x:=by
 rcases h with rfl|⟨_,h1,h2⟩
 .exact zjd
 .exact⟨h1.lb,h2.lb,by have:=h1.len;omega,by have:=h2.len;omega⟩
theorem zgr:CI wI0:=.inl rfl
theorem uh{a b:Dy×Int}(ha:VD a.1)(hb:VD b.1):CI (wm a b):=by
 unfold wm;split
 .exact zgr
 .exact .inr ⟨rfl,ha,hb⟩
theorem ww{p:Int}(h:pcB p=true):8<=p.toNat/\p.toNat<=512:=by
 obtain⟨q,rfl,hq⟩:=xm.1 h;exact hq
theorem zek(x y:Iv)(p:Int):CI (yj x y p):=by
 unfold yj;split
 .rename_i h;exact uh (zuf _ _ _ _ (ww h.2)) (zuf _ _ _ _ (ww h.2))
 .exact zgr
theorem qbg{dn up:Dy×Int}{o:Iv}{K:Iv->Iv}(h1:VD dn.1)(h2:VD up.1)(h3:VD o.lo)(h4:VD o.hi)(hK:∀o,o.all=false->VD o.lo->VD o.hi->CI (K o)):CI (stI dn up o K):=by
 unfold stI;split
 .exact zgr
 .refine hK _ rfl ?_ ?_
  .simp only;split<;>assumption
  .simp only;split<;>assumption
theorem zoe(dn up:Dy->Dy->Dy×Int)(x y:Iv):kb dn up x y=s0I (dn x.lo y.lo) (up x.lo y.lo) (fun o=>stI (dn x.lo y.hi) (up x.lo y.hi) o (fun o=>stI (dn x.hi y.lo) (up x.hi y.lo) o (fun o=>stI (dn x.hi y.hi) (up x.hi y.hi) o (fun o=>o)))):=by
 unfold kb;rw[f4I]
theorem zuo{dn up:Dy->Dy->Dy×Int}(h1:∀a b,VD (dn a b).1)(h2:∀a b,VD (up a b).1)(x y:Iv):CI (kb dn up x y):=by
 rw[zoe];unfold s0I;split
 .exact zgr
 .refine qbg (h1 _ _) (h2 _ _) (h1 _ _) (h2 _ _) fun o _ a b=>?_
  refine qbg (h1 _ _) (h2 _ _) a b fun o _ a b=>?_
  refine qbg (h1 _ _) (h2 _ _) a b fun o c a b=>?_
  exact .inr ⟨c,a,b⟩
theorem zum(x y:Iv)(p:Int):CI (za0 x y p):=by
 unfold za0;split
 .rename_i h;exact zuo (fun a b=>ul _ _ _ _ (ww h.2)) (fun a b=>ul _ _ _ _ (ww h.2)) x y
 .exact zgr
theorem zyh(x y:Iv)(p:Int):CI (xp x y p):=by
 unfold xp;split
 .rename_i h;exact zuo (fun a b=>zau _ _ _ _ (ww h.2.1)) (fun a b=>zau _ _ _ _ (ww h.2.1)) x y
 .exact zgr
theorem qfj{x:Iv}(h:RI x):CI (zk8 x):=by
 unfold zk8;split
 .rename_i hk;have k:=(qh h).1 hk;exact .inr ⟨rfl,zdk k.hi,zdk k.lo⟩
 .exact zgr
theorem qfh(x:Iv)(n p:Int):CI (zxl x n p):=by
 unfold zxl;split
 .rename_i h;split
  .exact .inr ⟨rfl,kq 1 OA,kq 1 OA⟩
  .exact uh (zyc _ _ _ _ (ww h.2.1)) (zyc _ _ _ _ (ww h.2.1))
 .exact zgr
theorem qbh(x:Iv)(p:Int):CI (zji x p):=by
 unfold zji;split
 .rename_i h;exact uh (zuc _ _ _ (ww h.2.1)) (zuc _ _ _ (ww h.2.1))
 .exact zgr
def qbz(r:Rt)(p:Int):Iv:=if rOk r=true then wm (ku (kr r.n) (kr r.d) p.toNat false) (ku (kr r.n) (kr r.d) p.toNat true)else wI0
theorem qfp(r:Rt){p:Int}(hp:pcB p=true):CI (qbz r p):=by
 unfold qbz;split
 .exact uh (zau _ _ _ _ (ww hp)) (zau _ _ _ _ (ww hp))
 .exact zgr
theorem i50(r:Rt)(p:Int)(hp:pcB p=true):Fn 60 G0 [.agg [.int .i64 r.n,.int .i64 r.d],.int .i64 p] (.agg (ivC (qbz r p))) G0:=by
 have h15:=f54 r.n r.d;have hR:qbz r p=if rOk r=true then wm (ku (kr r.n) (kr r.d) p.toNat false) (ku (kr r.n) (kr r.d) p.toNat true)else wI0:=rfl
 have hr:rOk ⟨r.n,r.d⟩=rOk r:=rfl;rw[hr]at h15;generalize qbz r p=R at*;by_cases h:rOk r=true
 .rw[Z4 h]at hR;rw[h]at h15;obtain⟨q,rfl,hq⟩:=xm.1 hp;rw[q0]at hR;have hb:=zxi h;unfold rIn at hb;have n1:=v77 r.n O;have n2:=v77 r.d O;have vn:=kq r.n O;have vd:=kq r.d O;have n3:=v76 vn vd q hq;have n4:=v78 vn vd q hq;generalize ku (kr r.n) (kr r.d) q false=A at*;generalize ku (kr r.n) (kr r.d) q true=B at*;generalize kr r.n=N at*;generalize kr r.d=D at*;clear vn vd;obtain⟨⟨a1,a2,a3⟩,e⟩:=A;obtain⟨⟨b1,b2,b3⟩,f⟩:=B;unfold wm at hR;simp only at hR;refine fY6 Tryz.func60 rfl ?_;refine gYn h15 ?_;refine gYc n1 ?_;refine gYc n2 ?_;refine gYc n3 ?_;refine gYd ?_;refine gYc n1 ?_;refine gYc n2 ?_;refine gYc n4 ?_;refine gYd ?_;refine brI (fun k1=>?_) (fun k1=>?_)
  .have k1:e≠0:=by simpa using k1
   rw[Z4 (.inl k1)]at hR;subst hR;conv=>whnf
   exact⟨leW,leG⟩
  have k1:e=0:=by simpa using k1
  conv=>whnf
  refine brI (fun k2=>?_) (fun k2=>?_)
  .have k2:f≠0:=by simpa using k2
   rw[Z4 (.inr k2)]at hR;subst hR;conv=>whnf
   exact⟨leW,leG⟩
  have k2:f=0:=by simpa using k2
  rw[Z5 (by simp[k1,k2])]at hR;subst hR;conv=>whnf
  exact⟨lr rfl,leG⟩
 .rw[Z5 h]at hR;rw[show rOk r=false by simpa using h]at h15;subst hR;refine fY6 Tryz.func60 rfl ?_;refine gYn h15 ?_;exact⟨leW,leG⟩
def apI(fx:Int->Iv->Int->Iv)(k n:Int)(x y:Iv)(p:Int):Iv:=
 if k=3 then yj x y p else if k=4 then qcm x y p else if k=5 then za0 x y p else if k=6 then xp x y p else if k=7 then zk8 x else if k=8 then zxl x n p
 else if k=13 then zji x p else if 9<=k/\k<=12 then fx k x p else wI0
def Ka(k:Int):Prop:=k=3\/k=4\/k=5\/k=6\/k=7\/k=8\/k=13
theorem CI_ap{fx:Int->Iv->Int->Iv}{k:Int}(hk:Ka k)(n:Int){x:Iv}(y:Iv)(p:Int)(hx:RI x):CI (apI fx k n x y p):=by
 rcases hk with rfl|rfl|rfl|rfl|rfl|rfl|rfl
 .exact zek _ _ _
 .exact zek _ _ _
 .exact zum _ _ _
 .exact zyh _ _ _
 .exact qfj hx
 .exact qfh _ _ _
 .exact qbh _ _
theorem i52{fx:Int->Iv->Int->Iv}{k:Int}(hk:Ka k)(n:Int)(x y:Iv)(hx:RI x)(hy:RI y)(p:Int):Fn 61 G0 [.int .i64 k,.int .i64 n,.agg (ivC x),.agg (ivC y),.int .i64 p] (.agg (ivC (apI fx k n x y p))) G0:=by
 have h3:=i82 x y hx hy p;have h4:=i83 x y hx hy p;have h5:=i84 x y hx hy p;have h6:=i85 x y hx hy p;have h7:=i86 x hx;have h8:=i87 x hx n p;have h13:=i92 x hx p;rcases hk with rfl|rfl|rfl|rfl|rfl|rfl|rfl
 .have e:apI fx 3 n x y p=yj x y p:=rfl;rw[e];generalize yj x y p=R at*;clear h4 h5 h6 h7 h8 h13 hx hy;refine fY6 Tryz.func61 rfl ?_;refine gYc h3 ?_;exact⟨lr rfl,leG⟩
 .have e:apI fx 4 n x y p=qcm x y p:=rfl;rw[e];generalize qcm x y p=R at*;clear h3 h5 h6 h7 h8 h13 hx hy;refine fY6 Tryz.func61 rfl ?_;refine gYc h4 ?_;exact⟨lr rfl,leG⟩
 .have e:apI fx 5 n x y p=za0 x y p:=rfl;rw[e];generalize za0 x y p=R at*;clear h3 h4 h6 h7 h8 h13 hx hy;refine fY6 Tryz.func61 rfl ?_;refine gYc h5 ?_;exact⟨lr rfl,leG⟩
 .have e:apI fx 6 n x y p=xp x y p:=rfl;rw[e];generalize xp x y p=R at*;clear h3 h4 h5 h7 h8 h13 hx hy;refine fY6 Tryz.func61 rfl ?_;refine gYc h6 ?_;exact⟨lr rfl,leG⟩
 .have e:apI fx 7 n x y p=zk8 x:=rfl;rw[e];generalize zk8 x=R at*;clear h3 h4 h5 h6 h8 h13 hx hy;refine fY6 Tryz.func61 rfl ?_;refine gYn h7 ?_;exact⟨lr rfl,leG⟩
 .have e:apI fx 8 n x y p=zxl x n p:=rfl;rw[e];generalize zxl x n p=R at*;clear h3 h4 h5 h6 h7 h13 hx hy;refine fY6 Tryz.func61 rfl ?_;refine gYc h8 ?_;exact⟨lr rfl,leG⟩
 .have e:apI fx 13 n x y p=zji x p:=rfl;rw[e];generalize zji x p=R at*;clear h3 h4 h5 h6 h7 h8 hx hy;refine fY6 Tryz.func61 rfl ?_;refine gYc h13 ?_;exact⟨lr rfl,leG⟩
def zI:Iv:=⟨d0,d0,false⟩
def ApK(fx:Int->Iv->Int->Iv)(K:Int->Prop)(p:Int):Prop:=
 ∀k n x y,K k->RI x->RI y->Fn 61 G0 [.int .i64 k,.int .i64 n,.agg (ivC x),.agg (ivC y),.int .i64 p] (.agg (ivC (apI fx k n x y p))) G0/\CI (apI fx k n x y p)
