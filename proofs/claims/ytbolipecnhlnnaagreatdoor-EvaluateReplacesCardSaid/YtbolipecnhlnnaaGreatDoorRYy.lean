/-
  Intervals: less, more, magnitudes, Abs, Hull, Scale, Round, Sqrt, Width.
-/
import Derived.Test.YtbolipecnhlnnaaGreatDoorRYu
set_option linter.unusedVariables false
set_option linter.unusedSimpArgs false
open Int renaming toNat_natCast->q2
namespace Go.Proofs.YtbolipecnhlnnaaGreatDoor
open Go Go.Sx
set_option maxRecDepth 100000
set_option maxHeartbeats 8000000
def yi (a b:Dy):Dy:=if qt a b<=0 then a else b
def yf (a b:Dy):Dy:=if 0<=qt a b then a else b
theorem i226 {a b:Dy} (ha:VD a) (hb:VD b):Fn 238 [] [.agg (dyC a),.agg (dyC b)] (.agg (dyC (yi a b))) []:=by
 have h81:=v81 ha hb;have hR:yi a b=if qt a b<=0 then a else b:=rfl
 generalize yi a b=R at*;generalize qt a b=C at*;clear ha hb;refine fnT hT6 hmx Tryz.func238 rfl rfl (ex:= []) ?_;conv=>whnf
 refine gZn h81 ?_;conv=>whnf
 refine brI (fun h1=>?_) (fun h1=>?_)
 ·have h1:C<=0:=of_decide_eq_true h1;rw[hR,if_pos h1];conv=>whnf
  exact⟨lr rfl,lh0⟩
 ·have h1: ¬C<=0:=of_decide_eq_false h1;rw[hR,if_neg h1];conv=>whnf
  exact⟨lr rfl,lh0⟩
theorem i227 {a b:Dy} (ha:VD a) (hb:VD b):Fn 237 [] [.agg (dyC a),.agg (dyC b)] (.agg (dyC (yf a b))) []:=by
 have h81:=v81 ha hb;have hR:yf a b=if 0<=qt a b then a else b:=rfl
 generalize yf a b=R at*;generalize qt a b=C at*;clear ha hb;refine fnT hT6 hmx Tryz.func237 rfl rfl (ex:= []) ?_;conv=>whnf
 refine gZn h81 ?_;conv=>whnf
 refine brI (fun h1=>?_) (fun h1=>?_)
 ·have h1:0<=C:=of_decide_eq_true h1;rw[hR,if_pos h1];conv=>whnf
  exact⟨lr rfl,lh0⟩
 ·have h1: ¬0<=C:=of_decide_eq_false h1;rw[hR,if_neg h1];conv=>whnf
  exact⟨lr rfl,lh0⟩
theorem zhk {a b:Dy} (ha:VD a) (hb:VD b):VD (yi a b):=by unfold yi;split<;>assumption
theorem zhj {a b:Dy} (ha:VD a) (hb:VD b):VD (yf a b):=by unfold yf;split<;>assumption
def jx (x:Iv):Dy:=yf (za7 x.lo) (za7 x.hi)
def zb3 (x:Iv):Dy:=if zmu x=0 then d0 else yi (za7 x.lo) (za7 x.hi)
theorem za4 {x:Iv} (k:KI x):VD (jx x):=zhj (zec k.lo) (zec k.hi)
theorem ze6 {x:Iv} (k:KI x):VD (zb3 x):=by
 unfold zb3;split
 ·exact qf
 ·exact zhk (zec k.lo) (zec k.hi)
theorem qb1 {h h':Hp} {b:Bool}:leA h h' (.tup [.agg [.bool false,.nilsl,.int .i64 0],.bool b]) (.tup [.agg (dyC d0),.bool b]):=lt0 (lc qb2 (lc (lr rfl) ln0))
theorem i182 (x:Iv) (h:RI x):Fn 205 [] [.agg (ivC x)] (.tup [.agg (dyC (if kB x=true then jx x else d0)),.bool (kB x)]) []:=by
 have h126:=zpc [x] (by simp) (by simpa using h);rw[k1]at h126;by_cases hk:kB x=true
 ·have k:=(zp h).1 hk;rw[if_pos hk,hk];rw[hk]at h126;have n1:=qea k.lo;have n2:=qea k.hi;have n3:=i227 (zec k.lo) (zec k.hi);have hR:yf (za7 x.lo) (za7 x.hi)=jx x:=rfl;rw[hR]at n3;generalize jx x=M at*;generalize za7 x.lo=a at*;generalize za7 x.hi=b at*;clear k hk h hR;refine fnT hT6 hmx Tryz.func205 rfl rfl (ex:= []) ?_;conv=>whnf
  refine gZn h126 ?_;conv=>whnf
  refine gZn n1 ?_;conv=>whnf
  refine gZn n2 ?_;conv=>whnf
  refine gZn n3 ?_;conv=>whnf
  (refine⟨by kernel_rfl,by kernel_rfl,?_⟩;(conv=>whnf))
  exact⟨lr rfl,lh0⟩
 ·have hk:kB x=false:=by simpa using hk
  rw[hk,if_neg (by simp)];rw[hk]at h126;clear hk h;refine fnT hT6 hmx Tryz.func205 rfl rfl (ex:= []) ?_;conv=>whnf
  refine gZn h126 ?_;conv=>whnf
  exact⟨qb1,lh0⟩
theorem i181 (x:Iv) (h:RI x):Fn 370 [] [.agg (ivC x)] (.tup [.agg (dyC (if kB x=true then zb3 x else d0)),.bool (kB x)]) []:=by
 have h126:=zpc [x] (by simp) (by simpa using h);have h134:=i134 x h;rw[k1]at h126;by_cases hk:kB x=true
 ·have k:=(zp h).1 hk;rw[if_pos hk,hk];rw[hk]at h126;have n1:=qea k.lo;have n2:=qea k.hi;have n3:=i226 (zec k.lo) (zec k.hi);have hR:zb3 x=if zmu x=0 then d0 else yi (za7 x.lo) (za7 x.hi):=rfl
  generalize zb3 x=M at*;generalize zmu x=S at*;generalize yi (za7 x.lo) (za7 x.hi)=L at*;generalize za7 x.lo=a at*;generalize za7 x.hi=b at*;clear k hk h;refine fnT hT6 hmx Tryz.func370 rfl rfl (ex:= []) ?_;conv=>whnf
  refine gZn h126 ?_;conv=>whnf
  refine gZn h134 ?_;conv=>whnf
  refine brI (fun h1=>?_) (fun h1=>?_)
  ·have h1:S=0:=by simpa using h1
   rw[if_pos h1]at hR;subst hR;conv=>whnf
   exact⟨qb1,lh0⟩
  have h1:S≠0:=by simpa using h1
  rw[if_neg h1]at hR;subst hR;conv=>whnf
  refine gZn n1 ?_;conv=>whnf
  refine gZn n2 ?_;conv=>whnf
  refine gZn n3 ?_;conv=>whnf
  (refine⟨by kernel_rfl,by kernel_rfl,?_⟩;(conv=>whnf))
  exact⟨lr rfl,lh0⟩
 ·have hk:kB x=false:=by simpa using hk
  rw[hk,if_neg (by simp)];rw[hk]at h126;clear hk h h134;refine fnT hT6 hmx Tryz.func370 rfl rfl (ex:= []) ?_;conv=>whnf
  refine gZn h126 ?_;conv=>whnf
  exact⟨qb1,lh0⟩
def zvp (x:Iv):Iv:=if kB x=true then⟨zb3 x,jx x,false⟩else wI0
theorem i137 (x:Iv) (h:RI x):Fn 310 [] [.agg (ivC x)] (.agg (ivC (zvp x))) []:=by
 have h126:=zpc [x] (by simp) (by simpa using h);rw[k1]at h126;have n1:=i181 x h;have n2:=i182 x h;have h25:=i25;rw[e25]at h25;have hR:zvp x=if kB x=true then⟨zb3 x,jx x,false⟩else wI0:=rfl
 generalize zvp x=R at*;generalize kB x=K at*
 cases K with
 |true=>
  rw[if_pos rfl]at hR n1 n2;generalize jx x=a at*;generalize zb3 x=b at*;subst hR;clear h;refine fnT hT6 hmx Tryz.func310 rfl rfl (ex:= []) ?_;conv=>whnf
  refine gZn h126 ?_;conv=>whnf
  refine gZn n1 ?_;conv=>whnf
  refine gZn n2 ?_;conv=>whnf
  exact⟨lr rfl,lh0⟩
 |false=>
  rw[if_neg (by simp)]at hR;subst hR;clear h n1 n2;refine fnT hT6 hmx Tryz.func310 rfl rfl (ex:= []) ?_;conv=>whnf
  refine gZn h126 ?_;conv=>whnf
  refine gZn h25 ?_;conv=>whnf
  exact⟨lr rfl,lh0⟩
def zel (x y:Iv):Iv:=if(kB x&&kB y)=true then⟨yi x.lo y.lo,yf x.hi y.hi,false⟩else wI0
theorem i201 (x y:Iv) (hx:RI x) (hy:RI y):Fn 165 [] [.agg (ivC x),.agg (ivC y)] (.agg (ivC (zel x y))) []:=by
 have h126:=zpc [x,y] (by simp) (by simpa using⟨hx,hy⟩);rw[k2]at h126;have h25:=i25;rw[e25]at h25;have hR:zel x y=if(kB x&&kB y)=true then⟨yi x.lo y.lo,yf x.hi y.hi,false⟩else wI0:=rfl
 generalize zel x y=R at*;by_cases hk:(kB x&&kB y)=true
 ·rw[hk]at h126;rw[if_pos hk]at hR;rw[Bool.and_eq_true]at hk;have kx:=(zp hx).1 hk.1;have ky:=(zp hy).1 hk.2;have n1:=i226 kx.lo ky.lo;have n2:=i227 kx.hi ky.hi;generalize yi x.lo y.lo=a at*;generalize yf x.hi y.hi=b at*;subst hR;clear kx ky hx hy hk;refine fnT hT6 hmx Tryz.func165 rfl rfl (ex:= []) ?_;conv=>whnf
  refine gZn h126 ?_;conv=>whnf
  refine gZn n1 ?_;conv=>whnf
  refine gZn n2 ?_;conv=>whnf
  (refine⟨by kernel_rfl,by kernel_rfl,?_⟩;(conv=>whnf))
  exact⟨lr rfl,lh0⟩
 ·rw[if_neg hk]at hR;rw[show(kB x&&kB y)=false by simpa using hk]at h126;subst hR;clear hx hy hk;refine fnT hT6 hmx Tryz.func165 rfl rfl (ex:= []) ?_;conv=>whnf
  refine gZn h126 ?_;conv=>whnf
  refine gZn h25 ?_;conv=>whnf
  exact⟨lr rfl,lh0⟩
def wh (x:Iv) (k:Int):Iv:=if kB x=true then wa (vj x.lo k) (vj x.hi k)else wI0
theorem i191 (x:Iv) (h:RI x) (k:Int):Fn 130 G0 [.agg (ivC x),.int .i64 k] (.agg (ivC (wh x k))) G0:=by
 have h126:=zpc [x] (by simp) (by simpa using h);rw[k1]at h126;have h25:=i25;rw[e25]at h25;have hR:wh x k=if kB x=true then wa (vj x.lo k) (vj x.hi k)else wI0:=rfl
 generalize wh x k=R at*;by_cases hk:kB x=true
 ·rw[hk]at h126;rw[if_pos hk]at hR;have kx:=(zp h).1 hk;have n1:=v230 kx.lo k;have n2:=v230 kx.hi k;have n3:=qdv (vj x.lo k) (vj x.hi k);rw[←hR]at n3;generalize vj x.lo k=a at*;generalize vj x.hi k=b at*;clear kx h hk hR;obtain⟨⟨a1,a2,a3⟩,e⟩:=a;obtain⟨⟨b1,b2,b3⟩,f⟩:=b;refine fnT hT6 hmx Tryz.func130 rfl rfl (ex:= []) ?_;conv=>whnf
  refine gZn h126 ?_;conv=>whnf
  refine gZc n1 ?_;conv=>whnf
  refine gZc n2 ?_;conv=>whnf
  refine gZn n3 ?_;conv=>whnf
  exact⟨lr rfl,leG⟩
 ·rw[if_neg hk]at hR;rw[show kB x=false by simpa using hk]at h126;subst hR;clear h hk;refine fnT hT6 hmx Tryz.func130 rfl rfl (ex:= []) ?_;conv=>whnf
  refine gZn h126 ?_;conv=>whnf
  refine gZn h25 ?_;conv=>whnf
  exact⟨lr rfl,leG⟩
def qm (x:Iv) (p:Int):Iv:=if kB x=true/\pcB p=true then wa (qo x.lo p.toNat false) (qo x.hi p.toNat true)else wI0
theorem qf6 (x:Iv) (h:RI x) (p:Int):Fn 154 G0 [.agg (ivC x),.int .i64 p] (.agg (ivC (qm x p))) G0:=by
 have h126:=zpc [x] (by simp) (by simpa using h);rw[k1]at h126;have h127:=zzj p;have h25:=i25;rw[e25]at h25;have hR:qm x p=if kB x=true/\pcB p=true then wa (qo x.lo p.toNat false) (qo x.hi p.toNat true)else wI0:=rfl
 generalize qm x p=R at*;by_cases hk:kB x=true
 ·rw[hk]at h126;by_cases hp:pcB p=true
  ·rw[hp]at h127;rw[if_pos ⟨hk,hp⟩]at hR;have kx:=(zp h).1 hk;obtain⟨q,rfl,hq⟩:=kg.1 hp;rw[q2]at hR;have n1:=v185 kx.lo q hq;have n2:=v184 kx.hi q hq;have n3:=qdv (qo x.lo q false) (qo x.hi q true);rw[←hR]at n3;generalize qo x.lo q false=a at*;generalize qo x.hi q true=b at*;clear kx h hk hR;obtain⟨⟨a1,a2,a3⟩,e⟩:=a;obtain⟨⟨b1,b2,b3⟩,f⟩:=b;refine fnT hT6 hmx Tryz.func154 rfl rfl (ex:= []) ?_;conv=>whnf
   refine gZn h126 ?_;conv=>whnf
   refine gZn h127 ?_;conv=>whnf
   refine gZc n1 ?_;conv=>whnf
   refine gZc n2 ?_;conv=>whnf
   refine gZn n3 ?_;conv=>whnf
   exact⟨lr rfl,leG⟩
  ·rw[if_neg fun c=>hp c.2]at hR;rw[show pcB p=false by simpa using hp]at h127;subst hR;clear h hk hp;refine fnT hT6 hmx Tryz.func154 rfl rfl (ex:= []) ?_;conv=>whnf
   refine gZn h126 ?_;conv=>whnf
   refine gZn h127 ?_;conv=>whnf
   refine gZn h25 ?_;conv=>whnf
   exact⟨lr rfl,leG⟩
 ·rw[if_neg fun c=>hk c.1]at hR;rw[show kB x=false by simpa using hk]at h126;subst hR;clear h hk;refine fnT hT6 hmx Tryz.func154 rfl rfl (ex:= []) ?_;conv=>whnf
  refine gZn h126 ?_;conv=>whnf
  refine gZn h25 ?_;conv=>whnf
  exact⟨lr rfl,leG⟩
theorem qfc {a b:Dy} (h:0<wl a) (hc:qt a b<=0):b.neg=false:=by
 rw[znz a (min a.e b.e)]at h;unfold qt zth at hc;unfold zth at h;have hb:0<zi b (min a.e b.e):=by
  generalize zi a (min a.e b.e)=x at*;generalize zi b (min a.e b.e)=y at*;split at h
  ·omega
  ·split at h
   ·split at hc
    ·omega
    ·split at hc<;>omega
   ·omega
 unfold zi at hb
 cases hn:b.neg with
 |false=>rfl
 |true=>rw[if_pos hn]at hb;omega
theorem ztf {a:Dy} (h:0<wl a):a.neg=false:=by
 unfold wl at h;split at h
 ·omega
 ·cases hn:a.neg with
  |false=>rfl
  |true=>rw[if_pos hn]at h;omega
def zcz (x:Iv) (p:Int):Iv:=if kB x=true/\pcB p=true/\0<wl x.lo then wa (uj x.lo p.toNat false) (uj x.hi p.toNat true)else wI0
theorem i92 (x:Iv) (h:RI x) (p:Int):Fn 270 G0 [.agg (ivC x),.int .i64 p] (.agg (ivC (zcz x p))) G0:=by
 have h126:=zpc [x] (by simp) (by simpa using h);rw[k1]at h126;have h127:=zzj p;have h25:=i25;rw[e25]at h25;have hR:zcz x p=if kB x=true/\pcB p=true/\0<wl x.lo then wa (uj x.lo p.toNat false) (uj x.hi p.toNat true)else wI0:=rfl
 generalize zcz x p=R at*;by_cases hk:kB x=true
 ·rw[hk]at h126;have kx:=(zp h).1 hk;have h124:=zrx kx.lo;by_cases hp:pcB p=true
  ·rw[hp]at h127;by_cases hs:0<wl x.lo
   ·rw[if_pos ⟨hk,hp,hs⟩]at hR;obtain⟨q,rfl,hq⟩:=kg.1 hp;rw[q2]at hR;have n1:=v145 kx.lo (ztf hs) q hq;have n2:=v146 kx.hi (qfc hs kx.le) q hq;have n3:=qdv (uj x.lo q false) (uj x.hi q true);rw[←hR]at n3;generalize uj x.lo q false=a at*;generalize uj x.hi q true=b at*;generalize wl x.lo=S at*;clear kx h hk hR;obtain⟨⟨a1,a2,a3⟩,e⟩:=a;obtain⟨⟨b1,b2,b3⟩,f⟩:=b;refine fnT hT6 hmx Tryz.func270 rfl rfl (ex:= []) ?_;conv=>whnf
    refine gZn h126 ?_;conv=>whnf
    refine gZn h127 ?_;conv=>whnf
    refine gZn h124 ?_;conv=>whnf
    refine brI (fun h1=>?_) (fun h1=>?_)
    ·have h1:S<=0:=of_decide_eq_true h1;omega
    conv=>whnf
    refine gZc n1 ?_;conv=>whnf
    refine gZc n2 ?_;conv=>whnf
    refine gZn n3 ?_;conv=>whnf
    exact⟨lr rfl,leG⟩
   ·rw[if_neg fun c=>hs c.2.2]at hR;subst hR;generalize wl x.lo=S at*;clear h hk kx;refine fnT hT6 hmx Tryz.func270 rfl rfl (ex:= []) ?_;conv=>whnf
    refine gZn h126 ?_;conv=>whnf
    refine gZn h127 ?_;conv=>whnf
    refine gZn h124 ?_;conv=>whnf
    refine brI (fun h1=>?_) (fun h1=>?_)
    rotate_left
    ·have h1: ¬S<=0:=of_decide_eq_false h1;omega
    conv=>whnf
    refine gZn h25 ?_;conv=>whnf
    exact⟨lr rfl,leG⟩
  ·rw[if_neg fun c=>hp c.2.1]at hR;rw[show pcB p=false by simpa using hp]at h127;subst hR;clear h hk hp kx h124;refine fnT hT6 hmx Tryz.func270 rfl rfl (ex:= []) ?_;conv=>whnf
   refine gZn h126 ?_;conv=>whnf
   refine gZn h127 ?_;conv=>whnf
   refine gZn h25 ?_;conv=>whnf
   exact⟨lr rfl,leG⟩
 ·rw[if_neg fun c=>hk c.1]at hR;rw[show kB x=false by simpa using hk]at h126;subst hR;clear h hk;refine fnT hT6 hmx Tryz.func270 rfl rfl (ex:= []) ?_;conv=>whnf
  refine gZn h126 ?_;conv=>whnf
  refine gZn h25 ?_;conv=>whnf
  exact⟨lr rfl,leG⟩
def xf (d:Dy) (p:Nat) (up:Bool):Nat->Dy×Int->Dy×Int
 |0,r=>r
 |k+1,r=>if r.2=0 then xf d p up k (jv r.1 d p up)else r
def zdq (d:Dy) (n p:Nat) (up:Bool):Dy×Int:=xf d p up (n-1) (qo d p up)
theorem zqb (d:Dy) (p:Nat) (up:Bool) (hp:8<=p/\p<=512): ∀k r,VD r.1->VD (xf d p up k r).1
 |0,r,h=>h
 |k+1,r,h=>by
  simp only[xf];split
  ·exact zqb d p up hp k _ (kb _ _ _ _ hp)
  ·exact h
theorem zvt (d:Dy) (n p:Nat) (up:Bool) (hp:8<=p/\p<=512):VD (zdq d n p up).1:=zqb d p up hp _ _ (wg _ _ _ hp)
theorem i183t {d:Dy} (hd:VD d) (n p:Nat) (hn:1<=n/\n<=16) (hp:8<=p/\p<=512):Fn 381 G0 [.agg (dyC d),.int .i64 n,.int .i64 p,.fn 225 [],.fn 73 []] (dyV (zdq d n p true)) G0:=by
 have h0:=v184 hd p hp;have hm: ∀a,VD a->Fn 73 G0 [.agg (dyC a),.agg (dyC d),.int .i64 p] (dyV (jv a d p true)) G0:=fun a ha=>qdk ha hd p hp
 have hv0:=wg d true p hp;obtain⟨R,hR⟩: ∃R,zdq d n p true=R:=⟨_,rfl⟩;rw[hR];unfold zdq at hR;generalize qo d p true=r0 at*;obtain⟨d1,d2,d3⟩:=d;have hm: ∀a,VD a->Fn 73 G0 [.agg (dyC a),.agg [.bool d1,.sl .u32 d2,.int .i64 d3],.int .i64 p] (dyV (jv a ⟨d1,d2,d3⟩ p true)) G0:=hm;obtain⟨⟨a1,a2,a3⟩,e0⟩:=r0;have h0:Fn 225 G0 [.agg [.bool d1,.sl .u32 d2,.int .i64 d3],.int .i64 p] (dyV (⟨a1,a2,a3⟩,e0)) G0:=h0;show Fn 381 G0 [.agg [.bool d1,.sl .u32 d2,.int .i64 d3],.int .i64 n,.int .i64 p,.fn 225 [],.fn 73 []] _ G0;refine fnT hT6 hmx Tryz.func381 rfl rfl (ex:= []) ?_;conv=>whnf
 refine gZc h0 ?_;conv=>whnf
 refine⟨Nat×Dy×Int,fun s=>(1<=s.1/\s.1<=n)/\VD s.2.1/\xf ⟨d1,d2,d3⟩ p true (n-s.1) s.2=R,fun s=> [(14,.int .i64 s.1),(13,.int .i64 s.2.2)],fun s=> [(12,.cells (dyC s.2.1))],fun s=>n-s.1,(1,⟨a1,a2,a3⟩,e0),?_,?_,fun s hs=>?_⟩
 ·exact⟨⟨by simp,hn.1⟩,hv0,hR⟩
 ·((conv=>whnf);refine And.intro ?_ ?_;repeat' first|refine lc ?_ ?_|exact la0|exact lr rfl|exact ln0|refine lh1 ?_ ?_|exact lh0|exact bf0|exact bd0|refine bc0 ?_|exact bm0 rfl|exact bb0 rfl|exact bg0 rfl|exact li0 rfl|refine lg0 ?_|refine lt0 ?_|fail)
 obtain⟨k,⟨r1,r2,r3⟩,e⟩:=s;obtain⟨⟨h1,h2⟩,h3,h4⟩:=hs;simp only at h1 h2 h3 h4
 (refine⟨by kernel_rfl,?_⟩;(conv=>whnf))
 refine brI (fun k1=>?_) (fun k1=>?_)
 ·have k1:k<n:=by simp only[decide_eq_true_eq]at k1;omega
  obtain⟨j,hj⟩: ∃j,n-k=j+1:=⟨n-k-1,by omega⟩;rw[hj]at h4;simp only[xf]at h4;conv=>whnf
  refine brI (fun k2=>?_) (fun k2=>?_)
  ·have k2:e=0:=by simpa using k2
   rw[if_pos k2]at h4;have hmm:Fn 73 G0 [.agg [.bool r1,.sl .u32 r2,.int .i64 r3],.agg [.bool d1,.sl .u32 d2,.int .i64 d3],.int .i64 p] (dyV (jv ⟨r1,r2,r3⟩ ⟨d1,d2,d3⟩ p true)) G0:=hm _ h3;have hvm:=kb ⟨r1,r2,r3⟩ ⟨d1,d2,d3⟩ true p hp;generalize jv ⟨r1,r2,r3⟩ ⟨d1,d2,d3⟩ p true=M at*;obtain⟨⟨m1,m2,m3⟩,f⟩:=M;conv=>whnf
   refine gZc hmm ?_;conv=>whnf
   refine⟨(k+1,⟨m1,m2,m3⟩,f),⟨⟨by simp only;omega,by simp only;omega⟩,hvm,by simp only;rw[show n-(k+1)=j by omega];exact h4⟩,by show n-(k+1)<n-k;omega,?_⟩
   ((conv=>whnf);refine And.intro ?_ ?_;repeat' first|refine lc ?_ ?_|exact la0|exact lr rfl|exact ln0|refine lh1 ?_ ?_|exact lh0|exact bf0|exact bd0|refine bc0 ?_|exact bm0 rfl|exact bb0 rfl|exact bg0 rfl|exact li0 rfl|refine lg0 ?_|refine lt0 ?_|fail)
   exact ai0 (by rw[wI (by simp only;omega)];simp only;omega)
  ·have k2:e≠0:=by simpa using k2
   rw[if_neg k2]at h4;subst h4;conv=>whnf
   exact⟨lr rfl,leG⟩
 ·have k1: ¬k<n:=by simp only[decide_eq_false_iff_not]at k1;omega
  rw[show n-k=0 by omega]at h4;simp only[xf]at h4;subst h4;conv=>whnf
  exact⟨lr rfl,leG⟩
theorem i183f {d:Dy} (hd:VD d) (n p:Nat) (hn:1<=n/\n<=16) (hp:8<=p/\p<=512):Fn 381 G0 [.agg (dyC d),.int .i64 n,.int .i64 p,.fn 224 [],.fn 72 []] (dyV (zdq d n p false)) G0:=by
 have h0:=v185 hd p hp;have hm: ∀a,VD a->Fn 72 G0 [.agg (dyC a),.agg (dyC d),.int .i64 p] (dyV (jv a d p false)) G0:=fun a ha=>qdl ha hd p hp
 have hv0:=wg d false p hp;obtain⟨R,hR⟩: ∃R,zdq d n p false=R:=⟨_,rfl⟩;rw[hR];unfold zdq at hR;generalize qo d p false=r0 at*;obtain⟨d1,d2,d3⟩:=d;have hm: ∀a,VD a->Fn 72 G0 [.agg (dyC a),.agg [.bool d1,.sl .u32 d2,.int .i64 d3],.int .i64 p] (dyV (jv a ⟨d1,d2,d3⟩ p false)) G0:=hm;obtain⟨⟨a1,a2,a3⟩,e0⟩:=r0;have h0:Fn 224 G0 [.agg [.bool d1,.sl .u32 d2,.int .i64 d3],.int .i64 p] (dyV (⟨a1,a2,a3⟩,e0)) G0:=h0;show Fn 381 G0 [.agg [.bool d1,.sl .u32 d2,.int .i64 d3],.int .i64 n,.int .i64 p,.fn 224 [],.fn 72 []] _ G0;refine fnT hT6 hmx Tryz.func381 rfl rfl (ex:= []) ?_;conv=>whnf
 refine gZc h0 ?_;conv=>whnf
 refine⟨Nat×Dy×Int,fun s=>(1<=s.1/\s.1<=n)/\VD s.2.1/\xf ⟨d1,d2,d3⟩ p false (n-s.1) s.2=R,fun s=> [(14,.int .i64 s.1),(13,.int .i64 s.2.2)],fun s=> [(12,.cells (dyC s.2.1))],fun s=>n-s.1,(1,⟨a1,a2,a3⟩,e0),?_,?_,fun s hs=>?_⟩
 ·exact⟨⟨by simp,hn.1⟩,hv0,hR⟩
 ·((conv=>whnf);refine And.intro ?_ ?_;repeat' first|refine lc ?_ ?_|exact la0|exact lr rfl|exact ln0|refine lh1 ?_ ?_|exact lh0|exact bf0|exact bd0|refine bc0 ?_|exact bm0 rfl|exact bb0 rfl|exact bg0 rfl|exact li0 rfl|refine lg0 ?_|refine lt0 ?_|fail)
 obtain⟨k,⟨r1,r2,r3⟩,e⟩:=s;obtain⟨⟨h1,h2⟩,h3,h4⟩:=hs;simp only at h1 h2 h3 h4
 (refine⟨by kernel_rfl,?_⟩;(conv=>whnf))
 refine brI (fun k1=>?_) (fun k1=>?_)
 ·have k1:k<n:=by simp only[decide_eq_true_eq]at k1;omega
  obtain⟨j,hj⟩: ∃j,n-k=j+1:=⟨n-k-1,by omega⟩;rw[hj]at h4;simp only[xf]at h4;conv=>whnf
  refine brI (fun k2=>?_) (fun k2=>?_)
  ·have k2:e=0:=by simpa using k2
   rw[if_pos k2]at h4;have hmm:Fn 72 G0 [.agg [.bool r1,.sl .u32 r2,.int .i64 r3],.agg [.bool d1,.sl .u32 d2,.int .i64 d3],.int .i64 p] (dyV (jv ⟨r1,r2,r3⟩ ⟨d1,d2,d3⟩ p false)) G0:=hm _ h3;have hvm:=kb ⟨r1,r2,r3⟩ ⟨d1,d2,d3⟩ false p hp;generalize jv ⟨r1,r2,r3⟩ ⟨d1,d2,d3⟩ p false=M at*;obtain⟨⟨m1,m2,m3⟩,f⟩:=M;conv=>whnf
   refine gZc hmm ?_;conv=>whnf
   refine⟨(k+1,⟨m1,m2,m3⟩,f),⟨⟨by simp only;omega,by simp only;omega⟩,hvm,by simp only;rw[show n-(k+1)=j by omega];exact h4⟩,by show n-(k+1)<n-k;omega,?_⟩
   ((conv=>whnf);refine And.intro ?_ ?_;repeat' first|refine lc ?_ ?_|exact la0|exact lr rfl|exact ln0|refine lh1 ?_ ?_|exact lh0|exact bf0|exact bd0|refine bc0 ?_|exact bm0 rfl|exact bb0 rfl|exact bg0 rfl|exact li0 rfl|refine lg0 ?_|refine lt0 ?_|fail)
   exact ai0 (by rw[wI (by simp only;omega)];simp only;omega)
  ·have k2:e≠0:=by simpa using k2
   rw[if_neg k2]at h4;subst h4;conv=>whnf
   exact⟨lr rfl,leG⟩
 ·have k1: ¬k<n:=by simp only[decide_eq_false_iff_not]at k1;omega
  rw[show n-k=0 by omega]at h4;simp only[xf]at h4;subst h4;conv=>whnf
  exact⟨lr rfl,leG⟩
def zd8 (d:Dy) (n p:Nat) (up:Bool):Dy×Int:=if wl d<0 then(yw (zdq (yw d) n p (!up)).1,(zdq (yw d) n p (!up)).2)else zdq d n p up
theorem qa2 (d:Dy):wl (yw d)= -wl d:=by
 unfold wl yw;by_cases h:nm d=0
 ·rw[if_pos h,if_pos h];rfl
 ·rw[if_neg h,if_neg h];have h2:nm ⟨!d.neg,d.m,d.e⟩=nm d:=rfl;rw[h2,if_neg h];cases d.neg<;>rfl
theorem qf7 {d:Dy} (hd:VD d) (hs: ¬wl d<0) (n p:Nat) (hn:1<=n/\n<=16) (hp:8<=p/\p<=512) (up:Bool):Fn 344 G0 [.agg (dyC d),.int .i64 n,.int .i64 p,.bool up] (dyV (zdq d n p up)) G0:=by
 have h1:=i183t hd n p hn hp;have h2:=i183f hd n p hn hp;have h124:=zrx hd;generalize zdq d n p=F at*;generalize wl d=S at*;clear hd
 cases up with
 |true=>
  generalize F true=R at*;obtain⟨⟨r1,r2,r3⟩,e⟩:=R;refine fnT hT6 hmx Tryz.func344 rfl rfl (ex:= []) ?_;conv=>whnf
  refine gZn h124 ?_;conv=>whnf
  refine brI (fun k1=>?_) (fun k1=>?_)
  ·exact absurd (of_decide_eq_true k1) hs
  conv=>whnf
  refine gZc h1 ?_;conv=>whnf
  exact⟨lr rfl,leG⟩
 |false=>
  generalize F false=R at*;obtain⟨⟨r1,r2,r3⟩,e⟩:=R;refine fnT hT6 hmx Tryz.func344 rfl rfl (ex:= []) ?_;conv=>whnf
  refine gZn h124 ?_;conv=>whnf
  refine brI (fun k1=>?_) (fun k1=>?_)
  ·exact absurd (of_decide_eq_true k1) hs
  conv=>whnf
  refine gZc h2 ?_;conv=>whnf
  exact⟨lr rfl,leG⟩
theorem i138 {d:Dy} (hd:VD d) (n p:Nat) (hn:1<=n/\n<=16) (hp:8<=p/\p<=512) (up:Bool):Fn 344 G0 [.agg (dyC d),.int .i64 n,.int .i64 p,.bool up] (dyV (zd8 d n p up)) G0:=by
 by_cases hs:wl d<0
 ·have hR:zd8 d n p up=(yw (zdq (yw d) n p (!up)).1,(zdq (yw d) n p (!up)).2):=by unfold zd8;rw[if_pos hs]
  rw[hR];have h124:=zrx hd;have h135:Fn 85 [] [.agg (dyC d)] (.agg (dyC (yw d))) []:=qag hd;have h138:=qf7 (xo hd) (by rw[qa2];omega) n p hn hp (!up);have hv:=zvt (yw d) n p (!up) hp;have h135b:Fn 85 [] [.agg (dyC (zdq (yw d) n p (!up)).1)] (.agg (dyC (yw (zdq (yw d) n p (!up)).1))) []:=qag hv;generalize zdq (yw d) n p (!up)=P at*;generalize yw d=N at*;generalize wl d=S at*;generalize yw P.1=Q at*;clear hd hv hR;obtain⟨⟨r1,r2,r3⟩,e⟩:=P;refine fnT hT6 hmx Tryz.func344 rfl rfl (ex:= []) ?_;conv=>whnf
  refine gZn h124 ?_;conv=>whnf
  refine brI (fun k1=>?_) (fun k1=>?_)
  rotate_left
  ·exact absurd hs (of_decide_eq_false k1)
  conv=>whnf
  refine gZn h135 ?_;conv=>whnf
  refine gZc h138 ?_;conv=>whnf
  refine gZn h135b ?_;conv=>whnf
  exact⟨lr rfl,leG⟩
 ·have hR:zd8 d n p up=zdq d n p up:=by unfold zd8;rw[if_neg hs]
  rw[hR];exact qf7 hd hs n p hn hp up
theorem zzz (d:Dy) (n p:Nat) (up:Bool) (hp:8<=p/\p<=512):VD (zd8 d n p up).1:=by
 unfold zd8;split
 ·exact xo (zvt _ _ _ _ hp)
 ·exact zvt _ _ _ _ hp
def pwK (x:Iv) (n p:Nat):Iv:=wa (zd8 x.lo n p false) (zd8 x.hi n p true)
def zkk (x:Iv) (n p:Int):Iv:=
 if kB x=true/\pcB p=true/\0<=n/\n<=16 then(if n=0 then qp (wx 1)else pwK (if n % 2=0 then zvp x else x) n.toNat p.toNat)else wI0
theorem zp8 {x:Iv} (hk:kB x=true):zvp x=⟨zb3 x,jx x,false⟩:=by unfold zvp;rw[if_pos hk]
theorem ju (n:Int) (h: -4611686018427387904<=n/\n<=4611686018427387904):VD (wx n):=by
 unfold wx;have hb:bl n.natAbs<=64:=jt.2 (by show n.natAbs<18446744073709551616;omega);exact zmf (zpb (by omega) (by omega) (by omega))
theorem i87 (x:Iv) (h:RI x) (n p:Int):Fn 268 G0 [.agg (ivC x),.int .i64 n,.int .i64 p] (.agg (ivC (zkk x n p))) G0:=by
 have h126:=zpc [x] (by simp) (by simpa using h);rw[k1]at h126;have h127:=zzj p;have h25:=i25;rw[e25]at h25;have hR:zkk x n p=if kB x=true/\pcB p=true/\0<=n/\n<=16 then(if n=0 then qp (wx 1)else pwK (if n % 2=0 then zvp x else x) n.toNat p.toNat)else wI0:=rfl
 generalize zkk x n p=R at*;by_cases hk:kB x=true
 rotate_left
 ·rw[if_neg fun c=>hk c.1]at hR;rw[show kB x=false by simpa using hk]at h126;subst hR;clear h hk;refine fnT hT6 hmx Tryz.func268 rfl rfl (ex:= []) ?_;conv=>whnf
  refine gZn h126 ?_;conv=>whnf
  refine gZn h25 ?_;conv=>whnf
  exact⟨lr rfl,leG⟩
 rw[hk]at h126;by_cases hp:pcB p=true
 rotate_left
 ·rw[if_neg fun c=>hp c.2.1]at hR;rw[show pcB p=false by simpa using hp]at h127;subst hR;clear h hk;refine fnT hT6 hmx Tryz.func268 rfl rfl (ex:= []) ?_;conv=>whnf
  refine gZn h126 ?_;conv=>whnf
  refine gZn h127 ?_;conv=>whnf
  refine gZn h25 ?_;conv=>whnf
  exact⟨lr rfl,leG⟩
 rw[hp]at h127;by_cases hn:0<=n/\n<=16
 rotate_left
 ·rw[if_neg fun c=>hn c.2.2]at hR;subst hR;clear h hk;refine fnT hT6 hmx Tryz.func268 rfl rfl (ex:= []) ?_;conv=>whnf
  refine gZn h126 ?_;conv=>whnf
  refine gZn h127 ?_;conv=>whnf
  refine brI (fun k1=>?_) (fun k1=>?_)
  ·conv=>whnf
   refine gZn h25 ?_;conv=>whnf
   exact⟨lr rfl,leG⟩
  have k1: ¬n<0:=of_decide_eq_false k1;conv=>whnf
  refine brI (fun k2=>?_) (fun k2=>?_)
  ·conv=>whnf
   refine gZn h25 ?_;conv=>whnf
   exact⟨lr rfl,leG⟩
  have k2: ¬16<n:=of_decide_eq_false k2;omega
 rw[if_pos ⟨hk,hp,hn⟩]at hR;obtain⟨N,rfl⟩:=Int.eq_ofNat_of_zero_le hn.1;by_cases h0:N=0
 ·subst h0;rw[if_pos (by rfl)]at hR;have h77:=v77 1 (by decide);have h136:=qdu (ju 1 (by decide));generalize wx 1=I1 at*;rw[←hR]at h136;clear h hk hR;refine fnT hT6 hmx Tryz.func268 rfl rfl (ex:= []) ?_;conv=>whnf
  refine gZn h126 ?_;conv=>whnf
  refine gZn h127 ?_;conv=>whnf
  refine gZc h77 ?_;conv=>whnf
  refine gZn h136 ?_;conv=>whnf
  exact⟨lr rfl,leG⟩
 rw[if_neg (by omega),q2]at hR;have kx:=(zp h).1 hk;obtain⟨q,rfl,hq⟩:=kg.1 hp;rw[q2]at hR;have hcase: ∀y:Iv,VD y.lo->VD y.hi->R=pwK y N q->
  Fn 344 G0 [.agg (dyC y.lo),.int .i64 N,.int .i64 q,.bool false] (dyV (zd8 y.lo N q false)) G0/\Fn 344 G0 [.agg (dyC y.hi),.int .i64 N,.int .i64 q,.bool true] (dyV (zd8 y.hi N q true)) G0/\
  Fn 79 [] [.agg (dyC (zd8 y.lo N q false).1),.int .i64 (zd8 y.lo N q false).2,.agg (dyC (zd8 y.hi N q true).1),.int .i64 (zd8 y.hi N q true).2] (.agg (ivC R)) []:=by
  intro y hl hh e;refine⟨i138 hl N q (by omega) hq false,i138 hh N q (by omega) hq true,?_⟩;rw[e];exact qdv _ _
 have hmod:((N:Int).tmod 2==0)=decide ((N:Int) % 2=0):=by
  have:(N:Int).tmod 2=((N % 2:Nat):Int):=(Int.ofNat_tmod N 2).symm;rw[this,Bool.eq_iff_iff,beq_iff_eq,decide_eq_true_eq];omega
 by_cases he:(N:Int) % 2=0
 ·rw[if_pos he,zp8 hk]at hR;rw[decide_eq_true he]at hmod;have h137:=i137 x h;rw[zp8 hk]at h137;obtain⟨n1,n2,n3⟩:=hcase _ (ze6 kx) (za4 kx) hR;simp only at n1 n2 n3;generalize zd8 (zb3 x) N q false=A at*;generalize zd8 (jx x) N q true=B at*;generalize zb3 x=L at*;generalize jx x=U at*;clear hcase hR kx h hk;obtain⟨⟨a1,a2,a3⟩,e⟩:=A;obtain⟨⟨b1,b2,b3⟩,f⟩:=B;refine fnT hT6 hmx Tryz.func268 rfl rfl (ex:= []) ?_;conv=>whnf
  refine gZn h126 ?_;conv=>whnf
  refine gZn h127 ?_;conv=>whnf
  refine brI (fun k2=>?_) (fun k2=>?_)
  ·have k2:=of_decide_eq_true k2;omega
  conv=>whnf
  refine brI (fun k3=>?_) (fun k3=>?_)
  ·have k3:(N:Int)=0:=by simpa using k3
   omega
  conv=>whnf
  refine⟨by decide,?_⟩;conv=>whnf
  refine brI (fun k4=>?_) (fun k4=>?_)
  rotate_left
  ·have k4:((N:Int).tmod 2==0)=false:=k4;rw[hmod]at k4;cases k4
  conv=>whnf
  refine gZn h137 ?_;conv=>whnf
  refine gZc n1 ?_;conv=>whnf
  refine gZc n2 ?_;conv=>whnf
  refine gZn n3 ?_;conv=>whnf
  exact⟨lr rfl,leG⟩
 ·rw[if_neg he]at hR;rw[decide_eq_false he]at hmod;obtain⟨n1,n2,n3⟩:=hcase _ kx.lo kx.hi hR;generalize zd8 x.lo N q false=A at*;generalize zd8 x.hi N q true=B at*;clear hcase hR kx h hk;obtain⟨⟨a1,a2,a3⟩,e⟩:=A;obtain⟨⟨b1,b2,b3⟩,f⟩:=B;refine fnT hT6 hmx Tryz.func268 rfl rfl (ex:= []) ?_;conv=>whnf
  refine gZn h126 ?_;conv=>whnf
  refine gZn h127 ?_;conv=>whnf
  refine brI (fun k2=>?_) (fun k2=>?_)
  ·have k2:=of_decide_eq_true k2;omega
  conv=>whnf
  refine brI (fun k3=>?_) (fun k3=>?_)
  ·have k3:(N:Int)=0:=by simpa using k3
   omega
  conv=>whnf
  refine⟨by decide,?_⟩;conv=>whnf
  refine brI (fun k4=>?_) (fun k4=>?_)
  ·have k4:((N:Int).tmod 2==0)=true:=k4;rw[hmod]at k4;cases k4
  conv=>whnf
  refine gZc n1 ?_;conv=>whnf
  refine gZc n2 ?_;conv=>whnf
  refine gZn n3 ?_;conv=>whnf
  exact⟨lr rfl,leG⟩
end Go.Proofs.YtbolipecnhlnnaaGreatDoor
