/-
  Intervals: less, more, magnitudes, Abs, Hull, Scale, Round, Sqrt, Width.
-/
import Derived.Test.YtlocddfailmnpaaGreatDoorQYu
import Derived.Test.YtlocddfailmnpaaGreatDoorQUa
import Derived.Test.YtlocddfailmnpaaGreatDoorQVa
import Derived.Test.YtlocddfailmnpaaGreatDoorQUb
set_option linter.unusedVariables false
set_option linter.unusedSimpArgs false
namespace Go.Proofs.YtlocddfailmnpaaGreatDoor
open Go Go.Sx
set_option maxRecDepth 100000
set_option maxHeartbeats 8000000
def yz (a b:Dy):Dy:=if qo a b≤0 then a else b
def ye (a b:Dy):Dy:=if 0≤qo a b then a else b
theorem i226 {a b:Dy} (ha:VD a) (hb:VD b):Fn 177 [] [.agg (dyC a),.agg (dyC b)] (.agg (dyC (yz a b))) []:=by
 have h81:=v81 ha hb
 have hR:yz a b=if qo a b≤0 then a else b:=rfl
 generalize yz a b=R at*
 generalize qo a b=C at*
 clear ha hb
 refine fnT hT6 hmx Tryz.func177 rfl rfl (ex:= []) ?_;conv=>whnf
 refine gZn h81 ?_;conv=>whnf
 refine brI (fun h1=>?_) (fun h1=>?_)
 ·have h1:C≤0:=of_decide_eq_true h1
  rw[hR,if_pos h1]
  conv=>whnf
  exact⟨lr rfl,lh0⟩
 ·have h1: ¬C≤0:=of_decide_eq_false h1
  rw[hR,if_neg h1]
  conv=>whnf
  exact⟨lr rfl,lh0⟩
theorem i227 {a b:Dy} (ha:VD a) (hb:VD b):Fn 178 [] [.agg (dyC a),.agg (dyC b)] (.agg (dyC (ye a b))) []:=by
 have h81:=v81 ha hb
 have hR:ye a b=if 0≤qo a b then a else b:=rfl
 generalize ye a b=R at*
 generalize qo a b=C at*
 clear ha hb
 refine fnT hT6 hmx Tryz.func178 rfl rfl (ex:= []) ?_;conv=>whnf
 refine gZn h81 ?_;conv=>whnf
 refine brI (fun h1=>?_) (fun h1=>?_)
 ·have h1:0≤C:=of_decide_eq_true h1
  rw[hR,if_pos h1]
  conv=>whnf
  exact⟨lr rfl,lh0⟩
 ·have h1: ¬0≤C:=of_decide_eq_false h1
  rw[hR,if_neg h1]
  conv=>whnf
  exact⟨lr rfl,lh0⟩
theorem ziw {a b:Dy} (ha:VD a) (hb:VD b):VD (yz a b):=by unfold yz;split<;>assumption
theorem ziv {a b:Dy} (ha:VD a) (hb:VD b):VD (ye a b):=by unfold ye;split<;>assumption
def kj (x:Iv):Dy:=ye (zah x.lo) (zah x.hi)
def zbu (x:Iv):Dy:=if zlf x=0 then d0 else yz (zah x.lo) (zah x.hi)
theorem zc6 {x:Iv} (k:KI x):VD (kj x):=ziv (zc7 k.lo) (zc7 k.hi)
theorem zkw {x:Iv} (k:KI x):VD (zbu x):=by
 unfold zbu
 split
 ·exact qq
 ·exact ziw (zc7 k.lo) (zc7 k.hi)
theorem zzj {h h':Hp} {b:Bool}:leA h h' (.tup [.agg [.bool false,.nilsl,.int .i64 0],.bool b]) (.tup [.agg (dyC d0),.bool b]):=lt0 (lc qa3 (lc (lr rfl) ln0))
theorem i182 (x:Iv) (h:RI x):Fn 129 [] [.agg (ivC x)] (.tup [.agg (dyC (if kB x=true then kj x else d0)),.bool (kB x)]) []:=by
 have h126:=znq [x] (by simp) (by simpa using h)
 rw[k1]at h126
 by_cases hk:kB x=true
 ·have k:=(qc h).1 hk
  rw[if_pos hk,hk]
  rw[hk]at h126
  have n1:=qbm k.lo
  have n2:=qbm k.hi
  have n3:=i227 (zc7 k.lo) (zc7 k.hi)
  have hR:ye (zah x.lo) (zah x.hi)=kj x:=rfl
  rw[hR]at n3
  generalize kj x=M at*
  generalize zah x.lo=a at*
  generalize zah x.hi=b at*
  clear k hk h hR
  refine fnT hT6 hmx Tryz.func129 rfl rfl (ex:= []) ?_;conv=>whnf
  refine gZn h126 ?_;conv=>whnf
  refine gZn n1 ?_;conv=>whnf
  refine gZn n2 ?_;conv=>whnf
  refine gZn n3 ?_;conv=>whnf
  (refine⟨by kernel_rfl,by kernel_rfl,?_⟩;(conv=>whnf))
  exact⟨lr rfl,lh0⟩
 ·have hk:kB x=false:=by simpa using hk
  rw[hk,if_neg (by simp)]
  rw[hk]at h126
  clear hk h
  refine fnT hT6 hmx Tryz.func129 rfl rfl (ex:= []) ?_;conv=>whnf
  refine gZn h126 ?_;conv=>whnf
  exact⟨zzj,lh0⟩
theorem i181 (x:Iv) (h:RI x):Fn 128 [] [.agg (ivC x)] (.tup [.agg (dyC (if kB x=true then zbu x else d0)),.bool (kB x)]) []:=by
 have h126:=znq [x] (by simp) (by simpa using h)
 have h134:=i134 x h
 rw[k1]at h126
 by_cases hk:kB x=true
 ·have k:=(qc h).1 hk
  rw[if_pos hk,hk]
  rw[hk]at h126
  have n1:=qbm k.lo
  have n2:=qbm k.hi
  have n3:=i226 (zc7 k.lo) (zc7 k.hi)
  have hR:zbu x=if zlf x=0 then d0 else yz (zah x.lo) (zah x.hi):=rfl
  generalize zbu x=M at*
  generalize zlf x=S at*
  generalize yz (zah x.lo) (zah x.hi)=L at*
  generalize zah x.lo=a at*
  generalize zah x.hi=b at*
  clear k hk h
  refine fnT hT6 hmx Tryz.func128 rfl rfl (ex:= []) ?_;conv=>whnf
  refine gZn h126 ?_;conv=>whnf
  refine gZn h134 ?_;conv=>whnf
  refine brI (fun h1=>?_) (fun h1=>?_)
  ·have h1:S=0:=by simpa using h1
   rw[if_pos h1]at hR
   subst hR
   conv=>whnf
   exact⟨zzj,lh0⟩
  have h1:S≠0:=by simpa using h1
  rw[if_neg h1]at hR
  subst hR
  conv=>whnf
  refine gZn n1 ?_;conv=>whnf
  refine gZn n2 ?_;conv=>whnf
  refine gZn n3 ?_;conv=>whnf
  (refine⟨by kernel_rfl,by kernel_rfl,?_⟩;(conv=>whnf))
  exact⟨lr rfl,lh0⟩
 ·have hk:kB x=false:=by simpa using hk
  rw[hk,if_neg (by simp)]
  rw[hk]at h126
  clear hk h h134
  refine fnT hT6 hmx Tryz.func128 rfl rfl (ex:= []) ?_;conv=>whnf
  refine gZn h126 ?_;conv=>whnf
  exact⟨zzj,lh0⟩
def zxm (x:Iv):Iv:=if kB x=true then⟨zbu x,kj x,false⟩else wI0
theorem i137 (x:Iv) (h:RI x):Fn 91 [] [.agg (ivC x)] (.agg (ivC (zxm x))) []:=by
 have h126:=znq [x] (by simp) (by simpa using h)
 rw[k1]at h126
 have n1:=i181 x h
 have n2:=i182 x h
 have h25:=i25
 rw[e25]at h25
 have hR:zxm x=if kB x=true then⟨zbu x,kj x,false⟩else wI0:=rfl
 generalize zxm x=R at*
 generalize kB x=K at*
 cases K with
 |true=>
  rw[if_pos rfl]at hR n1 n2
  generalize kj x=a at*
  generalize zbu x=b at*
  subst hR
  clear h
  refine fnT hT6 hmx Tryz.func91 rfl rfl (ex:= []) ?_;conv=>whnf
  refine gZn h126 ?_;conv=>whnf
  refine gZn n1 ?_;conv=>whnf
  refine gZn n2 ?_;conv=>whnf
  exact⟨lr rfl,lh0⟩
 |false=>
  rw[if_neg (by simp)]at hR
  subst hR
  clear h n1 n2
  refine fnT hT6 hmx Tryz.func91 rfl rfl (ex:= []) ?_;conv=>whnf
  refine gZn h126 ?_;conv=>whnf
  refine gZn h25 ?_;conv=>whnf
  exact⟨lr rfl,lh0⟩
def zff (x y:Iv):Iv:=if(kB x&&kB y)=true then⟨yz x.lo y.lo,ye x.hi y.hi,false⟩else wI0
theorem i201 (x y:Iv) (hx:RI x) (hy:RI y):Fn 149 [] [.agg (ivC x),.agg (ivC y)] (.agg (ivC (zff x y))) []:=by
 have h126:=znq [x,y] (by simp) (by simpa using⟨hx,hy⟩)
 rw[k2]at h126
 have h25:=i25
 rw[e25]at h25
 have hR:zff x y=if(kB x&&kB y)=true then⟨yz x.lo y.lo,ye x.hi y.hi,false⟩else wI0:=rfl
 generalize zff x y=R at*
 by_cases hk:(kB x&&kB y)=true
 ·rw[hk]at h126
  rw[if_pos hk]at hR
  rw[Bool.and_eq_true]at hk
  have kx:=(qc hx).1 hk.1
  have ky:=(qc hy).1 hk.2
  have n1:=i226 kx.lo ky.lo
  have n2:=i227 kx.hi ky.hi
  generalize yz x.lo y.lo=a at*
  generalize ye x.hi y.hi=b at*
  subst hR
  clear kx ky hx hy hk
  refine fnT hT6 hmx Tryz.func149 rfl rfl (ex:= []) ?_;conv=>whnf
  refine gZn h126 ?_;conv=>whnf
  refine gZn n1 ?_;conv=>whnf
  refine gZn n2 ?_;conv=>whnf
  (refine⟨by kernel_rfl,by kernel_rfl,?_⟩;(conv=>whnf))
  exact⟨lr rfl,lh0⟩
 ·rw[if_neg hk]at hR
  rw[show(kB x&&kB y)=false by simpa using hk]at h126
  subst hR
  clear hx hy hk
  refine fnT hT6 hmx Tryz.func149 rfl rfl (ex:= []) ?_;conv=>whnf
  refine gZn h126 ?_;conv=>whnf
  refine gZn h25 ?_;conv=>whnf
  exact⟨lr rfl,lh0⟩
def wh (x:Iv) (k:Int):Iv:=if kB x=true then wg (vr x.lo k) (vr x.hi k)else wI0
theorem i191 (x:Iv) (h:RI x) (k:Int):Fn 139 G0 [.agg (ivC x),.int .i64 k] (.agg (ivC (wh x k))) G0:=by
 have h126:=znq [x] (by simp) (by simpa using h)
 rw[k1]at h126
 have h25:=i25
 rw[e25]at h25
 have hR:wh x k=if kB x=true then wg (vr x.lo k) (vr x.hi k)else wI0:=rfl
 generalize wh x k=R at*
 by_cases hk:kB x=true
 ·rw[hk]at h126
  rw[if_pos hk]at hR
  have kx:=(qc h).1 hk
  have n1:=v230 kx.lo k
  have n2:=v230 kx.hi k
  have n3:=qa5 (vr x.lo k) (vr x.hi k)
  rw[←hR]at n3
  generalize vr x.lo k=a at*
  generalize vr x.hi k=b at*
  clear kx h hk hR
  obtain⟨⟨a1,a2,a3⟩,e⟩:=a
  obtain⟨⟨b1,b2,b3⟩,f⟩:=b
  refine fnT hT6 hmx Tryz.func139 rfl rfl (ex:= []) ?_;conv=>whnf
  refine gZn h126 ?_;conv=>whnf
  refine gZc n1 ?_;conv=>whnf
  refine gZc n2 ?_;conv=>whnf
  refine gZn n3 ?_;conv=>whnf
  exact⟨lr rfl,leG⟩
 ·rw[if_neg hk]at hR
  rw[show kB x=false by simpa using hk]at h126
  subst hR
  clear h hk
  refine fnT hT6 hmx Tryz.func139 rfl rfl (ex:= []) ?_;conv=>whnf
  refine gZn h126 ?_;conv=>whnf
  refine gZn h25 ?_;conv=>whnf
  exact⟨lr rfl,leG⟩
def ve (x:Iv) (p:Int):Iv:=if kB x=true∧pcB p=true then wg (ql x.lo p.toNat false) (ql x.hi p.toNat true)else wI0
theorem qdd (x:Iv) (h:RI x) (p:Int):Fn 137 G0 [.agg (ivC x),.int .i64 p] (.agg (ivC (ve x p))) G0:=by
 have h126:=znq [x] (by simp) (by simpa using h)
 rw[k1]at h126
 have h127:=zw8 p
 have h25:=i25
 rw[e25]at h25
 have hR:ve x p=if kB x=true∧pcB p=true then wg (ql x.lo p.toNat false) (ql x.hi p.toNat true)else wI0:=rfl
 generalize ve x p=R at*
 by_cases hk:kB x=true
 ·rw[hk]at h126
  by_cases hp:pcB p=true
  ·rw[hp]at h127
   rw[if_pos ⟨hk,hp⟩]at hR
   have kx:=(qc h).1 hk
   obtain⟨q,rfl,hq⟩:=yy.1 hp
   rw[Int.toNat_natCast]at hR
   have n1:=v185 kx.lo q hq
   have n2:=v184 kx.hi q hq
   have n3:=qa5 (ql x.lo q false) (ql x.hi q true)
   rw[←hR]at n3
   generalize ql x.lo q false=a at*
   generalize ql x.hi q true=b at*
   clear kx h hk hR
   obtain⟨⟨a1,a2,a3⟩,e⟩:=a
   obtain⟨⟨b1,b2,b3⟩,f⟩:=b
   refine fnT hT6 hmx Tryz.func137 rfl rfl (ex:= []) ?_;conv=>whnf
   refine gZn h126 ?_;conv=>whnf
   refine gZn h127 ?_;conv=>whnf
   refine gZc n1 ?_;conv=>whnf
   refine gZc n2 ?_;conv=>whnf
   refine gZn n3 ?_;conv=>whnf
   exact⟨lr rfl,leG⟩
  ·rw[if_neg fun c=>hp c.2]at hR
   rw[show pcB p=false by simpa using hp]at h127
   subst hR
   clear h hk hp
   refine fnT hT6 hmx Tryz.func137 rfl rfl (ex:= []) ?_;conv=>whnf
   refine gZn h126 ?_;conv=>whnf
   refine gZn h127 ?_;conv=>whnf
   refine gZn h25 ?_;conv=>whnf
   exact⟨lr rfl,leG⟩
 ·rw[if_neg fun c=>hk c.1]at hR
  rw[show kB x=false by simpa using hk]at h126
  subst hR
  clear h hk
  refine fnT hT6 hmx Tryz.func137 rfl rfl (ex:= []) ?_;conv=>whnf
  refine gZn h126 ?_;conv=>whnf
  refine gZn h25 ?_;conv=>whnf
  exact⟨lr rfl,leG⟩
theorem qcc {a b:Dy} (h:0<vu a) (hc:qo a b≤0):b.neg=false:=by
 rw[zmf a (min a.e b.e)]at h
 unfold qo zrq at hc
 unfold zrq at h
 have hb:0<zi b (min a.e b.e):=by
  generalize zi a (min a.e b.e)=x at*
  generalize zi b (min a.e b.e)=y at*
  split at h
  ·omega
  ·split at h
   ·split at hc
    ·omega
    ·split at hc<;>omega
   ·omega
 unfold zi at hb
 cases hn:b.neg with
 |false=>rfl
 |true=>rw[if_pos hn]at hb;omega
theorem zyr {a:Dy} (h:0<vu a):a.neg=false:=by
 unfold vu at h
 split at h
 ·omega
 ·cases hn:a.neg with
  |false=>rfl
  |true=>rw[if_pos hn]at h;omega
def zi6 (x:Iv) (p:Int):Iv:=if kB x=true∧pcB p=true∧0<vu x.lo then wg (xf x.lo p.toNat false) (xf x.hi p.toNat true)else wI0
theorem i92 (x:Iv) (h:RI x) (p:Int):Fn 48 G0 [.agg (ivC x),.int .i64 p] (.agg (ivC (zi6 x p))) G0:=by
 have h126:=znq [x] (by simp) (by simpa using h)
 rw[k1]at h126
 have h127:=zw8 p
 have h25:=i25
 rw[e25]at h25
 have hR:zi6 x p=if kB x=true∧pcB p=true∧0<vu x.lo then wg (xf x.lo p.toNat false) (xf x.hi p.toNat true)else wI0:=rfl
 generalize zi6 x p=R at*
 by_cases hk:kB x=true
 ·rw[hk]at h126
  have kx:=(qc h).1 hk
  have h124:=zp6 kx.lo
  by_cases hp:pcB p=true
  ·rw[hp]at h127
   by_cases hs:0<vu x.lo
   ·rw[if_pos ⟨hk,hp,hs⟩]at hR
    obtain⟨q,rfl,hq⟩:=yy.1 hp
    rw[Int.toNat_natCast]at hR
    have n1:=v145 kx.lo (zyr hs) q hq
    have n2:=v146 kx.hi (qcc hs kx.le) q hq
    have n3:=qa5 (xf x.lo q false) (xf x.hi q true)
    rw[←hR]at n3
    generalize xf x.lo q false=a at*
    generalize xf x.hi q true=b at*
    generalize vu x.lo=S at*
    clear kx h hk hR
    obtain⟨⟨a1,a2,a3⟩,e⟩:=a
    obtain⟨⟨b1,b2,b3⟩,f⟩:=b
    refine fnT hT6 hmx Tryz.func48 rfl rfl (ex:= []) ?_;conv=>whnf
    refine gZn h126 ?_;conv=>whnf
    refine gZn h127 ?_;conv=>whnf
    refine gZn h124 ?_;conv=>whnf
    refine brI (fun h1=>?_) (fun h1=>?_)
    ·have h1:S≤0:=of_decide_eq_true h1
     omega
    conv=>whnf
    refine gZc n1 ?_;conv=>whnf
    refine gZc n2 ?_;conv=>whnf
    refine gZn n3 ?_;conv=>whnf
    exact⟨lr rfl,leG⟩
   ·rw[if_neg fun c=>hs c.2.2]at hR
    subst hR
    generalize vu x.lo=S at*
    clear h hk kx
    refine fnT hT6 hmx Tryz.func48 rfl rfl (ex:= []) ?_;conv=>whnf
    refine gZn h126 ?_;conv=>whnf
    refine gZn h127 ?_;conv=>whnf
    refine gZn h124 ?_;conv=>whnf
    refine brI (fun h1=>?_) (fun h1=>?_)
    rotate_left
    ·have h1: ¬S≤0:=of_decide_eq_false h1
     omega
    conv=>whnf
    refine gZn h25 ?_;conv=>whnf
    exact⟨lr rfl,leG⟩
  ·rw[if_neg fun c=>hp c.2.1]at hR
   rw[show pcB p=false by simpa using hp]at h127
   subst hR
   clear h hk hp kx h124
   refine fnT hT6 hmx Tryz.func48 rfl rfl (ex:= []) ?_;conv=>whnf
   refine gZn h126 ?_;conv=>whnf
   refine gZn h127 ?_;conv=>whnf
   refine gZn h25 ?_;conv=>whnf
   exact⟨lr rfl,leG⟩
 ·rw[if_neg fun c=>hk c.1]at hR
  rw[show kB x=false by simpa using hk]at h126
  subst hR
  clear h hk
  refine fnT hT6 hmx Tryz.func48 rfl rfl (ex:= []) ?_;conv=>whnf
  refine gZn h126 ?_;conv=>whnf
  refine gZn h25 ?_;conv=>whnf
  exact⟨lr rfl,leG⟩
end Go.Proofs.YtlocddfailmnpaaGreatDoor

namespace Go.Proofs.YtlocddfailmnpaaGreatDoor
open Go Go.Sx
set_option maxRecDepth 100000
set_option maxHeartbeats 8000000
def zgj (d:Dy) (p:Nat) (up:Bool):Nat→Dy×Int→Dy×Int
 |0,r=>r
 |k+1,r=>if r.2=0 then zgj d p up k (ji r.1 d p up)else r
def ziz (d:Dy) (n p:Nat) (up:Bool):Dy×Int:=zgj d p up (n-1) (ql d p up)
theorem zot (d:Dy) (p:Nat) (up:Bool) (hp:8≤p∧p≤512): ∀k r,VD r.1→VD (zgj d p up k r).1
 |0,r,h=>h
 |k+1,r,h=>by
  simp only[zgj]
  split
  ·exact zot d p up hp k _ (ug _ _ _ _ hp)
  ·exact h
theorem ztt (d:Dy) (n p:Nat) (up:Bool) (hp:8≤p∧p≤512):VD (ziz d n p up).1:=zot d p up hp _ _ (jg _ _ _ hp)
theorem i183t {d:Dy} (hd:VD d) (n p:Nat) (hn:1≤n∧n≤16) (hp:8≤p∧p≤512):Fn 130 G0 [.agg (dyC d),.int .i64 n,.int .i64 p,.fn 131 [],.fn 87 []] (dyV (ziz d n p true)) G0:=by
 have h0:=v184 hd p hp
 have hm: ∀a,VD a→Fn 87 G0 [.agg (dyC a),.agg (dyC d),.int .i64 p] (dyV (ji a d p true)) G0:=fun a ha=>qax ha hd p hp
 have hv0:=jg d true p hp
 obtain⟨R,hR⟩: ∃R,ziz d n p true=R:=⟨_,rfl⟩
 rw[hR]
 unfold ziz at hR
 generalize ql d p true=r0 at*
 obtain⟨d1,d2,d3⟩:=d
 have hm: ∀a,VD a→Fn 87 G0 [.agg (dyC a),.agg [.bool d1,.sl .u32 d2,.int .i64 d3],.int .i64 p] (dyV (ji a ⟨d1,d2,d3⟩ p true)) G0:=hm
 obtain⟨⟨a1,a2,a3⟩,e0⟩:=r0
 have h0:Fn 131 G0 [.agg [.bool d1,.sl .u32 d2,.int .i64 d3],.int .i64 p] (dyV (⟨a1,a2,a3⟩,e0)) G0:=h0
 show Fn 130 G0 [.agg [.bool d1,.sl .u32 d2,.int .i64 d3],.int .i64 n,.int .i64 p,.fn 131 [],.fn 87 []] _ G0
 refine fnT hT6 hmx Tryz.func130 rfl rfl (ex:= []) ?_;conv=>whnf
 refine gZc h0 ?_;conv=>whnf
 refine⟨Nat×Dy×Int,fun s=>(1≤s.1∧s.1≤n)∧VD s.2.1∧zgj ⟨d1,d2,d3⟩ p true (n-s.1) s.2=R,fun s=> [(14,.int .i64 s.1),(13,.int .i64 s.2.2)],fun s=> [(12,.cells (dyC s.2.1))],fun s=>n-s.1,(1,⟨a1,a2,a3⟩,e0),?_,?_,fun s hs=>?_⟩
 ·exact⟨⟨by simp,hn.1⟩,hv0,hR⟩
 ·((conv=>whnf);refine And.intro ?_ ?_;repeat' first|refine lc ?_ ?_|exact la0|exact lr rfl|exact ln0|refine lh1 ?_ ?_|exact lh0|exact bf0|exact bd0|refine bc0 ?_|exact bm0 rfl|exact bb0 rfl|exact bg0 rfl|exact li0 rfl|refine lg0 ?_|refine lt0 ?_|fail)
 obtain⟨k,⟨r1,r2,r3⟩,e⟩:=s
 obtain⟨⟨h1,h2⟩,h3,h4⟩:=hs
 simp only at h1 h2 h3 h4
 (refine⟨by kernel_rfl,?_⟩;(conv=>whnf))
 refine brI (fun k1=>?_) (fun k1=>?_)
 ·have k1:k<n:=by simp only[decide_eq_true_eq]at k1;omega
  obtain⟨j,hj⟩: ∃j,n-k=j+1:=⟨n-k-1,by omega⟩
  rw[hj]at h4
  simp only[zgj]at h4
  conv=>whnf
  refine brI (fun k2=>?_) (fun k2=>?_)
  ·have k2:e=0:=by simpa using k2
   rw[if_pos k2]at h4
   have hmm:Fn 87 G0 [.agg [.bool r1,.sl .u32 r2,.int .i64 r3],.agg [.bool d1,.sl .u32 d2,.int .i64 d3],.int .i64 p] (dyV (ji ⟨r1,r2,r3⟩ ⟨d1,d2,d3⟩ p true)) G0:=hm _ h3
   have hvm:=ug ⟨r1,r2,r3⟩ ⟨d1,d2,d3⟩ true p hp
   generalize ji ⟨r1,r2,r3⟩ ⟨d1,d2,d3⟩ p true=M at*
   obtain⟨⟨m1,m2,m3⟩,f⟩:=M
   conv=>whnf
   refine gZc hmm ?_;conv=>whnf
   refine⟨(k+1,⟨m1,m2,m3⟩,f),⟨⟨by simp only;omega,by simp only;omega⟩,hvm,by simp only;rw[show n-(k+1)=j by omega];exact h4⟩,by show n-(k+1)<n-k;omega,?_⟩
   ((conv=>whnf);refine And.intro ?_ ?_;repeat' first|refine lc ?_ ?_|exact la0|exact lr rfl|exact ln0|refine lh1 ?_ ?_|exact lh0|exact bf0|exact bd0|refine bc0 ?_|exact bm0 rfl|exact bb0 rfl|exact bg0 rfl|exact li0 rfl|refine lg0 ?_|refine lt0 ?_|fail)
   exact ai0 (by rw[wI (by simp only;omega)];simp only;omega)
  ·have k2:e≠0:=by simpa using k2
   rw[if_neg k2]at h4
   subst h4
   conv=>whnf
   exact⟨lr rfl,leG⟩
 ·have k1: ¬k<n:=by simp only[decide_eq_false_iff_not]at k1;omega
  rw[show n-k=0 by omega]at h4
  simp only[zgj]at h4
  subst h4
  conv=>whnf
  exact⟨lr rfl,leG⟩
theorem i183f {d:Dy} (hd:VD d) (n p:Nat) (hn:1≤n∧n≤16) (hp:8≤p∧p≤512):Fn 130 G0 [.agg (dyC d),.int .i64 n,.int .i64 p,.fn 132 [],.fn 86 []] (dyV (ziz d n p false)) G0:=by
 have h0:=v185 hd p hp
 have hm: ∀a,VD a→Fn 86 G0 [.agg (dyC a),.agg (dyC d),.int .i64 p] (dyV (ji a d p false)) G0:=fun a ha=>qay ha hd p hp
 have hv0:=jg d false p hp
 obtain⟨R,hR⟩: ∃R,ziz d n p false=R:=⟨_,rfl⟩
 rw[hR]
 unfold ziz at hR
 generalize ql d p false=r0 at*
 obtain⟨d1,d2,d3⟩:=d
 have hm: ∀a,VD a→Fn 86 G0 [.agg (dyC a),.agg [.bool d1,.sl .u32 d2,.int .i64 d3],.int .i64 p] (dyV (ji a ⟨d1,d2,d3⟩ p false)) G0:=hm
 obtain⟨⟨a1,a2,a3⟩,e0⟩:=r0
 have h0:Fn 132 G0 [.agg [.bool d1,.sl .u32 d2,.int .i64 d3],.int .i64 p] (dyV (⟨a1,a2,a3⟩,e0)) G0:=h0
 show Fn 130 G0 [.agg [.bool d1,.sl .u32 d2,.int .i64 d3],.int .i64 n,.int .i64 p,.fn 132 [],.fn 86 []] _ G0
 refine fnT hT6 hmx Tryz.func130 rfl rfl (ex:= []) ?_;conv=>whnf
 refine gZc h0 ?_;conv=>whnf
 refine⟨Nat×Dy×Int,fun s=>(1≤s.1∧s.1≤n)∧VD s.2.1∧zgj ⟨d1,d2,d3⟩ p false (n-s.1) s.2=R,fun s=> [(14,.int .i64 s.1),(13,.int .i64 s.2.2)],fun s=> [(12,.cells (dyC s.2.1))],fun s=>n-s.1,(1,⟨a1,a2,a3⟩,e0),?_,?_,fun s hs=>?_⟩
 ·exact⟨⟨by simp,hn.1⟩,hv0,hR⟩
 ·((conv=>whnf);refine And.intro ?_ ?_;repeat' first|refine lc ?_ ?_|exact la0|exact lr rfl|exact ln0|refine lh1 ?_ ?_|exact lh0|exact bf0|exact bd0|refine bc0 ?_|exact bm0 rfl|exact bb0 rfl|exact bg0 rfl|exact li0 rfl|refine lg0 ?_|refine lt0 ?_|fail)
 obtain⟨k,⟨r1,r2,r3⟩,e⟩:=s
 obtain⟨⟨h1,h2⟩,h3,h4⟩:=hs
 simp only at h1 h2 h3 h4
 (refine⟨by kernel_rfl,?_⟩;(conv=>whnf))
 refine brI (fun k1=>?_) (fun k1=>?_)
 ·have k1:k<n:=by simp only[decide_eq_true_eq]at k1;omega
  obtain⟨j,hj⟩: ∃j,n-k=j+1:=⟨n-k-1,by omega⟩
  rw[hj]at h4
  simp only[zgj]at h4
  conv=>whnf
  refine brI (fun k2=>?_) (fun k2=>?_)
  ·have k2:e=0:=by simpa using k2
   rw[if_pos k2]at h4
   have hmm:Fn 86 G0 [.agg [.bool r1,.sl .u32 r2,.int .i64 r3],.agg [.bool d1,.sl .u32 d2,.int .i64 d3],.int .i64 p] (dyV (ji ⟨r1,r2,r3⟩ ⟨d1,d2,d3⟩ p false)) G0:=hm _ h3
   have hvm:=ug ⟨r1,r2,r3⟩ ⟨d1,d2,d3⟩ false p hp
   generalize ji ⟨r1,r2,r3⟩ ⟨d1,d2,d3⟩ p false=M at*
   obtain⟨⟨m1,m2,m3⟩,f⟩:=M
   conv=>whnf
   refine gZc hmm ?_;conv=>whnf
   refine⟨(k+1,⟨m1,m2,m3⟩,f),⟨⟨by simp only;omega,by simp only;omega⟩,hvm,by simp only;rw[show n-(k+1)=j by omega];exact h4⟩,by show n-(k+1)<n-k;omega,?_⟩
   ((conv=>whnf);refine And.intro ?_ ?_;repeat' first|refine lc ?_ ?_|exact la0|exact lr rfl|exact ln0|refine lh1 ?_ ?_|exact lh0|exact bf0|exact bd0|refine bc0 ?_|exact bm0 rfl|exact bb0 rfl|exact bg0 rfl|exact li0 rfl|refine lg0 ?_|refine lt0 ?_|fail)
   exact ai0 (by rw[wI (by simp only;omega)];simp only;omega)
  ·have k2:e≠0:=by simpa using k2
   rw[if_neg k2]at h4
   subst h4
   conv=>whnf
   exact⟨lr rfl,leG⟩
 ·have k1: ¬k<n:=by simp only[decide_eq_false_iff_not]at k1;omega
  rw[show n-k=0 by omega]at h4
  simp only[zgj]at h4
  subst h4
  conv=>whnf
  exact⟨lr rfl,leG⟩
def zit (d:Dy) (n p:Nat) (up:Bool):Dy×Int:=if vu d<0 then(xj (ziz (xj d) n p (!up)).1,(ziz (xj d) n p (!up)).2)else ziz d n p up
theorem zyg (d:Dy):vu (xj d)= -vu d:=by
 unfold vu xj
 by_cases h:nm d=0
 ·rw[if_pos h,if_pos h];rfl
 ·rw[if_neg h,if_neg h]
  have h2:nm ⟨!d.neg,d.m,d.e⟩=nm d:=rfl
  rw[h2,if_neg h]
  cases d.neg<;>rfl
theorem qde {d:Dy} (hd:VD d) (hs: ¬vu d<0) (n p:Nat) (hn:1≤n∧n≤16) (hp:8≤p∧p≤512) (up:Bool):Fn 92 G0 [.agg (dyC d),.int .i64 n,.int .i64 p,.bool up] (dyV (ziz d n p up)) G0:=by
 have h1:=i183t hd n p hn hp
 have h2:=i183f hd n p hn hp
 have h124:=zp6 hd
 generalize ziz d n p=F at*
 generalize vu d=S at*
 clear hd
 cases up with
 |true=>
  generalize F true=R at*
  obtain⟨⟨r1,r2,r3⟩,e⟩:=R
  refine fnT hT6 hmx Tryz.func92 rfl rfl (ex:= []) ?_;conv=>whnf
  refine gZn h124 ?_;conv=>whnf
  refine brI (fun k1=>?_) (fun k1=>?_)
  ·exact absurd (of_decide_eq_true k1) hs
  conv=>whnf
  refine gZc h1 ?_;conv=>whnf
  exact⟨lr rfl,leG⟩
 |false=>
  generalize F false=R at*
  obtain⟨⟨r1,r2,r3⟩,e⟩:=R
  refine fnT hT6 hmx Tryz.func92 rfl rfl (ex:= []) ?_;conv=>whnf
  refine gZn h124 ?_;conv=>whnf
  refine brI (fun k1=>?_) (fun k1=>?_)
  ·exact absurd (of_decide_eq_true k1) hs
  conv=>whnf
  refine gZc h2 ?_;conv=>whnf
  exact⟨lr rfl,leG⟩
theorem i138 {d:Dy} (hd:VD d) (n p:Nat) (hn:1≤n∧n≤16) (hp:8≤p∧p≤512) (up:Bool):Fn 92 G0 [.agg (dyC d),.int .i64 n,.int .i64 p,.bool up] (dyV (zit d n p up)) G0:=by
 by_cases hs:vu d<0
 ·have hR:zit d n p up=(xj (ziz (xj d) n p (!up)).1,(ziz (xj d) n p (!up)).2):=by unfold zit;rw[if_pos hs]
  rw[hR]
  have h124:=zp6 hd
  have h135:Fn 89 [] [.agg (dyC d)] (.agg (dyC (xj d))) []:=zx0 hd
  have h138:=qde (zc5 hd) (by rw[zyg];omega) n p hn hp (!up)
  have hv:=ztt (xj d) n p (!up) hp
  have h135b:Fn 89 [] [.agg (dyC (ziz (xj d) n p (!up)).1)] (.agg (dyC (xj (ziz (xj d) n p (!up)).1))) []:=zx0 hv
  generalize ziz (xj d) n p (!up)=P at*
  generalize xj d=N at*
  generalize vu d=S at*
  generalize xj P.1=Q at*
  clear hd hv hR
  obtain⟨⟨r1,r2,r3⟩,e⟩:=P
  refine fnT hT6 hmx Tryz.func92 rfl rfl (ex:= []) ?_;conv=>whnf
  refine gZn h124 ?_;conv=>whnf
  refine brI (fun k1=>?_) (fun k1=>?_)
  rotate_left
  ·exact absurd hs (of_decide_eq_false k1)
  conv=>whnf
  refine gZn h135 ?_;conv=>whnf
  refine gZc h138 ?_;conv=>whnf
  refine gZn h135b ?_;conv=>whnf
  exact⟨lr rfl,leG⟩
 ·have hR:zit d n p up=ziz d n p up:=by unfold zit;rw[if_neg hs]
  rw[hR]
  exact qde hd hs n p hn hp up
theorem zxo (d:Dy) (n p:Nat) (up:Bool) (hp:8≤p∧p≤512):VD (zit d n p up).1:=by
 unfold zit
 split
 ·exact zc5 (ztt _ _ _ _ hp)
 ·exact ztt _ _ _ _ hp
def pwK (x:Iv) (n p:Nat):Iv:=wg (zit x.lo n p false) (zit x.hi n p true)
def zwx (x:Iv) (n p:Int):Iv:=
 if kB x=true∧pcB p=true∧0≤n∧n≤16 then(if n=0 then vi (kc 1)else pwK (if n % 2=0 then zxm x else x) n.toNat p.toNat)else wI0
theorem zxl {x:Iv} (hk:kB x=true):zxm x=⟨zbu x,kj x,false⟩:=by unfold zxm;rw[if_pos hk]
theorem kb (n:Int) (h: -4611686018427387904≤n∧n≤4611686018427387904):VD (kc n):=by
 unfold kc
 have hb:bl n.natAbs≤64:=jf.2 (by show n.natAbs<18446744073709551616;omega)
 exact zkx (znp (by omega) (by omega) (by omega))
theorem i87 (x:Iv) (h:RI x) (n p:Int):Fn 43 G0 [.agg (ivC x),.int .i64 n,.int .i64 p] (.agg (ivC (zwx x n p))) G0:=by
 have h126:=znq [x] (by simp) (by simpa using h)
 rw[k1]at h126
 have h127:=zw8 p
 have h25:=i25
 rw[e25]at h25
 have hR:zwx x n p=if kB x=true∧pcB p=true∧0≤n∧n≤16 then(if n=0 then vi (kc 1)else pwK (if n % 2=0 then zxm x else x) n.toNat p.toNat)else wI0:=rfl
 generalize zwx x n p=R at*
 by_cases hk:kB x=true
 rotate_left
 ·rw[if_neg fun c=>hk c.1]at hR
  rw[show kB x=false by simpa using hk]at h126
  subst hR
  clear h hk
  refine fnT hT6 hmx Tryz.func43 rfl rfl (ex:= []) ?_;conv=>whnf
  refine gZn h126 ?_;conv=>whnf
  refine gZn h25 ?_;conv=>whnf
  exact⟨lr rfl,leG⟩
 rw[hk]at h126
 by_cases hp:pcB p=true
 rotate_left
 ·rw[if_neg fun c=>hp c.2.1]at hR
  rw[show pcB p=false by simpa using hp]at h127
  subst hR
  clear h hk
  refine fnT hT6 hmx Tryz.func43 rfl rfl (ex:= []) ?_;conv=>whnf
  refine gZn h126 ?_;conv=>whnf
  refine gZn h127 ?_;conv=>whnf
  refine gZn h25 ?_;conv=>whnf
  exact⟨lr rfl,leG⟩
 rw[hp]at h127
 by_cases hn:0≤n∧n≤16
 rotate_left
 ·rw[if_neg fun c=>hn c.2.2]at hR
  subst hR
  clear h hk
  refine fnT hT6 hmx Tryz.func43 rfl rfl (ex:= []) ?_;conv=>whnf
  refine gZn h126 ?_;conv=>whnf
  refine gZn h127 ?_;conv=>whnf
  refine brI (fun k1=>?_) (fun k1=>?_)
  ·conv=>whnf
   refine gZn h25 ?_;conv=>whnf
   exact⟨lr rfl,leG⟩
  have k1: ¬n<0:=of_decide_eq_false k1
  conv=>whnf
  refine brI (fun k2=>?_) (fun k2=>?_)
  ·conv=>whnf
   refine gZn h25 ?_;conv=>whnf
   exact⟨lr rfl,leG⟩
  have k2: ¬16<n:=of_decide_eq_false k2
  omega
 rw[if_pos ⟨hk,hp,hn⟩]at hR
 obtain⟨N,rfl⟩:=Int.eq_ofNat_of_zero_le hn.1
 by_cases h0:N=0
 ·subst h0
  rw[if_pos (by rfl)]at hR
  have h77:=v77 1 (by decide)
  have h136:=qa4 (kb 1 (by decide))
  generalize kc 1=I1 at*
  rw[←hR]at h136
  clear h hk hR
  refine fnT hT6 hmx Tryz.func43 rfl rfl (ex:= []) ?_;conv=>whnf
  refine gZn h126 ?_;conv=>whnf
  refine gZn h127 ?_;conv=>whnf
  refine gZc h77 ?_;conv=>whnf
  refine gZn h136 ?_;conv=>whnf
  exact⟨lr rfl,leG⟩
 rw[if_neg (by omega),Int.toNat_natCast]at hR
 have kx:=(qc h).1 hk
 obtain⟨q,rfl,hq⟩:=yy.1 hp
 rw[Int.toNat_natCast]at hR
 have hcase: ∀y:Iv,VD y.lo→VD y.hi→R=pwK y N q→
  Fn 92 G0 [.agg (dyC y.lo),.int .i64 N,.int .i64 q,.bool false] (dyV (zit y.lo N q false)) G0∧Fn 92 G0 [.agg (dyC y.hi),.int .i64 N,.int .i64 q,.bool true] (dyV (zit y.hi N q true)) G0∧
  Fn 84 [] [.agg (dyC (zit y.lo N q false).1),.int .i64 (zit y.lo N q false).2,.agg (dyC (zit y.hi N q true).1),.int .i64 (zit y.hi N q true).2] (.agg (ivC R)) []:=by
  intro y hl hh e
  refine⟨i138 hl N q (by omega) hq false,i138 hh N q (by omega) hq true,?_⟩
  rw[e]
  exact qa5 _ _
 have hmod:((N:Int).tmod 2==0)=decide ((N:Int) % 2=0):=by
  have:(N:Int).tmod 2=((N % 2:Nat):Int):=(Int.ofNat_tmod N 2).symm
  rw[this,Bool.eq_iff_iff,beq_iff_eq,decide_eq_true_eq];omega
 by_cases he:(N:Int) % 2=0
 ·rw[if_pos he,zxl hk]at hR
  rw[decide_eq_true he]at hmod
  have h137:=i137 x h
  rw[zxl hk]at h137
  obtain⟨n1,n2,n3⟩:=hcase _ (zkw kx) (zc6 kx) hR
  simp only at n1 n2 n3
  generalize zit (zbu x) N q false=A at*
  generalize zit (kj x) N q true=B at*
  generalize zbu x=L at*
  generalize kj x=U at*
  clear hcase hR kx h hk
  obtain⟨⟨a1,a2,a3⟩,e⟩:=A
  obtain⟨⟨b1,b2,b3⟩,f⟩:=B
  refine fnT hT6 hmx Tryz.func43 rfl rfl (ex:= []) ?_;conv=>whnf
  refine gZn h126 ?_;conv=>whnf
  refine gZn h127 ?_;conv=>whnf
  refine brI (fun k2=>?_) (fun k2=>?_)
  ·have k2:=of_decide_eq_true k2;omega
  conv=>whnf
  refine brI (fun k3=>?_) (fun k3=>?_)
  ·have k3:(N:Int)=0:=by simpa using k3
   omega
  conv=>whnf
  refine⟨by decide,?_⟩;conv=>whnf
  refine brI (fun k4=>?_) (fun k4=>?_)
  rotate_left
  ·have k4:((N:Int).tmod 2==0)=false:=k4
   rw[hmod]at k4;cases k4
  conv=>whnf
  refine gZn h137 ?_;conv=>whnf
  refine gZc n1 ?_;conv=>whnf
  refine gZc n2 ?_;conv=>whnf
  refine gZn n3 ?_;conv=>whnf
  exact⟨lr rfl,leG⟩
 ·rw[if_neg he]at hR
  rw[decide_eq_false he]at hmod
  obtain⟨n1,n2,n3⟩:=hcase _ kx.lo kx.hi hR
  generalize zit x.lo N q false=A at*
  generalize zit x.hi N q true=B at*
  clear hcase hR kx h hk
  obtain⟨⟨a1,a2,a3⟩,e⟩:=A
  obtain⟨⟨b1,b2,b3⟩,f⟩:=B
  refine fnT hT6 hmx Tryz.func43 rfl rfl (ex:= []) ?_;conv=>whnf
  refine gZn h126 ?_;conv=>whnf
  refine gZn h127 ?_;conv=>whnf
  refine brI (fun k2=>?_) (fun k2=>?_)
  ·have k2:=of_decide_eq_true k2;omega
  conv=>whnf
  refine brI (fun k3=>?_) (fun k3=>?_)
  ·have k3:(N:Int)=0:=by simpa using k3
   omega
  conv=>whnf
  refine⟨by decide,?_⟩;conv=>whnf
  refine brI (fun k4=>?_) (fun k4=>?_)
  ·have k4:((N:Int).tmod 2==0)=true:=k4
   rw[hmod]at k4;cases k4
  conv=>whnf
  refine gZc n1 ?_;conv=>whnf
  refine gZc n2 ?_;conv=>whnf
  refine gZn n3 ?_;conv=>whnf
  exact⟨lr rfl,leG⟩
end Go.Proofs.YtlocddfailmnpaaGreatDoor

namespace Go.Proofs.YtlocddfailmnpaaGreatDoor
open Go Go.Sx
set_option maxRecDepth 100000
set_option maxHeartbeats 8000000
theorem zp {h h':Hp} {i:Nat} {l m:List AV} (e:l=m) (hk:okR.okRL h h' m=true):leB h h' i (.cells l) (.cells m):=bc0 (by rw[e];exact zcs hk)
def stI (dn up:Dy×Int) (o:Iv) (K:Iv→Iv):Iv:=
 if dn.2≠0∨up.2≠0 then wI0 else K ⟨if qo dn.1 o.lo<0 then dn.1 else o.lo,if 0<qo up.1 o.hi then up.1 else o.hi,false⟩
def s0I (dn up:Dy×Int) (K:Iv→Iv):Iv:=if dn.2≠0∨up.2≠0 then wI0 else K ⟨dn.1,up.1,false⟩
def f4I (dn up:Dy→Dy→Dy×Int) (x y:Iv):Nat→Iv→Iv
 |0,_=>s0I (dn x.lo y.lo) (up x.lo y.lo) (fun o=>stI (dn x.lo y.hi) (up x.lo y.hi) o (fun o=>stI (dn x.hi y.lo) (up x.hi y.lo) o (fun o=>stI (dn x.hi y.hi) (up x.hi y.hi) o (fun o=>o))))
 |1,o=>stI (dn x.lo y.hi) (up x.lo y.hi) o (fun o=>stI (dn x.hi y.lo) (up x.hi y.lo) o (fun o=>stI (dn x.hi y.hi) (up x.hi y.hi) o (fun o=>o)))
 |2,o=>stI (dn x.hi y.lo) (up x.hi y.lo) o (fun o=>stI (dn x.hi y.hi) (up x.hi y.hi) o (fun o=>o))
 |3,o=>stI (dn x.hi y.hi) (up x.hi y.hi) o (fun o=>o)
 | _+4,o=>o
def jt (dn up:Dy→Dy→Dy×Int) (x y:Iv):Iv:=f4I dn up x y 0 wI0
theorem i131m {x y:Iv} (hx:KI x) (hy:KI y) (p:Nat) (hp:8≤p∧p≤512):Fn 85 G0 [.agg (ivC x),.agg (ivC y),.int .i64 p,.fn 86 [],.fn 87 []] (.agg (ivC (jt (fun a b=>ji a b p false) (fun a b=>ji a b p true) x y))) G0:=by
 have h25:=i25
 rw[e25]at h25
 have hd0:=qay hx.lo hy.lo p hp
 have hu0:=qax hx.lo hy.lo p hp
 have vd0:=ug x.lo y.lo false p hp
 have vu0:=ug x.lo y.lo true p hp
 have hd1:=qay hx.lo hy.hi p hp
 have hu1:=qax hx.lo hy.hi p hp
 have vd1:=ug x.lo y.hi false p hp
 have vu1:=ug x.lo y.hi true p hp
 have hd2:=qay hx.hi hy.lo p hp
 have hu2:=qax hx.hi hy.lo p hp
 have vd2:=ug x.hi y.lo false p hp
 have vu2:=ug x.hi y.lo true p hp
 have hd3:=qay hx.hi hy.hi p hp
 have hu3:=qax hx.hi hy.hi p hp
 have vd3:=ug x.hi y.hi false p hp
 have vu3:=ug x.hi y.hi true p hp
 obtain⟨R,hR⟩: ∃R,jt (fun a b=>ji a b p false) (fun a b=>ji a b p true) x y=R:=⟨_,rfl⟩
 rw[hR]
 unfold jt at hR
 obtain⟨D0,hD0⟩: ∃A,ji x.lo y.lo p false=A:=⟨_,rfl⟩
 obtain⟨U0,hU0⟩: ∃A,ji x.lo y.lo p true=A:=⟨_,rfl⟩
 rw[hD0]at hd0 vd0
 rw[hU0]at hu0 vu0
 obtain⟨D1,hD1⟩: ∃A,ji x.lo y.hi p false=A:=⟨_,rfl⟩
 obtain⟨U1,hU1⟩: ∃A,ji x.lo y.hi p true=A:=⟨_,rfl⟩
 rw[hD1]at hd1 vd1
 rw[hU1]at hu1 vu1
 obtain⟨D2,hD2⟩: ∃A,ji x.hi y.lo p false=A:=⟨_,rfl⟩
 obtain⟨U2,hU2⟩: ∃A,ji x.hi y.lo p true=A:=⟨_,rfl⟩
 rw[hD2]at hd2 vd2
 rw[hU2]at hu2 vu2
 obtain⟨D3,hD3⟩: ∃A,ji x.hi y.hi p false=A:=⟨_,rfl⟩
 obtain⟨U3,hU3⟩: ∃A,ji x.hi y.hi p true=A:=⟨_,rfl⟩
 rw[hD3]at hd3 vd3
 rw[hU3]at hu3 vu3
 have g3: ∀o,f4I (fun a b=>ji a b p false) (fun a b=>ji a b p true) x y 3 o=stI D3 U3 o (fun o=>o):=fun o=>by rw[←hD3,←hU3];rfl
 have g2: ∀o,f4I (fun a b=>ji a b p false) (fun a b=>ji a b p true) x y 2 o=stI D2 U2 o (f4I (fun a b=>ji a b p false) (fun a b=>ji a b p true) x y 3):=fun o=>by rw[←hD2,←hU2];rfl
 have g1: ∀o,f4I (fun a b=>ji a b p false) (fun a b=>ji a b p true) x y 1 o=stI D1 U1 o (f4I (fun a b=>ji a b p false) (fun a b=>ji a b p true) x y 2):=fun o=>by rw[←hD1,←hU1];rfl
 have g0: ∀o,f4I (fun a b=>ji a b p false) (fun a b=>ji a b p true) x y 0 o=s0I D0 U0 (f4I (fun a b=>ji a b p false) (fun a b=>ji a b p true) x y 1):=fun o=>by rw[←hD0,←hU0];rfl
 have g4: ∀o,f4I (fun a b=>ji a b p false) (fun a b=>ji a b p true) x y 4 o=o:=fun o=>rfl
 generalize f4I (fun a b=>ji a b p false) (fun a b=>ji a b p true) x y=G at*
 clear hD0 hD1 hD2 hD3 hU0 hU1 hU2 hU3 hx hy
 obtain⟨⟨a01,a02,a03⟩,e0⟩:=D0
 obtain⟨⟨b01,b02,b03⟩,f0⟩:=U0
 obtain⟨⟨a11,a12,a13⟩,e1⟩:=D1
 obtain⟨⟨b11,b12,b13⟩,f1⟩:=U1
 obtain⟨⟨a21,a22,a23⟩,e2⟩:=D2
 obtain⟨⟨b21,b22,b23⟩,f2⟩:=U2
 obtain⟨⟨a31,a32,a33⟩,e3⟩:=D3
 obtain⟨⟨b31,b32,b33⟩,f3⟩:=U3
 obtain⟨⟨x1,x2,x3⟩,⟨x4,x5,x6⟩,x7⟩:=x
 obtain⟨⟨y1,y2,y3⟩,⟨y4,y5,y6⟩,y7⟩:=y
 have hd0:Fn 86 G0 [.agg [.bool x1,.sl .u32 x2,.int .i64 x3],.agg [.bool y1,.sl .u32 y2,.int .i64 y3],.int .i64 p] (dyV (⟨a01,a02,a03⟩,e0)) G0:=hd0
 have hu0:Fn 87 G0 [.agg [.bool x1,.sl .u32 x2,.int .i64 x3],.agg [.bool y1,.sl .u32 y2,.int .i64 y3],.int .i64 p] (dyV (⟨b01,b02,b03⟩,f0)) G0:=hu0
 simp only at vd0 vu0
 have hd1:Fn 86 G0 [.agg [.bool x1,.sl .u32 x2,.int .i64 x3],.agg [.bool y4,.sl .u32 y5,.int .i64 y6],.int .i64 p] (dyV (⟨a11,a12,a13⟩,e1)) G0:=hd1
 have hu1:Fn 87 G0 [.agg [.bool x1,.sl .u32 x2,.int .i64 x3],.agg [.bool y4,.sl .u32 y5,.int .i64 y6],.int .i64 p] (dyV (⟨b11,b12,b13⟩,f1)) G0:=hu1
 simp only at vd1 vu1
 have hd2:Fn 86 G0 [.agg [.bool x4,.sl .u32 x5,.int .i64 x6],.agg [.bool y1,.sl .u32 y2,.int .i64 y3],.int .i64 p] (dyV (⟨a21,a22,a23⟩,e2)) G0:=hd2
 have hu2:Fn 87 G0 [.agg [.bool x4,.sl .u32 x5,.int .i64 x6],.agg [.bool y1,.sl .u32 y2,.int .i64 y3],.int .i64 p] (dyV (⟨b21,b22,b23⟩,f2)) G0:=hu2
 simp only at vd2 vu2
 have hd3:Fn 86 G0 [.agg [.bool x4,.sl .u32 x5,.int .i64 x6],.agg [.bool y4,.sl .u32 y5,.int .i64 y6],.int .i64 p] (dyV (⟨a31,a32,a33⟩,e3)) G0:=hd3
 have hu3:Fn 87 G0 [.agg [.bool x4,.sl .u32 x5,.int .i64 x6],.agg [.bool y4,.sl .u32 y5,.int .i64 y6],.int .i64 p] (dyV (⟨b31,b32,b33⟩,f3)) G0:=hu3
 simp only at vd3 vu3
 show Fn 85 G0 [.agg [.bool x1,.sl .u32 x2,.int .i64 x3,.bool x4,.sl .u32 x5,.int .i64 x6,.bool x7],.agg [.bool y1,.sl .u32 y2,.int .i64 y3,.bool y4,.sl .u32 y5,.int .i64 y6,.bool y7],.int .i64 p,.fn 86 [],.fn 87 []] _ G0
 refine fnT hT6 hmx Tryz.func85 rfl rfl (ex:= []) ?_;conv=>whnf
 refine⟨Nat×Iv,fun s=>s.1≤4∧(VD s.2.lo∧VD s.2.hi)∧s.2.all=false∧G s.1 s.2=R,fun s=> [(41,.int .i64 s.1)],fun s=> [(12,.cells (ivC s.2))],fun s=>4-s.1,(0,⟨d0,d0,false⟩),?_,?_,fun s hs=>?_⟩
 ·exact⟨by simp,⟨qq,qq⟩,rfl,by rw[←hR];simp only;rw[g0,g0]⟩
 ·((conv=>whnf);refine And.intro ?_ ?_;repeat' first|refine lc ?_ ?_|exact la0|exact lr rfl|exact ln0|refine lh1 ?_ ?_|exact lh0|exact bf0|exact bd0|refine bc0 ?_|exact bm0 rfl|exact bb0 rfl|exact bg0 rfl|exact li0 rfl|refine lg0 ?_|refine lt0 ?_|fail)
 obtain⟨i,o⟩:=s
 obtain⟨h1,⟨h2,h3⟩,h4,h5⟩:=hs
 simp only at h1 h2 h3 h4 h5
 have c0:Fn 64 [] [.agg [.bool a01,.sl .u32 a02,.int .i64 a03],.agg (dyC o.lo)] (.int .i64 (qo ⟨a01,a02,a03⟩ o.lo)) []:=v81 vd0 h2
 have u0:Fn 64 [] [.agg [.bool b01,.sl .u32 b02,.int .i64 b03],.agg (dyC o.hi)] (.int .i64 (qo ⟨b01,b02,b03⟩ o.hi)) []:=v81 vu0 h3
 have c1:Fn 64 [] [.agg [.bool a11,.sl .u32 a12,.int .i64 a13],.agg (dyC o.lo)] (.int .i64 (qo ⟨a11,a12,a13⟩ o.lo)) []:=v81 vd1 h2
 have u1:Fn 64 [] [.agg [.bool b11,.sl .u32 b12,.int .i64 b13],.agg (dyC o.hi)] (.int .i64 (qo ⟨b11,b12,b13⟩ o.hi)) []:=v81 vu1 h3
 have c2:Fn 64 [] [.agg [.bool a21,.sl .u32 a22,.int .i64 a23],.agg (dyC o.lo)] (.int .i64 (qo ⟨a21,a22,a23⟩ o.lo)) []:=v81 vd2 h2
 have u2:Fn 64 [] [.agg [.bool b21,.sl .u32 b22,.int .i64 b23],.agg (dyC o.hi)] (.int .i64 (qo ⟨b21,b22,b23⟩ o.hi)) []:=v81 vu2 h3
 have c3:Fn 64 [] [.agg [.bool a31,.sl .u32 a32,.int .i64 a33],.agg (dyC o.lo)] (.int .i64 (qo ⟨a31,a32,a33⟩ o.lo)) []:=v81 vd3 h2
 have u3:Fn 64 [] [.agg [.bool b31,.sl .u32 b32,.int .i64 b33],.agg (dyC o.hi)] (.int .i64 (qo ⟨b31,b32,b33⟩ o.hi)) []:=v81 vu3 h3
 obtain⟨⟨o1,o2,o3⟩,⟨o4,o5,o6⟩,o7⟩:=o
 simp only at h4 h2 h3
 subst h4
 have c0:Fn 64 [] [.agg [.bool a01,.sl .u32 a02,.int .i64 a03],.agg [.bool o1,.sl .u32 o2,.int .i64 o3]] (.int .i64 (qo ⟨a01,a02,a03⟩ ⟨o1,o2,o3⟩)) []:=c0
 have u0:Fn 64 [] [.agg [.bool b01,.sl .u32 b02,.int .i64 b03],.agg [.bool o4,.sl .u32 o5,.int .i64 o6]] (.int .i64 (qo ⟨b01,b02,b03⟩ ⟨o4,o5,o6⟩)) []:=u0
 have c1:Fn 64 [] [.agg [.bool a11,.sl .u32 a12,.int .i64 a13],.agg [.bool o1,.sl .u32 o2,.int .i64 o3]] (.int .i64 (qo ⟨a11,a12,a13⟩ ⟨o1,o2,o3⟩)) []:=c1
 have u1:Fn 64 [] [.agg [.bool b11,.sl .u32 b12,.int .i64 b13],.agg [.bool o4,.sl .u32 o5,.int .i64 o6]] (.int .i64 (qo ⟨b11,b12,b13⟩ ⟨o4,o5,o6⟩)) []:=u1
 have c2:Fn 64 [] [.agg [.bool a21,.sl .u32 a22,.int .i64 a23],.agg [.bool o1,.sl .u32 o2,.int .i64 o3]] (.int .i64 (qo ⟨a21,a22,a23⟩ ⟨o1,o2,o3⟩)) []:=c2
 have u2:Fn 64 [] [.agg [.bool b21,.sl .u32 b22,.int .i64 b23],.agg [.bool o4,.sl .u32 o5,.int .i64 o6]] (.int .i64 (qo ⟨b21,b22,b23⟩ ⟨o4,o5,o6⟩)) []:=u2
 have c3:Fn 64 [] [.agg [.bool a31,.sl .u32 a32,.int .i64 a33],.agg [.bool o1,.sl .u32 o2,.int .i64 o3]] (.int .i64 (qo ⟨a31,a32,a33⟩ ⟨o1,o2,o3⟩)) []:=c3
 have u3:Fn 64 [] [.agg [.bool b31,.sl .u32 b32,.int .i64 b33],.agg [.bool o4,.sl .u32 o5,.int .i64 o6]] (.int .i64 (qo ⟨b31,b32,b33⟩ ⟨o4,o5,o6⟩)) []:=u3
 obtain rfl|rfl|rfl|rfl|rfl:i=0∨i=1∨i=2∨i=3∨i=4:=by omega
 ·rw[g0]at h5
  unfold s0I at h5
  simp only at h5
  (refine⟨by kernel_rfl,?_⟩;(conv=>whnf))
  refine⟨⟨by show(0:Int)≤0;decide,by show(0:Int)<4;decide⟩,?_⟩;conv=>whnf
  refine⟨⟨by decide,by decide⟩,?_⟩;conv=>whnf
  refine⟨⟨by decide,by decide⟩,?_⟩;conv=>whnf
  refine gZc hd0 ?_;conv=>whnf
  refine⟨⟨by decide,by decide⟩,?_⟩;conv=>whnf
  refine⟨⟨by decide,by decide⟩,?_⟩;conv=>whnf
  refine gZc hu0 ?_;conv=>whnf
  refine brI (fun k1=>?_) (fun k1=>?_)
  ·have k1:e0≠0:=by simpa using k1
   rw[if_pos (.inl k1)]at h5
   subst h5
   conv=>whnf
   refine gZn h25 ?_;conv=>whnf
   exact⟨lr rfl,leG⟩
  have k1:e0=0:=by simpa using k1
  conv=>whnf
  refine brI (fun k2=>?_) (fun k2=>?_)
  ·have k2:f0≠0:=by simpa using k2
   rw[if_pos (.inr k2)]at h5
   subst h5
   conv=>whnf
   refine gZn h25 ?_;conv=>whnf
   exact⟨lr rfl,leG⟩
  have k2:f0=0:=by simpa using k2
  rw[if_neg (by simp[k1,k2])]at h5
  conv=>whnf
  refine⟨(1,⟨⟨a01,a02,a03⟩,⟨b01,b02,b03⟩,false⟩),⟨by show 1≤4;decide,⟨vd0,vu0⟩,rfl,by exact h5⟩,by show 4-1<4-0;decide,?_⟩
  (conv=>whnf)
  refine And.intro ?_ ?_
  ·repeat' first|refine lc ?_ ?_|exact la0|exact lr rfl|exact ln0
  ·repeat' first|refine lh1 ?_ ?_|exact lh0|exact bf0|exact bd0|exact zp rfl rfl|exact bg0 rfl
 ·rw[g1]at h5
  unfold stI at h5
  simp only at h5
  (refine⟨by kernel_rfl,?_⟩;(conv=>whnf))
  refine⟨⟨by show(0:Int)≤1;decide,by show(1:Int)<4;decide⟩,?_⟩;conv=>whnf
  refine⟨⟨by decide,by decide⟩,?_⟩;conv=>whnf
  refine⟨⟨by decide,by decide⟩,?_⟩;conv=>whnf
  refine gZc hd1 ?_;conv=>whnf
  refine⟨⟨by decide,by decide⟩,?_⟩;conv=>whnf
  refine⟨⟨by decide,by decide⟩,?_⟩;conv=>whnf
  refine gZc hu1 ?_;conv=>whnf
  refine brI (fun k1=>?_) (fun k1=>?_)
  ·have k1:e1≠0:=by simpa using k1
   rw[if_pos (.inl k1)]at h5
   subst h5
   conv=>whnf
   refine gZn h25 ?_;conv=>whnf
   exact⟨lr rfl,leG⟩
  have k1:e1=0:=by simpa using k1
  conv=>whnf
  refine brI (fun k2=>?_) (fun k2=>?_)
  ·have k2:f1≠0:=by simpa using k2
   rw[if_pos (.inr k2)]at h5
   subst h5
   conv=>whnf
   refine gZn h25 ?_;conv=>whnf
   exact⟨lr rfl,leG⟩
  have k2:f1=0:=by simpa using k2
  rw[if_neg (by simp[k1,k2])]at h5
  conv=>whnf
  refine gZn c1 ?_;conv=>whnf
  refine brI (fun k3=>?_) (fun k3=>?_)
  ·have k3:qo ⟨a11,a12,a13⟩ ⟨o1,o2,o3⟩<0:=of_decide_eq_true k3
   rw[if_pos k3]at h5
   conv=>whnf
   refine gZn u1 ?_;conv=>whnf
   refine brI (fun k4=>?_) (fun k4=>?_)
   ·have k4:0<qo ⟨b11,b12,b13⟩ ⟨o4,o5,o6⟩:=of_decide_eq_true k4
    rw[if_pos k4]at h5
    conv=>whnf
    refine⟨(2,⟨⟨a11,a12,a13⟩,⟨b11,b12,b13⟩,false⟩),⟨by show 2≤4;decide,⟨vd1,vu1⟩,rfl,by exact h5⟩,by show 4-2<4-1;decide,?_⟩
    (conv=>whnf)
    refine And.intro ?_ ?_
    ·repeat' first|refine lc ?_ ?_|exact la0|exact lr rfl|exact ln0
    ·repeat' first|refine lh1 ?_ ?_|exact lh0|exact bf0|exact bd0|exact zp rfl rfl|exact bg0 rfl
   ·have k4: ¬0<qo ⟨b11,b12,b13⟩ ⟨o4,o5,o6⟩:=of_decide_eq_false k4
    rw[if_neg k4]at h5
    conv=>whnf
    refine⟨(2,⟨⟨a11,a12,a13⟩,⟨o4,o5,o6⟩,false⟩),⟨by show 2≤4;decide,⟨vd1,h3⟩,rfl,by exact h5⟩,by show 4-2<4-1;decide,?_⟩
    (conv=>whnf)
    refine And.intro ?_ ?_
    ·repeat' first|refine lc ?_ ?_|exact la0|exact lr rfl|exact ln0
    ·repeat' first|refine lh1 ?_ ?_|exact lh0|exact bf0|exact bd0|exact zp rfl rfl|exact bg0 rfl
  ·have k3: ¬qo ⟨a11,a12,a13⟩ ⟨o1,o2,o3⟩<0:=of_decide_eq_false k3
   rw[if_neg k3]at h5
   conv=>whnf
   refine gZn u1 ?_;conv=>whnf
   refine brI (fun k4=>?_) (fun k4=>?_)
   ·have k4:0<qo ⟨b11,b12,b13⟩ ⟨o4,o5,o6⟩:=of_decide_eq_true k4
    rw[if_pos k4]at h5
    conv=>whnf
    refine⟨(2,⟨⟨o1,o2,o3⟩,⟨b11,b12,b13⟩,false⟩),⟨by show 2≤4;decide,⟨h2,vu1⟩,rfl,by exact h5⟩,by show 4-2<4-1;decide,?_⟩
    (conv=>whnf)
    refine And.intro ?_ ?_
    ·repeat' first|refine lc ?_ ?_|exact la0|exact lr rfl|exact ln0
    ·repeat' first|refine lh1 ?_ ?_|exact lh0|exact bf0|exact bd0|exact zp rfl rfl|exact bg0 rfl
   ·have k4: ¬0<qo ⟨b11,b12,b13⟩ ⟨o4,o5,o6⟩:=of_decide_eq_false k4
    rw[if_neg k4]at h5
    conv=>whnf
    refine⟨(2,⟨⟨o1,o2,o3⟩,⟨o4,o5,o6⟩,false⟩),⟨by show 2≤4;decide,⟨h2,h3⟩,rfl,by exact h5⟩,by show 4-2<4-1;decide,?_⟩
    (conv=>whnf)
    refine And.intro ?_ ?_
    ·repeat' first|refine lc ?_ ?_|exact la0|exact lr rfl|exact ln0
    ·repeat' first|refine lh1 ?_ ?_|exact lh0|exact bf0|exact bd0|exact zp rfl rfl|exact bg0 rfl
 ·rw[g2]at h5
  unfold stI at h5
  simp only at h5
  (refine⟨by kernel_rfl,?_⟩;(conv=>whnf))
  refine⟨⟨by show(0:Int)≤2;decide,by show(2:Int)<4;decide⟩,?_⟩;conv=>whnf
  refine⟨⟨by decide,by decide⟩,?_⟩;conv=>whnf
  refine⟨⟨by decide,by decide⟩,?_⟩;conv=>whnf
  refine gZc hd2 ?_;conv=>whnf
  refine⟨⟨by decide,by decide⟩,?_⟩;conv=>whnf
  refine⟨⟨by decide,by decide⟩,?_⟩;conv=>whnf
  refine gZc hu2 ?_;conv=>whnf
  refine brI (fun k1=>?_) (fun k1=>?_)
  ·have k1:e2≠0:=by simpa using k1
   rw[if_pos (.inl k1)]at h5
   subst h5
   conv=>whnf
   refine gZn h25 ?_;conv=>whnf
   exact⟨lr rfl,leG⟩
  have k1:e2=0:=by simpa using k1
  conv=>whnf
  refine brI (fun k2=>?_) (fun k2=>?_)
  ·have k2:f2≠0:=by simpa using k2
   rw[if_pos (.inr k2)]at h5
   subst h5
   conv=>whnf
   refine gZn h25 ?_;conv=>whnf
   exact⟨lr rfl,leG⟩
  have k2:f2=0:=by simpa using k2
  rw[if_neg (by simp[k1,k2])]at h5
  conv=>whnf
  refine gZn c2 ?_;conv=>whnf
  refine brI (fun k3=>?_) (fun k3=>?_)
  ·have k3:qo ⟨a21,a22,a23⟩ ⟨o1,o2,o3⟩<0:=of_decide_eq_true k3
   rw[if_pos k3]at h5
   conv=>whnf
   refine gZn u2 ?_;conv=>whnf
   refine brI (fun k4=>?_) (fun k4=>?_)
   ·have k4:0<qo ⟨b21,b22,b23⟩ ⟨o4,o5,o6⟩:=of_decide_eq_true k4
    rw[if_pos k4]at h5
    conv=>whnf
    refine⟨(3,⟨⟨a21,a22,a23⟩,⟨b21,b22,b23⟩,false⟩),⟨by show 3≤4;decide,⟨vd2,vu2⟩,rfl,by exact h5⟩,by show 4-3<4-2;decide,?_⟩
    (conv=>whnf)
    refine And.intro ?_ ?_
    ·repeat' first|refine lc ?_ ?_|exact la0|exact lr rfl|exact ln0
    ·repeat' first|refine lh1 ?_ ?_|exact lh0|exact bf0|exact bd0|exact zp rfl rfl|exact bg0 rfl
   ·have k4: ¬0<qo ⟨b21,b22,b23⟩ ⟨o4,o5,o6⟩:=of_decide_eq_false k4
    rw[if_neg k4]at h5
    conv=>whnf
    refine⟨(3,⟨⟨a21,a22,a23⟩,⟨o4,o5,o6⟩,false⟩),⟨by show 3≤4;decide,⟨vd2,h3⟩,rfl,by exact h5⟩,by show 4-3<4-2;decide,?_⟩
    (conv=>whnf)
    refine And.intro ?_ ?_
    ·repeat' first|refine lc ?_ ?_|exact la0|exact lr rfl|exact ln0
    ·repeat' first|refine lh1 ?_ ?_|exact lh0|exact bf0|exact bd0|exact zp rfl rfl|exact bg0 rfl
  ·have k3: ¬qo ⟨a21,a22,a23⟩ ⟨o1,o2,o3⟩<0:=of_decide_eq_false k3
   rw[if_neg k3]at h5
   conv=>whnf
   refine gZn u2 ?_;conv=>whnf
   refine brI (fun k4=>?_) (fun k4=>?_)
   ·have k4:0<qo ⟨b21,b22,b23⟩ ⟨o4,o5,o6⟩:=of_decide_eq_true k4
    rw[if_pos k4]at h5
    conv=>whnf
    refine⟨(3,⟨⟨o1,o2,o3⟩,⟨b21,b22,b23⟩,false⟩),⟨by show 3≤4;decide,⟨h2,vu2⟩,rfl,by exact h5⟩,by show 4-3<4-2;decide,?_⟩
    (conv=>whnf)
    refine And.intro ?_ ?_
    ·repeat' first|refine lc ?_ ?_|exact la0|exact lr rfl|exact ln0
    ·repeat' first|refine lh1 ?_ ?_|exact lh0|exact bf0|exact bd0|exact zp rfl rfl|exact bg0 rfl
   ·have k4: ¬0<qo ⟨b21,b22,b23⟩ ⟨o4,o5,o6⟩:=of_decide_eq_false k4
    rw[if_neg k4]at h5
    conv=>whnf
    refine⟨(3,⟨⟨o1,o2,o3⟩,⟨o4,o5,o6⟩,false⟩),⟨by show 3≤4;decide,⟨h2,h3⟩,rfl,by exact h5⟩,by show 4-3<4-2;decide,?_⟩
    (conv=>whnf)
    refine And.intro ?_ ?_
    ·repeat' first|refine lc ?_ ?_|exact la0|exact lr rfl|exact ln0
    ·repeat' first|refine lh1 ?_ ?_|exact lh0|exact bf0|exact bd0|exact zp rfl rfl|exact bg0 rfl
 ·rw[g3]at h5
  unfold stI at h5
  simp only at h5
  (refine⟨by kernel_rfl,?_⟩;(conv=>whnf))
  refine⟨⟨by show(0:Int)≤3;decide,by show(3:Int)<4;decide⟩,?_⟩;conv=>whnf
  refine⟨⟨by decide,by decide⟩,?_⟩;conv=>whnf
  refine⟨⟨by decide,by decide⟩,?_⟩;conv=>whnf
  refine gZc hd3 ?_;conv=>whnf
  refine⟨⟨by decide,by decide⟩,?_⟩;conv=>whnf
  refine⟨⟨by decide,by decide⟩,?_⟩;conv=>whnf
  refine gZc hu3 ?_;conv=>whnf
  refine brI (fun k1=>?_) (fun k1=>?_)
  ·have k1:e3≠0:=by simpa using k1
   rw[if_pos (.inl k1)]at h5
   subst h5
   conv=>whnf
   refine gZn h25 ?_;conv=>whnf
   exact⟨lr rfl,leG⟩
  have k1:e3=0:=by simpa using k1
  conv=>whnf
  refine brI (fun k2=>?_) (fun k2=>?_)
  ·have k2:f3≠0:=by simpa using k2
   rw[if_pos (.inr k2)]at h5
   subst h5
   conv=>whnf
   refine gZn h25 ?_;conv=>whnf
   exact⟨lr rfl,leG⟩
  have k2:f3=0:=by simpa using k2
  rw[if_neg (by simp[k1,k2])]at h5
  conv=>whnf
  refine gZn c3 ?_;conv=>whnf
  refine brI (fun k3=>?_) (fun k3=>?_)
  ·have k3:qo ⟨a31,a32,a33⟩ ⟨o1,o2,o3⟩<0:=of_decide_eq_true k3
   rw[if_pos k3]at h5
   conv=>whnf
   refine gZn u3 ?_;conv=>whnf
   refine brI (fun k4=>?_) (fun k4=>?_)
   ·have k4:0<qo ⟨b31,b32,b33⟩ ⟨o4,o5,o6⟩:=of_decide_eq_true k4
    rw[if_pos k4]at h5
    conv=>whnf
    refine⟨(4,⟨⟨a31,a32,a33⟩,⟨b31,b32,b33⟩,false⟩),⟨by show 4≤4;decide,⟨vd3,vu3⟩,rfl,by rw[g4];exact h5⟩,by show 4-4<4-3;decide,?_⟩
    (conv=>whnf)
    refine And.intro ?_ ?_
    ·repeat' first|refine lc ?_ ?_|exact la0|exact lr rfl|exact ln0
    ·repeat' first|refine lh1 ?_ ?_|exact lh0|exact bf0|exact bd0|exact zp rfl rfl|exact bg0 rfl
   ·have k4: ¬0<qo ⟨b31,b32,b33⟩ ⟨o4,o5,o6⟩:=of_decide_eq_false k4
    rw[if_neg k4]at h5
    conv=>whnf
    refine⟨(4,⟨⟨a31,a32,a33⟩,⟨o4,o5,o6⟩,false⟩),⟨by show 4≤4;decide,⟨vd3,h3⟩,rfl,by rw[g4];exact h5⟩,by show 4-4<4-3;decide,?_⟩
    (conv=>whnf)
    refine And.intro ?_ ?_
    ·repeat' first|refine lc ?_ ?_|exact la0|exact lr rfl|exact ln0
    ·repeat' first|refine lh1 ?_ ?_|exact lh0|exact bf0|exact bd0|exact zp rfl rfl|exact bg0 rfl
  ·have k3: ¬qo ⟨a31,a32,a33⟩ ⟨o1,o2,o3⟩<0:=of_decide_eq_false k3
   rw[if_neg k3]at h5
   conv=>whnf
   refine gZn u3 ?_;conv=>whnf
   refine brI (fun k4=>?_) (fun k4=>?_)
   ·have k4:0<qo ⟨b31,b32,b33⟩ ⟨o4,o5,o6⟩:=of_decide_eq_true k4
    rw[if_pos k4]at h5
    conv=>whnf
    refine⟨(4,⟨⟨o1,o2,o3⟩,⟨b31,b32,b33⟩,false⟩),⟨by show 4≤4;decide,⟨h2,vu3⟩,rfl,by rw[g4];exact h5⟩,by show 4-4<4-3;decide,?_⟩
    (conv=>whnf)
    refine And.intro ?_ ?_
    ·repeat' first|refine lc ?_ ?_|exact la0|exact lr rfl|exact ln0
    ·repeat' first|refine lh1 ?_ ?_|exact lh0|exact bf0|exact bd0|exact zp rfl rfl|exact bg0 rfl
   ·have k4: ¬0<qo ⟨b31,b32,b33⟩ ⟨o4,o5,o6⟩:=of_decide_eq_false k4
    rw[if_neg k4]at h5
    conv=>whnf
    refine⟨(4,⟨⟨o1,o2,o3⟩,⟨o4,o5,o6⟩,false⟩),⟨by show 4≤4;decide,⟨h2,h3⟩,rfl,by rw[g4];exact h5⟩,by show 4-4<4-3;decide,?_⟩
    (conv=>whnf)
    refine And.intro ?_ ?_
    ·repeat' first|refine lc ?_ ?_|exact la0|exact lr rfl|exact ln0
    ·repeat' first|refine lh1 ?_ ?_|exact lh0|exact bf0|exact bd0|exact zp rfl rfl|exact bg0 rfl
 ·rw[g4]at h5
  subst h5
  (refine⟨by kernel_rfl,?_⟩;(conv=>whnf))
  exact⟨lr rfl,leG⟩
end Go.Proofs.YtlocddfailmnpaaGreatDoor

namespace Go.Proofs.YtlocddfailmnpaaGreatDoor
open Go Go.Sx
set_option maxRecDepth 100000
set_option maxHeartbeats 8000000
theorem i131d {x y:Iv} (hx:KI x) (hy:KI y) (p:Nat) (hp:8≤p∧p≤512):Fn 85 G0 [.agg (ivC x),.agg (ivC y),.int .i64 p,.fn 73 [],.fn 75 []] (.agg (ivC (jt (fun a b=>kd a b p false) (fun a b=>kd a b p true) x y))) G0:=by
 have h25:=i25
 rw[e25]at h25
 have hd0:=v76 hx.lo hy.lo p hp
 have hu0:=v78 hx.lo hy.lo p hp
 have vd0:=zaa x.lo y.lo false p hp
 have vu0:=zaa x.lo y.lo true p hp
 have hd1:=v76 hx.lo hy.hi p hp
 have hu1:=v78 hx.lo hy.hi p hp
 have vd1:=zaa x.lo y.hi false p hp
 have vu1:=zaa x.lo y.hi true p hp
 have hd2:=v76 hx.hi hy.lo p hp
 have hu2:=v78 hx.hi hy.lo p hp
 have vd2:=zaa x.hi y.lo false p hp
 have vu2:=zaa x.hi y.lo true p hp
 have hd3:=v76 hx.hi hy.hi p hp
 have hu3:=v78 hx.hi hy.hi p hp
 have vd3:=zaa x.hi y.hi false p hp
 have vu3:=zaa x.hi y.hi true p hp
 obtain⟨R,hR⟩: ∃R,jt (fun a b=>kd a b p false) (fun a b=>kd a b p true) x y=R:=⟨_,rfl⟩
 rw[hR]
 unfold jt at hR
 obtain⟨D0,hD0⟩: ∃A,kd x.lo y.lo p false=A:=⟨_,rfl⟩
 obtain⟨U0,hU0⟩: ∃A,kd x.lo y.lo p true=A:=⟨_,rfl⟩
 rw[hD0]at hd0 vd0
 rw[hU0]at hu0 vu0
 obtain⟨D1,hD1⟩: ∃A,kd x.lo y.hi p false=A:=⟨_,rfl⟩
 obtain⟨U1,hU1⟩: ∃A,kd x.lo y.hi p true=A:=⟨_,rfl⟩
 rw[hD1]at hd1 vd1
 rw[hU1]at hu1 vu1
 obtain⟨D2,hD2⟩: ∃A,kd x.hi y.lo p false=A:=⟨_,rfl⟩
 obtain⟨U2,hU2⟩: ∃A,kd x.hi y.lo p true=A:=⟨_,rfl⟩
 rw[hD2]at hd2 vd2
 rw[hU2]at hu2 vu2
 obtain⟨D3,hD3⟩: ∃A,kd x.hi y.hi p false=A:=⟨_,rfl⟩
 obtain⟨U3,hU3⟩: ∃A,kd x.hi y.hi p true=A:=⟨_,rfl⟩
 rw[hD3]at hd3 vd3
 rw[hU3]at hu3 vu3
 have g3: ∀o,f4I (fun a b=>kd a b p false) (fun a b=>kd a b p true) x y 3 o=stI D3 U3 o (fun o=>o):=fun o=>by rw[←hD3,←hU3];rfl
 have g2: ∀o,f4I (fun a b=>kd a b p false) (fun a b=>kd a b p true) x y 2 o=stI D2 U2 o (f4I (fun a b=>kd a b p false) (fun a b=>kd a b p true) x y 3):=fun o=>by rw[←hD2,←hU2];rfl
 have g1: ∀o,f4I (fun a b=>kd a b p false) (fun a b=>kd a b p true) x y 1 o=stI D1 U1 o (f4I (fun a b=>kd a b p false) (fun a b=>kd a b p true) x y 2):=fun o=>by rw[←hD1,←hU1];rfl
 have g0: ∀o,f4I (fun a b=>kd a b p false) (fun a b=>kd a b p true) x y 0 o=s0I D0 U0 (f4I (fun a b=>kd a b p false) (fun a b=>kd a b p true) x y 1):=fun o=>by rw[←hD0,←hU0];rfl
 have g4: ∀o,f4I (fun a b=>kd a b p false) (fun a b=>kd a b p true) x y 4 o=o:=fun o=>rfl
 generalize f4I (fun a b=>kd a b p false) (fun a b=>kd a b p true) x y=G at*
 clear hD0 hD1 hD2 hD3 hU0 hU1 hU2 hU3 hx hy
 obtain⟨⟨a01,a02,a03⟩,e0⟩:=D0
 obtain⟨⟨b01,b02,b03⟩,f0⟩:=U0
 obtain⟨⟨a11,a12,a13⟩,e1⟩:=D1
 obtain⟨⟨b11,b12,b13⟩,f1⟩:=U1
 obtain⟨⟨a21,a22,a23⟩,e2⟩:=D2
 obtain⟨⟨b21,b22,b23⟩,f2⟩:=U2
 obtain⟨⟨a31,a32,a33⟩,e3⟩:=D3
 obtain⟨⟨b31,b32,b33⟩,f3⟩:=U3
 obtain⟨⟨x1,x2,x3⟩,⟨x4,x5,x6⟩,x7⟩:=x
 obtain⟨⟨y1,y2,y3⟩,⟨y4,y5,y6⟩,y7⟩:=y
 have hd0:Fn 73 G0 [.agg [.bool x1,.sl .u32 x2,.int .i64 x3],.agg [.bool y1,.sl .u32 y2,.int .i64 y3],.int .i64 p] (dyV (⟨a01,a02,a03⟩,e0)) G0:=hd0
 have hu0:Fn 75 G0 [.agg [.bool x1,.sl .u32 x2,.int .i64 x3],.agg [.bool y1,.sl .u32 y2,.int .i64 y3],.int .i64 p] (dyV (⟨b01,b02,b03⟩,f0)) G0:=hu0
 simp only at vd0 vu0
 have hd1:Fn 73 G0 [.agg [.bool x1,.sl .u32 x2,.int .i64 x3],.agg [.bool y4,.sl .u32 y5,.int .i64 y6],.int .i64 p] (dyV (⟨a11,a12,a13⟩,e1)) G0:=hd1
 have hu1:Fn 75 G0 [.agg [.bool x1,.sl .u32 x2,.int .i64 x3],.agg [.bool y4,.sl .u32 y5,.int .i64 y6],.int .i64 p] (dyV (⟨b11,b12,b13⟩,f1)) G0:=hu1
 simp only at vd1 vu1
 have hd2:Fn 73 G0 [.agg [.bool x4,.sl .u32 x5,.int .i64 x6],.agg [.bool y1,.sl .u32 y2,.int .i64 y3],.int .i64 p] (dyV (⟨a21,a22,a23⟩,e2)) G0:=hd2
 have hu2:Fn 75 G0 [.agg [.bool x4,.sl .u32 x5,.int .i64 x6],.agg [.bool y1,.sl .u32 y2,.int .i64 y3],.int .i64 p] (dyV (⟨b21,b22,b23⟩,f2)) G0:=hu2
 simp only at vd2 vu2
 have hd3:Fn 73 G0 [.agg [.bool x4,.sl .u32 x5,.int .i64 x6],.agg [.bool y4,.sl .u32 y5,.int .i64 y6],.int .i64 p] (dyV (⟨a31,a32,a33⟩,e3)) G0:=hd3
 have hu3:Fn 75 G0 [.agg [.bool x4,.sl .u32 x5,.int .i64 x6],.agg [.bool y4,.sl .u32 y5,.int .i64 y6],.int .i64 p] (dyV (⟨b31,b32,b33⟩,f3)) G0:=hu3
 simp only at vd3 vu3
 show Fn 85 G0 [.agg [.bool x1,.sl .u32 x2,.int .i64 x3,.bool x4,.sl .u32 x5,.int .i64 x6,.bool x7],.agg [.bool y1,.sl .u32 y2,.int .i64 y3,.bool y4,.sl .u32 y5,.int .i64 y6,.bool y7],.int .i64 p,.fn 73 [],.fn 75 []] _ G0
 refine fnT hT6 hmx Tryz.func85 rfl rfl (ex:= []) ?_;conv=>whnf
 refine⟨Nat×Iv,fun s=>s.1≤4∧(VD s.2.lo∧VD s.2.hi)∧s.2.all=false∧G s.1 s.2=R,fun s=> [(41,.int .i64 s.1)],fun s=> [(12,.cells (ivC s.2))],fun s=>4-s.1,(0,⟨d0,d0,false⟩),?_,?_,fun s hs=>?_⟩
 ·exact⟨by simp,⟨qq,qq⟩,rfl,by rw[←hR];simp only;rw[g0,g0]⟩
 ·((conv=>whnf);refine And.intro ?_ ?_;repeat' first|refine lc ?_ ?_|exact la0|exact lr rfl|exact ln0|refine lh1 ?_ ?_|exact lh0|exact bf0|exact bd0|refine bc0 ?_|exact bm0 rfl|exact bb0 rfl|exact bg0 rfl|exact li0 rfl|refine lg0 ?_|refine lt0 ?_|fail)
 obtain⟨i,o⟩:=s
 obtain⟨h1,⟨h2,h3⟩,h4,h5⟩:=hs
 simp only at h1 h2 h3 h4 h5
 have c0:Fn 64 [] [.agg [.bool a01,.sl .u32 a02,.int .i64 a03],.agg (dyC o.lo)] (.int .i64 (qo ⟨a01,a02,a03⟩ o.lo)) []:=v81 vd0 h2
 have u0:Fn 64 [] [.agg [.bool b01,.sl .u32 b02,.int .i64 b03],.agg (dyC o.hi)] (.int .i64 (qo ⟨b01,b02,b03⟩ o.hi)) []:=v81 vu0 h3
 have c1:Fn 64 [] [.agg [.bool a11,.sl .u32 a12,.int .i64 a13],.agg (dyC o.lo)] (.int .i64 (qo ⟨a11,a12,a13⟩ o.lo)) []:=v81 vd1 h2
 have u1:Fn 64 [] [.agg [.bool b11,.sl .u32 b12,.int .i64 b13],.agg (dyC o.hi)] (.int .i64 (qo ⟨b11,b12,b13⟩ o.hi)) []:=v81 vu1 h3
 have c2:Fn 64 [] [.agg [.bool a21,.sl .u32 a22,.int .i64 a23],.agg (dyC o.lo)] (.int .i64 (qo ⟨a21,a22,a23⟩ o.lo)) []:=v81 vd2 h2
 have u2:Fn 64 [] [.agg [.bool b21,.sl .u32 b22,.int .i64 b23],.agg (dyC o.hi)] (.int .i64 (qo ⟨b21,b22,b23⟩ o.hi)) []:=v81 vu2 h3
 have c3:Fn 64 [] [.agg [.bool a31,.sl .u32 a32,.int .i64 a33],.agg (dyC o.lo)] (.int .i64 (qo ⟨a31,a32,a33⟩ o.lo)) []:=v81 vd3 h2
 have u3:Fn 64 [] [.agg [.bool b31,.sl .u32 b32,.int .i64 b33],.agg (dyC o.hi)] (.int .i64 (qo ⟨b31,b32,b33⟩ o.hi)) []:=v81 vu3 h3
 obtain⟨⟨o1,o2,o3⟩,⟨o4,o5,o6⟩,o7⟩:=o
 simp only at h4 h2 h3
 subst h4
 have c0:Fn 64 [] [.agg [.bool a01,.sl .u32 a02,.int .i64 a03],.agg [.bool o1,.sl .u32 o2,.int .i64 o3]] (.int .i64 (qo ⟨a01,a02,a03⟩ ⟨o1,o2,o3⟩)) []:=c0
 have u0:Fn 64 [] [.agg [.bool b01,.sl .u32 b02,.int .i64 b03],.agg [.bool o4,.sl .u32 o5,.int .i64 o6]] (.int .i64 (qo ⟨b01,b02,b03⟩ ⟨o4,o5,o6⟩)) []:=u0
 have c1:Fn 64 [] [.agg [.bool a11,.sl .u32 a12,.int .i64 a13],.agg [.bool o1,.sl .u32 o2,.int .i64 o3]] (.int .i64 (qo ⟨a11,a12,a13⟩ ⟨o1,o2,o3⟩)) []:=c1
 have u1:Fn 64 [] [.agg [.bool b11,.sl .u32 b12,.int .i64 b13],.agg [.bool o4,.sl .u32 o5,.int .i64 o6]] (.int .i64 (qo ⟨b11,b12,b13⟩ ⟨o4,o5,o6⟩)) []:=u1
 have c2:Fn 64 [] [.agg [.bool a21,.sl .u32 a22,.int .i64 a23],.agg [.bool o1,.sl .u32 o2,.int .i64 o3]] (.int .i64 (qo ⟨a21,a22,a23⟩ ⟨o1,o2,o3⟩)) []:=c2
 have u2:Fn 64 [] [.agg [.bool b21,.sl .u32 b22,.int .i64 b23],.agg [.bool o4,.sl .u32 o5,.int .i64 o6]] (.int .i64 (qo ⟨b21,b22,b23⟩ ⟨o4,o5,o6⟩)) []:=u2
 have c3:Fn 64 [] [.agg [.bool a31,.sl .u32 a32,.int .i64 a33],.agg [.bool o1,.sl .u32 o2,.int .i64 o3]] (.int .i64 (qo ⟨a31,a32,a33⟩ ⟨o1,o2,o3⟩)) []:=c3
 have u3:Fn 64 [] [.agg [.bool b31,.sl .u32 b32,.int .i64 b33],.agg [.bool o4,.sl .u32 o5,.int .i64 o6]] (.int .i64 (qo ⟨b31,b32,b33⟩ ⟨o4,o5,o6⟩)) []:=u3
 obtain rfl|rfl|rfl|rfl|rfl:i=0∨i=1∨i=2∨i=3∨i=4:=by omega
 ·rw[g0]at h5
  unfold s0I at h5
  simp only at h5
  (refine⟨by kernel_rfl,?_⟩;(conv=>whnf))
  refine⟨⟨by show(0:Int)≤0;decide,by show(0:Int)<4;decide⟩,?_⟩;conv=>whnf
  refine⟨⟨by decide,by decide⟩,?_⟩;conv=>whnf
  refine⟨⟨by decide,by decide⟩,?_⟩;conv=>whnf
  refine gZc hd0 ?_;conv=>whnf
  refine⟨⟨by decide,by decide⟩,?_⟩;conv=>whnf
  refine⟨⟨by decide,by decide⟩,?_⟩;conv=>whnf
  refine gZc hu0 ?_;conv=>whnf
  refine brI (fun k1=>?_) (fun k1=>?_)
  ·have k1:e0≠0:=by simpa using k1
   rw[if_pos (.inl k1)]at h5
   subst h5
   conv=>whnf
   refine gZn h25 ?_;conv=>whnf
   exact⟨lr rfl,leG⟩
  have k1:e0=0:=by simpa using k1
  conv=>whnf
  refine brI (fun k2=>?_) (fun k2=>?_)
  ·have k2:f0≠0:=by simpa using k2
   rw[if_pos (.inr k2)]at h5
   subst h5
   conv=>whnf
   refine gZn h25 ?_;conv=>whnf
   exact⟨lr rfl,leG⟩
  have k2:f0=0:=by simpa using k2
  rw[if_neg (by simp[k1,k2])]at h5
  conv=>whnf
  refine⟨(1,⟨⟨a01,a02,a03⟩,⟨b01,b02,b03⟩,false⟩),⟨by show 1≤4;decide,⟨vd0,vu0⟩,rfl,by exact h5⟩,by show 4-1<4-0;decide,?_⟩
  (conv=>whnf)
  refine And.intro ?_ ?_
  ·repeat' first|refine lc ?_ ?_|exact la0|exact lr rfl|exact ln0
  ·repeat' first|refine lh1 ?_ ?_|exact lh0|exact bf0|exact bd0|exact zp rfl rfl|exact bg0 rfl
 ·rw[g1]at h5
  unfold stI at h5
  simp only at h5
  (refine⟨by kernel_rfl,?_⟩;(conv=>whnf))
  refine⟨⟨by show(0:Int)≤1;decide,by show(1:Int)<4;decide⟩,?_⟩;conv=>whnf
  refine⟨⟨by decide,by decide⟩,?_⟩;conv=>whnf
  refine⟨⟨by decide,by decide⟩,?_⟩;conv=>whnf
  refine gZc hd1 ?_;conv=>whnf
  refine⟨⟨by decide,by decide⟩,?_⟩;conv=>whnf
  refine⟨⟨by decide,by decide⟩,?_⟩;conv=>whnf
  refine gZc hu1 ?_;conv=>whnf
  refine brI (fun k1=>?_) (fun k1=>?_)
  ·have k1:e1≠0:=by simpa using k1
   rw[if_pos (.inl k1)]at h5
   subst h5
   conv=>whnf
   refine gZn h25 ?_;conv=>whnf
   exact⟨lr rfl,leG⟩
  have k1:e1=0:=by simpa using k1
  conv=>whnf
  refine brI (fun k2=>?_) (fun k2=>?_)
  ·have k2:f1≠0:=by simpa using k2
   rw[if_pos (.inr k2)]at h5
   subst h5
   conv=>whnf
   refine gZn h25 ?_;conv=>whnf
   exact⟨lr rfl,leG⟩
  have k2:f1=0:=by simpa using k2
  rw[if_neg (by simp[k1,k2])]at h5
  conv=>whnf
  refine gZn c1 ?_;conv=>whnf
  refine brI (fun k3=>?_) (fun k3=>?_)
  ·have k3:qo ⟨a11,a12,a13⟩ ⟨o1,o2,o3⟩<0:=of_decide_eq_true k3
   rw[if_pos k3]at h5
   conv=>whnf
   refine gZn u1 ?_;conv=>whnf
   refine brI (fun k4=>?_) (fun k4=>?_)
   ·have k4:0<qo ⟨b11,b12,b13⟩ ⟨o4,o5,o6⟩:=of_decide_eq_true k4
    rw[if_pos k4]at h5
    conv=>whnf
    refine⟨(2,⟨⟨a11,a12,a13⟩,⟨b11,b12,b13⟩,false⟩),⟨by show 2≤4;decide,⟨vd1,vu1⟩,rfl,by exact h5⟩,by show 4-2<4-1;decide,?_⟩
    (conv=>whnf)
    refine And.intro ?_ ?_
    ·repeat' first|refine lc ?_ ?_|exact la0|exact lr rfl|exact ln0
    ·repeat' first|refine lh1 ?_ ?_|exact lh0|exact bf0|exact bd0|exact zp rfl rfl|exact bg0 rfl
   ·have k4: ¬0<qo ⟨b11,b12,b13⟩ ⟨o4,o5,o6⟩:=of_decide_eq_false k4
    rw[if_neg k4]at h5
    conv=>whnf
    refine⟨(2,⟨⟨a11,a12,a13⟩,⟨o4,o5,o6⟩,false⟩),⟨by show 2≤4;decide,⟨vd1,h3⟩,rfl,by exact h5⟩,by show 4-2<4-1;decide,?_⟩
    (conv=>whnf)
    refine And.intro ?_ ?_
    ·repeat' first|refine lc ?_ ?_|exact la0|exact lr rfl|exact ln0
    ·repeat' first|refine lh1 ?_ ?_|exact lh0|exact bf0|exact bd0|exact zp rfl rfl|exact bg0 rfl
  ·have k3: ¬qo ⟨a11,a12,a13⟩ ⟨o1,o2,o3⟩<0:=of_decide_eq_false k3
   rw[if_neg k3]at h5
   conv=>whnf
   refine gZn u1 ?_;conv=>whnf
   refine brI (fun k4=>?_) (fun k4=>?_)
   ·have k4:0<qo ⟨b11,b12,b13⟩ ⟨o4,o5,o6⟩:=of_decide_eq_true k4
    rw[if_pos k4]at h5
    conv=>whnf
    refine⟨(2,⟨⟨o1,o2,o3⟩,⟨b11,b12,b13⟩,false⟩),⟨by show 2≤4;decide,⟨h2,vu1⟩,rfl,by exact h5⟩,by show 4-2<4-1;decide,?_⟩
    (conv=>whnf)
    refine And.intro ?_ ?_
    ·repeat' first|refine lc ?_ ?_|exact la0|exact lr rfl|exact ln0
    ·repeat' first|refine lh1 ?_ ?_|exact lh0|exact bf0|exact bd0|exact zp rfl rfl|exact bg0 rfl
   ·have k4: ¬0<qo ⟨b11,b12,b13⟩ ⟨o4,o5,o6⟩:=of_decide_eq_false k4
    rw[if_neg k4]at h5
    conv=>whnf
    refine⟨(2,⟨⟨o1,o2,o3⟩,⟨o4,o5,o6⟩,false⟩),⟨by show 2≤4;decide,⟨h2,h3⟩,rfl,by exact h5⟩,by show 4-2<4-1;decide,?_⟩
    (conv=>whnf)
    refine And.intro ?_ ?_
    ·repeat' first|refine lc ?_ ?_|exact la0|exact lr rfl|exact ln0
    ·repeat' first|refine lh1 ?_ ?_|exact lh0|exact bf0|exact bd0|exact zp rfl rfl|exact bg0 rfl
 ·rw[g2]at h5
  unfold stI at h5
  simp only at h5
  (refine⟨by kernel_rfl,?_⟩;(conv=>whnf))
  refine⟨⟨by show(0:Int)≤2;decide,by show(2:Int)<4;decide⟩,?_⟩;conv=>whnf
  refine⟨⟨by decide,by decide⟩,?_⟩;conv=>whnf
  refine⟨⟨by decide,by decide⟩,?_⟩;conv=>whnf
  refine gZc hd2 ?_;conv=>whnf
  refine⟨⟨by decide,by decide⟩,?_⟩;conv=>whnf
  refine⟨⟨by decide,by decide⟩,?_⟩;conv=>whnf
  refine gZc hu2 ?_;conv=>whnf
  refine brI (fun k1=>?_) (fun k1=>?_)
  ·have k1:e2≠0:=by simpa using k1
   rw[if_pos (.inl k1)]at h5
   subst h5
   conv=>whnf
   refine gZn h25 ?_;conv=>whnf
   exact⟨lr rfl,leG⟩
  have k1:e2=0:=by simpa using k1
  conv=>whnf
  refine brI (fun k2=>?_) (fun k2=>?_)
  ·have k2:f2≠0:=by simpa using k2
   rw[if_pos (.inr k2)]at h5
   subst h5
   conv=>whnf
   refine gZn h25 ?_;conv=>whnf
   exact⟨lr rfl,leG⟩
  have k2:f2=0:=by simpa using k2
  rw[if_neg (by simp[k1,k2])]at h5
  conv=>whnf
  refine gZn c2 ?_;conv=>whnf
  refine brI (fun k3=>?_) (fun k3=>?_)
  ·have k3:qo ⟨a21,a22,a23⟩ ⟨o1,o2,o3⟩<0:=of_decide_eq_true k3
   rw[if_pos k3]at h5
   conv=>whnf
   refine gZn u2 ?_;conv=>whnf
   refine brI (fun k4=>?_) (fun k4=>?_)
   ·have k4:0<qo ⟨b21,b22,b23⟩ ⟨o4,o5,o6⟩:=of_decide_eq_true k4
    rw[if_pos k4]at h5
    conv=>whnf
    refine⟨(3,⟨⟨a21,a22,a23⟩,⟨b21,b22,b23⟩,false⟩),⟨by show 3≤4;decide,⟨vd2,vu2⟩,rfl,by exact h5⟩,by show 4-3<4-2;decide,?_⟩
    (conv=>whnf)
    refine And.intro ?_ ?_
    ·repeat' first|refine lc ?_ ?_|exact la0|exact lr rfl|exact ln0
    ·repeat' first|refine lh1 ?_ ?_|exact lh0|exact bf0|exact bd0|exact zp rfl rfl|exact bg0 rfl
   ·have k4: ¬0<qo ⟨b21,b22,b23⟩ ⟨o4,o5,o6⟩:=of_decide_eq_false k4
    rw[if_neg k4]at h5
    conv=>whnf
    refine⟨(3,⟨⟨a21,a22,a23⟩,⟨o4,o5,o6⟩,false⟩),⟨by show 3≤4;decide,⟨vd2,h3⟩,rfl,by exact h5⟩,by show 4-3<4-2;decide,?_⟩
    (conv=>whnf)
    refine And.intro ?_ ?_
    ·repeat' first|refine lc ?_ ?_|exact la0|exact lr rfl|exact ln0
    ·repeat' first|refine lh1 ?_ ?_|exact lh0|exact bf0|exact bd0|exact zp rfl rfl|exact bg0 rfl
  ·have k3: ¬qo ⟨a21,a22,a23⟩ ⟨o1,o2,o3⟩<0:=of_decide_eq_false k3
   rw[if_neg k3]at h5
   conv=>whnf
   refine gZn u2 ?_;conv=>whnf
   refine brI (fun k4=>?_) (fun k4=>?_)
   ·have k4:0<qo ⟨b21,b22,b23⟩ ⟨o4,o5,o6⟩:=of_decide_eq_true k4
    rw[if_pos k4]at h5
    conv=>whnf
    refine⟨(3,⟨⟨o1,o2,o3⟩,⟨b21,b22,b23⟩,false⟩),⟨by show 3≤4;decide,⟨h2,vu2⟩,rfl,by exact h5⟩,by show 4-3<4-2;decide,?_⟩
    (conv=>whnf)
    refine And.intro ?_ ?_
    ·repeat' first|refine lc ?_ ?_|exact la0|exact lr rfl|exact ln0
    ·repeat' first|refine lh1 ?_ ?_|exact lh0|exact bf0|exact bd0|exact zp rfl rfl|exact bg0 rfl
   ·have k4: ¬0<qo ⟨b21,b22,b23⟩ ⟨o4,o5,o6⟩:=of_decide_eq_false k4
    rw[if_neg k4]at h5
    conv=>whnf
    refine⟨(3,⟨⟨o1,o2,o3⟩,⟨o4,o5,o6⟩,false⟩),⟨by show 3≤4;decide,⟨h2,h3⟩,rfl,by exact h5⟩,by show 4-3<4-2;decide,?_⟩
    (conv=>whnf)
    refine And.intro ?_ ?_
    ·repeat' first|refine lc ?_ ?_|exact la0|exact lr rfl|exact ln0
    ·repeat' first|refine lh1 ?_ ?_|exact lh0|exact bf0|exact bd0|exact zp rfl rfl|exact bg0 rfl
 ·rw[g3]at h5
  unfold stI at h5
  simp only at h5
  (refine⟨by kernel_rfl,?_⟩;(conv=>whnf))
  refine⟨⟨by show(0:Int)≤3;decide,by show(3:Int)<4;decide⟩,?_⟩;conv=>whnf
  refine⟨⟨by decide,by decide⟩,?_⟩;conv=>whnf
  refine⟨⟨by decide,by decide⟩,?_⟩;conv=>whnf
  refine gZc hd3 ?_;conv=>whnf
  refine⟨⟨by decide,by decide⟩,?_⟩;conv=>whnf
  refine⟨⟨by decide,by decide⟩,?_⟩;conv=>whnf
  refine gZc hu3 ?_;conv=>whnf
  refine brI (fun k1=>?_) (fun k1=>?_)
  ·have k1:e3≠0:=by simpa using k1
   rw[if_pos (.inl k1)]at h5
   subst h5
   conv=>whnf
   refine gZn h25 ?_;conv=>whnf
   exact⟨lr rfl,leG⟩
  have k1:e3=0:=by simpa using k1
  conv=>whnf
  refine brI (fun k2=>?_) (fun k2=>?_)
  ·have k2:f3≠0:=by simpa using k2
   rw[if_pos (.inr k2)]at h5
   subst h5
   conv=>whnf
   refine gZn h25 ?_;conv=>whnf
   exact⟨lr rfl,leG⟩
  have k2:f3=0:=by simpa using k2
  rw[if_neg (by simp[k1,k2])]at h5
  conv=>whnf
  refine gZn c3 ?_;conv=>whnf
  refine brI (fun k3=>?_) (fun k3=>?_)
  ·have k3:qo ⟨a31,a32,a33⟩ ⟨o1,o2,o3⟩<0:=of_decide_eq_true k3
   rw[if_pos k3]at h5
   conv=>whnf
   refine gZn u3 ?_;conv=>whnf
   refine brI (fun k4=>?_) (fun k4=>?_)
   ·have k4:0<qo ⟨b31,b32,b33⟩ ⟨o4,o5,o6⟩:=of_decide_eq_true k4
    rw[if_pos k4]at h5
    conv=>whnf
    refine⟨(4,⟨⟨a31,a32,a33⟩,⟨b31,b32,b33⟩,false⟩),⟨by show 4≤4;decide,⟨vd3,vu3⟩,rfl,by rw[g4];exact h5⟩,by show 4-4<4-3;decide,?_⟩
    (conv=>whnf)
    refine And.intro ?_ ?_
    ·repeat' first|refine lc ?_ ?_|exact la0|exact lr rfl|exact ln0
    ·repeat' first|refine lh1 ?_ ?_|exact lh0|exact bf0|exact bd0|exact zp rfl rfl|exact bg0 rfl
   ·have k4: ¬0<qo ⟨b31,b32,b33⟩ ⟨o4,o5,o6⟩:=of_decide_eq_false k4
    rw[if_neg k4]at h5
    conv=>whnf
    refine⟨(4,⟨⟨a31,a32,a33⟩,⟨o4,o5,o6⟩,false⟩),⟨by show 4≤4;decide,⟨vd3,h3⟩,rfl,by rw[g4];exact h5⟩,by show 4-4<4-3;decide,?_⟩
    (conv=>whnf)
    refine And.intro ?_ ?_
    ·repeat' first|refine lc ?_ ?_|exact la0|exact lr rfl|exact ln0
    ·repeat' first|refine lh1 ?_ ?_|exact lh0|exact bf0|exact bd0|exact zp rfl rfl|exact bg0 rfl
  ·have k3: ¬qo ⟨a31,a32,a33⟩ ⟨o1,o2,o3⟩<0:=of_decide_eq_false k3
   rw[if_neg k3]at h5
   conv=>whnf
   refine gZn u3 ?_;conv=>whnf
   refine brI (fun k4=>?_) (fun k4=>?_)
   ·have k4:0<qo ⟨b31,b32,b33⟩ ⟨o4,o5,o6⟩:=of_decide_eq_true k4
    rw[if_pos k4]at h5
    conv=>whnf
    refine⟨(4,⟨⟨o1,o2,o3⟩,⟨b31,b32,b33⟩,false⟩),⟨by show 4≤4;decide,⟨h2,vu3⟩,rfl,by rw[g4];exact h5⟩,by show 4-4<4-3;decide,?_⟩
    (conv=>whnf)
    refine And.intro ?_ ?_
    ·repeat' first|refine lc ?_ ?_|exact la0|exact lr rfl|exact ln0
    ·repeat' first|refine lh1 ?_ ?_|exact lh0|exact bf0|exact bd0|exact zp rfl rfl|exact bg0 rfl
   ·have k4: ¬0<qo ⟨b31,b32,b33⟩ ⟨o4,o5,o6⟩:=of_decide_eq_false k4
    rw[if_neg k4]at h5
    conv=>whnf
    refine⟨(4,⟨⟨o1,o2,o3⟩,⟨o4,o5,o6⟩,false⟩),⟨by show 4≤4;decide,⟨h2,h3⟩,rfl,by rw[g4];exact h5⟩,by show 4-4<4-3;decide,?_⟩
    (conv=>whnf)
    refine And.intro ?_ ?_
    ·repeat' first|refine lc ?_ ?_|exact la0|exact lr rfl|exact ln0
    ·repeat' first|refine lh1 ?_ ?_|exact lh0|exact bf0|exact bd0|exact zp rfl rfl|exact bg0 rfl
 ·rw[g4]at h5
  subst h5
  (refine⟨by kernel_rfl,?_⟩;(conv=>whnf))
  exact⟨lr rfl,leG⟩
end Go.Proofs.YtlocddfailmnpaaGreatDoor

namespace Go.Proofs.YtlocddfailmnpaaGreatDoor
open Go Go.Sx
set_option maxRecDepth 100000
set_option maxHeartbeats 8000000
def zam (x y:Iv) (p:Int):Iv:=if(kB x&&kB y)=true∧pcB p=true then jt (fun a b=>ji a b p.toNat false) (fun a b=>ji a b p.toNat true) x y else wI0
theorem i84 (x y:Iv) (hx:RI x) (hy:RI y) (p:Int):Fn 40 G0 [.agg (ivC x),.agg (ivC y),.int .i64 p] (.agg (ivC (zam x y p))) G0:=by
 have h126:=znq [x,y] (by simp) (by simpa using⟨hx,hy⟩)
 rw[k2]at h126
 have h127:=zw8 p
 have h25:=i25
 rw[e25]at h25
 have hR:zam x y p=if(kB x&&kB y)=true∧pcB p=true then jt (fun a b=>ji a b p.toNat false) (fun a b=>ji a b p.toNat true) x y else wI0:=rfl
 generalize zam x y p=R at*
 by_cases hk:(kB x&&kB y)=true
 ·rw[hk]at h126
  by_cases hp:pcB p=true
  ·rw[hp]at h127
   rw[if_pos ⟨hk,hp⟩]at hR
   rw[Bool.and_eq_true]at hk
   have kx:=(qc hx).1 hk.1
   have ky:=(qc hy).1 hk.2
   obtain⟨q,rfl,hq⟩:=yy.1 hp
   rw[Int.toNat_natCast]at hR
   have n1:=i131m kx ky q hq
   rw[←hR]at n1
   clear hR hk kx ky hx hy
   refine fnT hT6 hmx Tryz.func40 rfl rfl (ex:= []) ?_;conv=>whnf
   refine gZn h126 ?_;conv=>whnf
   refine gZn h127 ?_;conv=>whnf
   refine gZc n1 ?_;conv=>whnf
   exact⟨lr rfl,leG⟩
  ·rw[if_neg fun c=>hp c.2]at hR
   rw[show pcB p=false by simpa using hp]at h127
   subst hR
   clear hk hx hy
   refine fnT hT6 hmx Tryz.func40 rfl rfl (ex:= []) ?_;conv=>whnf
   refine gZn h126 ?_;conv=>whnf
   refine gZn h127 ?_;conv=>whnf
   refine gZn h25 ?_;conv=>whnf
   exact⟨lr rfl,leG⟩
 ·rw[if_neg fun c=>hk c.1]at hR
  rw[show(kB x&&kB y)=false by simpa using hk]at h126
  subst hR
  clear hk hx hy
  refine fnT hT6 hmx Tryz.func40 rfl rfl (ex:= []) ?_;conv=>whnf
  refine gZn h126 ?_;conv=>whnf
  refine gZn h25 ?_;conv=>whnf
  exact⟨lr rfl,leG⟩
def xc (x y:Iv) (p:Int):Iv:=if(kB x&&kB y)=true∧pcB p=true∧zlf y≠0 then jt (fun a b=>kd a b p.toNat false) (fun a b=>kd a b p.toNat true) x y else wI0
theorem i85 (x y:Iv) (hx:RI x) (hy:RI y) (p:Int):Fn 41 G0 [.agg (ivC x),.agg (ivC y),.int .i64 p] (.agg (ivC (xc x y p))) G0:=by
 have h126:=znq [x,y] (by simp) (by simpa using⟨hx,hy⟩)
 rw[k2]at h126
 have h127:=zw8 p
 have h25:=i25
 have h134:=i134 y hy
 rw[e25]at h25
 have hR:xc x y p=if(kB x&&kB y)=true∧pcB p=true∧zlf y≠0 then jt (fun a b=>kd a b p.toNat false) (fun a b=>kd a b p.toNat true) x y else wI0:=rfl
 generalize xc x y p=R at*
 generalize zlf y=S at*
 by_cases hk:(kB x&&kB y)=true
 ·rw[hk]at h126
  by_cases hp:pcB p=true
  ·rw[hp]at h127
   by_cases hs:S=0
   ·rw[if_neg fun c=>c.2.2 hs]at hR
    subst hR hs
    clear hk hx hy
    refine fnT hT6 hmx Tryz.func41 rfl rfl (ex:= []) ?_;conv=>whnf
    refine gZn h126 ?_;conv=>whnf
    refine gZn h127 ?_;conv=>whnf
    refine gZn h134 ?_;conv=>whnf
    refine gZn h25 ?_;conv=>whnf
    exact⟨lr rfl,leG⟩
   rw[if_pos ⟨hk,hp,hs⟩]at hR
   rw[Bool.and_eq_true]at hk
   have kx:=(qc hx).1 hk.1
   have ky:=(qc hy).1 hk.2
   obtain⟨q,rfl,hq⟩:=yy.1 hp
   rw[Int.toNat_natCast]at hR
   have n1:=i131d kx ky q hq
   rw[←hR]at n1
   clear hR hk kx ky hx hy
   refine fnT hT6 hmx Tryz.func41 rfl rfl (ex:= []) ?_;conv=>whnf
   refine gZn h126 ?_;conv=>whnf
   refine gZn h127 ?_;conv=>whnf
   refine gZn h134 ?_;conv=>whnf
   refine brI (fun k1=>?_) (fun k1=>?_)
   ·have k1:S=0:=by simpa using k1
    exact absurd k1 hs
   conv=>whnf
   refine gZc n1 ?_;conv=>whnf
   exact⟨lr rfl,leG⟩
  ·rw[if_neg fun c=>hp c.2.1]at hR
   rw[show pcB p=false by simpa using hp]at h127
   subst hR
   clear hk hx hy h134
   refine fnT hT6 hmx Tryz.func41 rfl rfl (ex:= []) ?_;conv=>whnf
   refine gZn h126 ?_;conv=>whnf
   refine gZn h127 ?_;conv=>whnf
   refine gZn h25 ?_;conv=>whnf
   exact⟨lr rfl,leG⟩
 ·rw[if_neg fun c=>hk c.1]at hR
  rw[show(kB x&&kB y)=false by simpa using hk]at h126
  subst hR
  clear hk hx hy h134
  refine fnT hT6 hmx Tryz.func41 rfl rfl (ex:= []) ?_;conv=>whnf
  refine gZn h126 ?_;conv=>whnf
  refine gZn h25 ?_;conv=>whnf
  exact⟨lr rfl,leG⟩
end Go.Proofs.YtlocddfailmnpaaGreatDoor

namespace Go.Proofs.YtlocddfailmnpaaGreatDoor
open Go Go.Sx
set_option maxRecDepth 100000
set_option maxHeartbeats 8000000
def CI (x:Iv):Prop:=x=wI0∨(x.all=false∧VD x.lo∧VD x.hi)
theorem CI.ri {x:Iv} (h:CI x):RI x:=by
 rcases h with rfl|⟨_,h1,h2⟩
 ·exact zgs
 ·exact⟨h1.lb,h2.lb,by have:=h1.len;omega,by have:=h2.len;omega⟩
theorem zgf:CI wI0:= .inl rfl
theorem kw {a b:Dy×Int} (ha:VD a.1) (hb:VD b.1):CI (wg a b):=by
 unfold wg
 split
 ·exact zgf
 ·exact .inr ⟨rfl,ha,hb⟩
theorem wm {p:Int} (h:pcB p=true):8≤p.toNat∧p.toNat≤512:=by
 obtain⟨q,rfl,hq⟩:=yy.1 h
 exact hq
theorem zd4 (x y:Iv) (p:Int):CI (ux x y p):=by
 unfold ux
 split
 ·rename_i h
  exact kw (ztv _ _ _ _ (wm h.2)) (ztv _ _ _ _ (wm h.2))
 ·exact zgf
theorem qaq {dn up:Dy×Int} {o:Iv} {K:Iv→Iv} (h1:VD dn.1) (h2:VD up.1) (h3:VD o.lo) (h4:VD o.hi) (hK: ∀o,o.all=false→VD o.lo→VD o.hi→CI (K o)):CI (stI dn up o K):=by
 unfold stI
 split
 ·exact zgf
 ·refine hK _ rfl ?_ ?_
  ·simp only;split<;>assumption
  ·simp only;split<;>assumption
theorem znz (dn up:Dy→Dy→Dy×Int) (x y:Iv):jt dn up x y=s0I (dn x.lo y.lo) (up x.lo y.lo) (fun o=>stI (dn x.lo y.hi) (up x.lo y.hi) o (fun o=>stI (dn x.hi y.lo) (up x.hi y.lo) o (fun o=>stI (dn x.hi y.hi) (up x.hi y.hi) o (fun o=>o)))):=by
 unfold jt;rw[f4I]
theorem zt3 {dn up:Dy→Dy→Dy×Int} (h1: ∀a b,VD (dn a b).1) (h2: ∀a b,VD (up a b).1) (x y:Iv):CI (jt dn up x y):=by
 rw[znz]
 unfold s0I
 split
 ·exact zgf
 ·refine qaq (h1 _ _) (h2 _ _) (h1 _ _) (h2 _ _) fun o _ a b=>?_
  refine qaq (h1 _ _) (h2 _ _) a b fun o _ a b=>?_
  refine qaq (h1 _ _) (h2 _ _) a b fun o c a b=>?_
  exact .inr ⟨c,a,b⟩
theorem zt1 (x y:Iv) (p:Int):CI (zam x y p):=by
 unfold zam
 split
 ·rename_i h
  exact zt3 (fun a b=>ug _ _ _ _ (wm h.2)) (fun a b=>ug _ _ _ _ (wm h.2)) x y
 ·exact zgf
theorem zxs (x y:Iv) (p:Int):CI (xc x y p):=by
 unfold xc
 split
 ·rename_i h
  exact zt3 (fun a b=>zaa _ _ _ _ (wm h.2.1)) (fun a b=>zaa _ _ _ _ (wm h.2.1)) x y
 ·exact zgf
theorem qeu {x:Iv} (h:RI x):CI (zk0 x):=by
 unfold zk0
 split
 ·rename_i hk
  have k:=(qc h).1 hk
  exact .inr ⟨rfl,zc5 k.hi,zc5 k.lo⟩
 ·exact zgf
theorem qes (x:Iv) (n p:Int):CI (zwx x n p):=by
 unfold zwx
 split
 ·rename_i h
  split
  ·exact .inr ⟨rfl,kb 1 (by decide),kb 1 (by decide)⟩
  ·exact kw (zxo _ _ _ _ (wm h.2.1)) (zxo _ _ _ _ (wm h.2.1))
 ·exact zgf
theorem qar (x:Iv) (p:Int):CI (zi6 x p):=by
 unfold zi6
 split
 ·rename_i h
  exact kw (zts _ _ _ (wm h.2.1)) (zts _ _ _ (wm h.2.1))
 ·exact zgf
def zvu (r:Rt) (p:Int):Iv:=if rOk r=true then wg (kd (kc r.n) (kc r.d) p.toNat false) (kd (kc r.n) (kc r.d) p.toNat true)else wI0
theorem zxr (r:Rt) {p:Int} (hp:pcB p=true):CI (zvu r p):=by
 unfold zvu
 split
 ·exact kw (zaa _ _ _ _ (wm hp)) (zaa _ _ _ _ (wm hp))
 ·exact zgf
theorem i50 (r:Rt) (p:Int) (hp:pcB p=true):Fn 30 G0 [.agg [.int .i64 r.n,.int .i64 r.d],.int .i64 p] (.agg (ivC (zvu r p))) G0:=by
 have h15:=f54 r.n r.d
 have hR:zvu r p=if rOk r=true then wg (kd (kc r.n) (kc r.d) p.toNat false) (kd (kc r.n) (kc r.d) p.toNat true)else wI0:=rfl
 have hr:rOk ⟨r.n,r.d⟩=rOk r:=rfl
 rw[hr]at h15
 generalize zvu r p=R at*
 by_cases h:rOk r=true
 ·rw[if_pos h]at hR
  rw[h]at h15
  obtain⟨q,rfl,hq⟩:=yy.1 hp
  rw[Int.toNat_natCast]at hR
  have hb:=zwu h
  unfold rIn at hb
  have n1:=v77 r.n (by omega)
  have n2:=v77 r.d (by omega)
  have vn:=kb r.n (by omega)
  have vd:=kb r.d (by omega)
  have n3:=v76 vn vd q hq
  have n4:=v78 vn vd q hq
  generalize kd (kc r.n) (kc r.d) q false=A at*
  generalize kd (kc r.n) (kc r.d) q true=B at*
  generalize kc r.n=N at*
  generalize kc r.d=D at*
  clear vn vd
  obtain⟨⟨a1,a2,a3⟩,e⟩:=A
  obtain⟨⟨b1,b2,b3⟩,f⟩:=B
  unfold wg at hR
  simp only at hR
  refine fnT hT6 hmx Tryz.func30 rfl rfl (ex:= []) ?_;conv=>whnf
  refine gZn h15 ?_;conv=>whnf
  refine gZc n1 ?_;conv=>whnf
  refine gZc n2 ?_;conv=>whnf
  refine gZc n3 ?_;conv=>whnf
  (refine⟨by kernel_rfl,by kernel_rfl,?_⟩;(conv=>whnf))
  refine gZc n1 ?_;conv=>whnf
  refine gZc n2 ?_;conv=>whnf
  refine gZc n4 ?_;conv=>whnf
  (refine⟨by kernel_rfl,by kernel_rfl,?_⟩;(conv=>whnf))
  refine brI (fun k1=>?_) (fun k1=>?_)
  ·have k1:e≠0:=by simpa using k1
   rw[if_pos (.inl k1)]at hR
   subst hR
   conv=>whnf
   exact⟨leW,leG⟩
  have k1:e=0:=by simpa using k1
  conv=>whnf
  refine brI (fun k2=>?_) (fun k2=>?_)
  ·have k2:f≠0:=by simpa using k2
   rw[if_pos (.inr k2)]at hR
   subst hR
   conv=>whnf
   exact⟨leW,leG⟩
  have k2:f=0:=by simpa using k2
  rw[if_neg (by simp[k1,k2])]at hR
  subst hR
  conv=>whnf
  exact⟨lr rfl,leG⟩
 ·rw[if_neg h]at hR
  rw[show rOk r=false by simpa using h]at h15
  subst hR
  refine fnT hT6 hmx Tryz.func30 rfl rfl (ex:= []) ?_;conv=>whnf
  refine gZn h15 ?_;conv=>whnf
  exact⟨leW,leG⟩
def apI (fx:Int→Iv→Int→Iv) (k n:Int) (x y:Iv) (p:Int):Iv:=
 if k=3 then ux x y p else if k=4 then qby x y p else if k=5 then zam x y p else if k=6 then xc x y p else if k=7 then zk0 x else if k=8 then zwx x n p
 else if k=13 then zi6 x p else if 9≤k∧k≤12 then fx k x p else wI0
def Ka (k:Int):Prop:=k=3∨k=4∨k=5∨k=6∨k=7∨k=8∨k=13
theorem CI_ap {fx:Int→Iv→Int→Iv} {k:Int} (hk:Ka k) (n:Int) {x:Iv} (y:Iv) (p:Int) (hx:RI x):CI (apI fx k n x y p):=by
 rcases hk with rfl|rfl|rfl|rfl|rfl|rfl|rfl
 ·exact zd4 _ _ _
 ·exact zd4 _ _ _
 ·exact zt1 _ _ _
 ·exact zxs _ _ _
 ·exact qeu hx
 ·exact qes _ _ _
 ·exact qar _ _
theorem i52 {fx:Int→Iv→Int→Iv} {k:Int} (hk:Ka k) (n:Int) (x y:Iv) (hx:RI x) (hy:RI y) (p:Int):Fn 13 G0 [.int .i64 k,.int .i64 n,.agg (ivC x),.agg (ivC y),.int .i64 p] (.agg (ivC (apI fx k n x y p))) G0:=by
 have h3:=i82 x y hx hy p
 have h4:=i83 x y hx hy p
 have h5:=i84 x y hx hy p
 have h6:=i85 x y hx hy p
 have h7:=i86 x hx
 have h8:=i87 x hx n p
 have h13:=i92 x hx p
 rcases hk with rfl|rfl|rfl|rfl|rfl|rfl|rfl
 ·have e:apI fx 3 n x y p=ux x y p:=rfl
  rw[e]
  generalize ux x y p=R at*
  clear h4 h5 h6 h7 h8 h13 hx hy
  refine fnT hT6 hmx Tryz.func13 rfl rfl (ex:= []) ?_;conv=>whnf
  refine gZc h3 ?_;conv=>whnf
  exact⟨lr rfl,leG⟩
 ·have e:apI fx 4 n x y p=qby x y p:=rfl
  rw[e]
  generalize qby x y p=R at*
  clear h3 h5 h6 h7 h8 h13 hx hy
  refine fnT hT6 hmx Tryz.func13 rfl rfl (ex:= []) ?_;conv=>whnf
  refine gZc h4 ?_;conv=>whnf
  exact⟨lr rfl,leG⟩
 ·have e:apI fx 5 n x y p=zam x y p:=rfl
  rw[e]
  generalize zam x y p=R at*
  clear h3 h4 h6 h7 h8 h13 hx hy
  refine fnT hT6 hmx Tryz.func13 rfl rfl (ex:= []) ?_;conv=>whnf
  refine gZc h5 ?_;conv=>whnf
  exact⟨lr rfl,leG⟩
 ·have e:apI fx 6 n x y p=xc x y p:=rfl
  rw[e]
  generalize xc x y p=R at*
  clear h3 h4 h5 h7 h8 h13 hx hy
  refine fnT hT6 hmx Tryz.func13 rfl rfl (ex:= []) ?_;conv=>whnf
  refine gZc h6 ?_;conv=>whnf
  exact⟨lr rfl,leG⟩
 ·have e:apI fx 7 n x y p=zk0 x:=rfl
  rw[e]
  generalize zk0 x=R at*
  clear h3 h4 h5 h6 h8 h13 hx hy
  refine fnT hT6 hmx Tryz.func13 rfl rfl (ex:= []) ?_;conv=>whnf
  refine gZn h7 ?_;conv=>whnf
  exact⟨lr rfl,leG⟩
 ·have e:apI fx 8 n x y p=zwx x n p:=rfl
  rw[e]
  generalize zwx x n p=R at*
  clear h3 h4 h5 h6 h7 h13 hx hy
  refine fnT hT6 hmx Tryz.func13 rfl rfl (ex:= []) ?_;conv=>whnf
  refine gZc h8 ?_;conv=>whnf
  exact⟨lr rfl,leG⟩
 ·have e:apI fx 13 n x y p=zi6 x p:=rfl
  rw[e]
  generalize zi6 x p=R at*
  clear h3 h4 h5 h6 h7 h8 hx hy
  refine fnT hT6 hmx Tryz.func13 rfl rfl (ex:= []) ?_;conv=>whnf
  refine gZc h13 ?_;conv=>whnf
  exact⟨lr rfl,leG⟩
end Go.Proofs.YtlocddfailmnpaaGreatDoor

namespace Go.Proofs.YtlocddfailmnpaaGreatDoor
open Go Go.Sx
set_option maxRecDepth 100000
set_option maxHeartbeats 8000000
abbrev zge:=List (zg×Iv)
def zI:Iv:=⟨d0,d0,false⟩
theorem zxv:RI zI:=⟨qq.lb,qq.lb,by decide,by decide⟩
def okI (x:Iv):Iv:=if viB x=true then x else wI0
mutual
def evE (fx:Int→Iv→Int→Iv) (p:Int) (es:zge):Ex→Iv×Bool
 | .mk k q s n l=>if k=1 then(zvu q p,true)else if k=2 then(okI (zjx .str s zI es),znh .str s es)else evL fx p es k n l []
def evL (fx:Int→Iv→Int→Iv) (p:Int) (es:zge) (k n:Int):List Ex→List Iv→Iv×Bool
 | [],acc=>(apI fx k n (acc[0]?.getD zI) (acc[1]?.getD zI) p,true)
 |x::l,acc=>if(evE fx p es x).2=true then evL fx p es k n l (acc++ [(evE fx p es x).1])else((evE fx p es x).1,false)
end
theorem zn3 (fx:Int→Iv→Int→Iv) (p:Int) (es:zge) (r:Rt):evE fx p es (zix r)=(zvu r p,true):=by simp[zix,evE]
theorem zxd (fx:Int→Iv→Int→Iv) (p:Int) (es:zge) (s:zg):evE fx p es (zky s)=(okI (zjx .str s zI es),znh .str s es):=by simp[zky,evE]
theorem zxe (fx:Int→Iv→Int→Iv) (p:Int) (es:zge) (k n:Int) (a:Ex) (h:k≠1∧k≠2):evE fx p es (opE k n [a])=if(evE fx p es a).2=true then(apI fx k n (evE fx p es a).1 zI p,true)else((evE fx p es a).1,false):=by
 simp[opE,evE,evL,h.1,h.2]
theorem qdm (fx:Int→Iv→Int→Iv) (p:Int) (es:zge) (k n:Int) (a b:Ex) (h:k≠1∧k≠2):evE fx p es (opE k n [a,b])=if(evE fx p es a).2=true then(if(evE fx p es b).2=true then(apI fx k n (evE fx p es a).1 (evE fx p es b).1 p,true)else((evE fx p es b).1,false))else((evE fx p es a).1,false):=by
 simp[opE,evE,evL,h.1,h.2]
inductive VK (K:Int→Prop):Ex→Prop
 |num (r:Rt):rOk r=true→VK K (zix r)
 |var (s:zg):zd6 s=true→VK K (zky s)
 |un (k:Int) (a:Ex):K k→K1 k→VK K a→VK K (opE k 0 [a])
 |pow (n:Int) (a:Ex):K 8→0≤n→n≤16→VK K a→VK K (opE 8 n [a])
 |bin (k:Int) (a b:Ex):K k→K2 k→VK K a→VK K b→VK K (opE k 0 [a,b])
abbrev HvE (es:zge):Hp:= [(qr,.gst JT),(1000001,.map .str .iv es)]
theorem zj0 {h h':Hp} {es:zge}:leH h h' (HvE es) (HvE es):=lh1 (bg0 rfl) (lh1 (bm0 rfl) lh0)
abbrev ioV (r:Iv×Bool):AV:= .tup [.agg (ivC r.1),.bool r.2]
def ApK (fx:Int→Iv→Int→Iv) (K:Int→Prop) (p:Int):Prop:=
 ∀k n x y,K k→RI x→RI y→Fn 13 G0 [.int .i64 k,.int .i64 n,.agg (ivC x),.agg (ivC y),.int .i64 p] (.agg (ivC (apI fx k n x y p))) G0∧CI (apI fx k n x y p)
def REs (es:zge):Prop:= ∀q∈es,RI q.2
theorem zr7 {s:zg} {es:zge} (h:REs es):RI (zjx .str s zI es):=by
 induction es with
 |nil=>exact zxv
 |cons q es ih=>
  obtain⟨y,v⟩:=q
  simp only[zjx]
  cases zk2 .str s y with
  |true=>exact h (y,v) List.mem_cons_self
  |false=>exact ih fun q hq=>h q (List.mem_cons_of_mem _ hq)
theorem qco {x:Iv} (h:RI x):VI (okI x):=by
 unfold okI
 split
 ·rename_i hv;exact(zes h).1 hv
 ·exact .inr rfl
theorem i26v (fx:Int→Iv→Int→Iv) (p:Int) (es:zge) (hes:REs es) (s:zg):Fn 36 (HvE es) [.agg (exC (zky s)),.mp 1000001,.int .i64 p] (ioV (evE fx p es (zky s))) (HvE es):=by
 rw[zxd]
 have h51:=i51 _ (zr7 (s:=s) hes)
 have h25:=i25
 rw[e25]at h25
 have hok:okI (zjx .str s zI es)=if viB (zjx .str s zI es)=true then zjx .str s zI es else wI0:=rfl
 generalize okI (zjx .str s zI es)=O at*
 generalize viB (zjx .str s zI es)=V at*
 refine fnT hT6 hmx Tryz.func36 rfl rfl (ex:= []) ?_;conv=>whnf
 refine cbI [] V h51 (fun h1=>?_) (fun h1=>?_)
 ·rw[if_pos h1]at hok
  subst hok
  conv=>whnf
  exact⟨lr rfl,zj0⟩
 ·rw[if_neg (by rw[h1];simp)]at hok
  subst hok
  conv=>whnf
  refine gZn h25 ?_;conv=>whnf
  exact⟨lr rfl,zj0⟩
theorem i26n (fx:Int→Iv→Int→Iv) (p:Int) (hp:pcB p=true) (es:zge) (r:Rt):Fn 36 (HvE es) [.agg (exC (zix r)),.mp 1000001,.int .i64 p] (ioV (evE fx p es (zix r))) (HvE es):=by
 rw[zn3]
 have h50:=i50 r p hp
 generalize zvu r p=R at*
 refine fnT hT6 hmx Tryz.func36 rfl rfl (ex:= []) ?_;conv=>whnf
 refine gZc h50 ?_;conv=>whnf
 exact⟨lr rfl,zj0⟩
abbrev z7:List AV:= [.bool false,.sl .u32 [],.int .i64 0,.bool false,.sl .u32 [],.int .i64 0,.bool false]
theorem i26u (p:Int) (es:zge) (k n:Int) (hk:k≠1∧k≠2) (a:Ex) (A C:Iv) (ok:Bool) (ha:Fn 36 (HvE es) [.agg (exC a),.mp 1000001,.int .i64 p] (.tup [.agg (ivC A),.bool ok]) (HvE es))
 (hc:Fn 13 G0 [.int .i64 k,.int .i64 n,.agg (ivC A),.agg (ivC zI),.int .i64 p] (.agg (ivC C)) G0):
 Fn 36 (HvE es) [.agg (exC (opE k n [a])),.mp 1000001,.int .i64 p] (ioV (if ok=true then(C,true)else(A,false))) (HvE es):=by
 obtain⟨⟨a1,a2,a3⟩,⟨a4,a5,a6⟩,a7⟩:=A
 obtain⟨⟨c1,c2,c3⟩,⟨c4,c5,c6⟩,c7⟩:=C
 have hc:Fn 13 G0 [.int .i64 k,.int .i64 n,.agg [.bool a1,.sl .u32 a2,.int .i64 a3,.bool a4,.sl .u32 a5,.int .i64 a6,.bool a7],.agg z7,.int .i64 p] (.agg [.bool c1,.sl .u32 c2,.int .i64 c3,.bool c4,.sl .u32 c5,.int .i64 c6,.bool c7]) G0:=hc
 have hk1:(k==1)=false:=by simpa using hk.1
 have hk2:(k==2)=false:=by simpa using hk.2
 refine fnT hT6 hmx Tryz.func36 rfl rfl (ex:= []) ?_;conv=>whnf
 refine brI (fun h1=>?_) (fun h1=>?_)
 ·have h1:(k==1)=true:=h1
  rw[hk1]at h1;cases h1
 conv=>whnf
 refine brI (fun h1=>?_) (fun h1=>?_)
 ·have h1:(k==2)=true:=h1
  rw[hk2]at h1;cases h1
 conv=>whnf
 refine⟨Nat,fun i=>i≤1∧(i=1→ok=true),fun i=> [(41,.int .i64 i)],fun i=> [(10,.cells (match i with
  |0=>z7++z7
  | _=> [.bool a1,.sl .u32 a2,.int .i64 a3,.bool a4,.sl .u32 a5,.int .i64 a6,.bool a7]++z7))],fun i=>1-i,0,⟨by simp,by simp⟩,?_,fun i hi=>?_⟩
 ·((conv=>whnf);refine And.intro ?_ ?_;repeat' first|refine lc ?_ ?_|exact la0|exact lr rfl|exact ln0|refine lh1 ?_ ?_|exact lh0|exact bf0|exact bd0|refine bc0 ?_|exact bm0 rfl|exact bb0 rfl|exact bg0 rfl|exact li0 rfl|refine lg0 ?_|refine lt0 ?_|fail)
 obtain⟨hi1,hi2⟩:=hi
 obtain rfl|rfl:i=0∨i=1:=by omega
 ·(refine⟨by kernel_rfl,?_⟩;(conv=>whnf))
  refine ix0 ?_;conv=>whnf
  refine⟨[.gst JT,.map .str .iv es],_,ha,?_⟩;conv=>whnf
  cases ok with
  |true=>
   conv=>whnf
   refine⟨⟨by omega,by omega⟩,?_⟩;conv=>whnf
   refine⟨1,⟨by decide,fun _=>rfl⟩,by decide,?_⟩
   ((conv=>whnf);refine And.intro ?_ ?_;repeat' first|refine lc ?_ ?_|exact la0|exact lr rfl|exact ln0|refine lh1 ?_ ?_|exact lh0|exact bf0|exact bd0|refine bc0 ?_|exact bm0 rfl|exact bb0 rfl|exact bg0 rfl|exact li0 rfl|refine lg0 ?_|refine lt0 ?_|fail)
  |false=>
   conv=>whnf
   exact⟨lr rfl,zj0⟩
 ·have hok:=hi2 rfl
  subst hok
  (refine⟨by kernel_rfl,?_⟩;(conv=>whnf))
  refine⟨⟨by omega,by omega⟩,?_⟩;conv=>whnf
  refine⟨⟨by omega,by omega⟩,?_⟩;conv=>whnf
  refine gZc hc ?_;conv=>whnf
  exact⟨lr rfl,zj0⟩
theorem i26b (p:Int) (es:zge) (k n:Int) (hk:k≠1∧k≠2) (a b:Ex) (A B C:Iv) (ok ok2:Bool) (ha:Fn 36 (HvE es) [.agg (exC a),.mp 1000001,.int .i64 p] (.tup [.agg (ivC A),.bool ok]) (HvE es))
 (hb:Fn 36 (HvE es) [.agg (exC b),.mp 1000001,.int .i64 p] (.tup [.agg (ivC B),.bool ok2]) (HvE es))
 (hc:Fn 13 G0 [.int .i64 k,.int .i64 n,.agg (ivC A),.agg (ivC B),.int .i64 p] (.agg (ivC C)) G0):
 Fn 36 (HvE es) [.agg (exC (opE k n [a,b])),.mp 1000001,.int .i64 p] (ioV (if ok=true then(if ok2=true then(C,true)else(B,false))else(A,false))) (HvE es):=by
 obtain⟨⟨a1,a2,a3⟩,⟨a4,a5,a6⟩,a7⟩:=A
 obtain⟨⟨b1,b2,b3⟩,⟨b4,b5,b6⟩,b7⟩:=B
 obtain⟨⟨c1,c2,c3⟩,⟨c4,c5,c6⟩,c7⟩:=C
 have hc:Fn 13 G0 [.int .i64 k,.int .i64 n,.agg [.bool a1,.sl .u32 a2,.int .i64 a3,.bool a4,.sl .u32 a5,.int .i64 a6,.bool a7],.agg [.bool b1,.sl .u32 b2,.int .i64 b3,.bool b4,.sl .u32 b5,.int .i64 b6,.bool b7],.int .i64 p] (.agg [.bool c1,.sl .u32 c2,.int .i64 c3,.bool c4,.sl .u32 c5,.int .i64 c6,.bool c7]) G0:=hc
 have hk1:(k==1)=false:=by simpa using hk.1
 have hk2:(k==2)=false:=by simpa using hk.2
 refine fnT hT6 hmx Tryz.func36 rfl rfl (ex:= []) ?_;conv=>whnf
 refine brI (fun h1=>?_) (fun h1=>?_)
 ·have h1:(k==1)=true:=h1
  rw[hk1]at h1;cases h1
 conv=>whnf
 refine brI (fun h1=>?_) (fun h1=>?_)
 ·have h1:(k==2)=true:=h1
  rw[hk2]at h1;cases h1
 conv=>whnf
 refine⟨Nat,fun i=>i≤2∧(1≤i→ok=true)∧(i=2→ok2=true),fun i=> [(41,.int .i64 i)],fun i=> [(10,.cells (match i with
  |0=>z7++z7
  |1=> [.bool a1,.sl .u32 a2,.int .i64 a3,.bool a4,.sl .u32 a5,.int .i64 a6,.bool a7]++z7
  | _=> [.bool a1,.sl .u32 a2,.int .i64 a3,.bool a4,.sl .u32 a5,.int .i64 a6,.bool a7,.bool b1,.sl .u32 b2,.int .i64 b3,.bool b4,.sl .u32 b5,.int .i64 b6,.bool b7]))],fun i=>2-i,0,⟨by simp,by simp,by simp⟩,?_,fun i hi=>?_⟩
 ·((conv=>whnf);refine And.intro ?_ ?_;repeat' first|refine lc ?_ ?_|exact la0|exact lr rfl|exact ln0|refine lh1 ?_ ?_|exact lh0|exact bf0|exact bd0|refine bc0 ?_|exact bm0 rfl|exact bb0 rfl|exact bg0 rfl|exact li0 rfl|refine lg0 ?_|refine lt0 ?_|fail)
 obtain⟨hi1,hi2,hi3⟩:=hi
 obtain rfl|rfl|rfl:i=0∨i=1∨i=2:=by omega
 ·(refine⟨by kernel_rfl,?_⟩;(conv=>whnf))
  refine ix0 ?_;conv=>whnf
  refine⟨[.gst JT,.map .str .iv es],_,ha,?_⟩;conv=>whnf
  cases ok with
  |true=>
   conv=>whnf
   refine⟨⟨by omega,by omega⟩,?_⟩;conv=>whnf
   refine⟨1,⟨by decide,fun _=>rfl,fun h=>by cases h⟩,by decide,?_⟩
   ((conv=>whnf);refine And.intro ?_ ?_;repeat' first|refine lc ?_ ?_|exact la0|exact lr rfl|exact ln0|refine lh1 ?_ ?_|exact lh0|exact bf0|exact bd0|refine bc0 ?_|exact bm0 rfl|exact bb0 rfl|exact bg0 rfl|exact li0 rfl|refine lg0 ?_|refine lt0 ?_|fail)
  |false=>
   conv=>whnf
   exact⟨lr rfl,zj0⟩
 ·have hok:=hi2 (by decide)
  subst hok
  (refine⟨by kernel_rfl,?_⟩;(conv=>whnf))
  refine ix1 ?_;conv=>whnf
  refine⟨[.gst JT,.map .str .iv es],_,hb,?_⟩;conv=>whnf
  cases ok2 with
  |true=>
   conv=>whnf
   refine⟨⟨by omega,by omega⟩,?_⟩;conv=>whnf
   refine⟨2,⟨by decide,fun _=>rfl,fun _=>rfl⟩,by decide,?_⟩
   ((conv=>whnf);refine And.intro ?_ ?_;repeat' first|refine lc ?_ ?_|exact la0|exact lr rfl|exact ln0|refine lh1 ?_ ?_|exact lh0|exact bf0|exact bd0|refine bc0 ?_|exact bm0 rfl|exact bb0 rfl|exact bg0 rfl|exact li0 rfl|refine lg0 ?_|refine lt0 ?_|fail)
  |false=>
   conv=>whnf
   exact⟨lr rfl,zj0⟩
 ·have hok:=hi2 (by decide)
  have hok2:=hi3 rfl
  subst hok hok2
  (refine⟨by kernel_rfl,?_⟩;(conv=>whnf))
  refine⟨⟨by omega,by omega⟩,?_⟩;conv=>whnf
  refine⟨⟨by omega,by omega⟩,?_⟩;conv=>whnf
  refine gZc hc ?_;conv=>whnf
  exact⟨lr rfl,zj0⟩
theorem i26 {fx:Int→Iv→Int→Iv} {K:Int→Prop} {p:Int} (hp:pcB p=true) (hA:ApK fx K p) {es:zge} (hes:REs es) {e:Ex} (he:VK K e):
 Fn 36 (HvE es) [.agg (exC e),.mp 1000001,.int .i64 p] (ioV (evE fx p es e)) (HvE es)∧RI (evE fx p es e).1:=by
 induction he with
 |num r hr=>exact⟨i26n fx p hp es r,by rw[zn3];exact(zxr r hp).ri⟩
 |var s hs=>exact⟨i26v fx p es hes s,by rw[zxd];exact(qco (zr7 hes)).ri⟩
 |un k a hk h1 _ ih=>
  have hne:k≠1∧k≠2:=by unfold K1 at h1;omega
  obtain⟨c1,c2⟩:=hA k 0 _ zI hk ih.2 zxv
  rw[zxe fx p es k 0 a hne]
  refine⟨i26u p es k 0 hne a _ _ _ ih.1 c1,?_⟩
  split
  ·exact c2.ri
  ·exact ih.2
 |pow n a hk h1 h2 _ ih=>
  obtain⟨c1,c2⟩:=hA 8 n _ zI hk ih.2 zxv
  rw[zxe fx p es 8 n a (by decide)]
  refine⟨i26u p es 8 n (by decide) a _ _ _ ih.1 c1,?_⟩
  split
  ·exact c2.ri
  ·exact ih.2
 |bin k a b hk h1 _ _ ih1 ih2=>
  have hne:k≠1∧k≠2:=by unfold K2 at h1;omega
  obtain⟨c1,c2⟩:=hA k 0 _ _ hk ih1.2 ih2.2
  rw[qdm fx p es k 0 a b hne]
  refine⟨i26b p es k 0 hne a b _ _ _ _ _ ih1.1 ih2.1 c1,?_⟩
  split
  ·split
   ·exact c2.ri
   ·exact ih2.2
  ·exact ih1.2
end Go.Proofs.YtlocddfailmnpaaGreatDoor

namespace Go.Proofs.YtlocddfailmnpaaGreatDoor
open Go Go.Sx
set_option maxRecDepth 100000
set_option maxHeartbeats 8000000
def zdk:List zg→List Iv→zge→zge
 |n::ns,r::rs,es=>zdk ns rs (zju .str n r es)
 | _,_,es=>es
theorem qdc (ns:List zg) (rs:List Iv) (h: ¬(ns.length=rs.length∧ns.length≤200)) (h1:ns.length<9223372036854775808) (h2:rs.length<9223372036854775808):
 Fn 33 [] [.sl .str ns,.sl .iv rs] (.tup [.any,.bool false]) [(2000000,.dead)]:=by
 refine fnT hT6 hmx Tryz.func33 rfl rfl (ex:= [21]) ?_;conv=>whnf
 refine brI (fun h3=>?_) (fun h3=>?_)
 ·conv=>whnf
  exact⟨lt0 (lc la0 (lc (lr rfl) ln0)),lh1 bd0 lh0⟩
 ·conv=>whnf
  refine brI (fun h4=>?_) (fun h4=>?_)
  ·conv=>whnf
   exact⟨lt0 (lc la0 (lc (lr rfl) ln0)),lh1 bd0 lh0⟩
  ·refine absurd ⟨?_,?_⟩ h
   ·have h3:((ns.length:Int) != (rs.length:Int))=false:=h3
    simp only[bne_eq_false_iff_eq]at h3;omega
   ·simp only[decide_eq_false_iff_not]at h4;omega
theorem zs1 {ns:List zg} {rs:List Iv} {i:Nat} {n:zg} {r:Iv} (es:zge) (h1:ns[i]? =some n) (h2:rs[i]? =some r):zdk (ns.drop i) (rs.drop i) es=zdk (ns.drop (i+1)) (rs.drop (i+1)) (zju .str n r es):=by
 rw[qn h1,qn h2];rfl
theorem zjt (n:zg) (r:Iv): ∀es:zge,(zju .str n r es).length ≤es.length+1
 | []=>by simp[zju]
 |(y,v)::l=>by
  have:=zjt n r l
  simp only[zju]
  cases zk2 .str n y
  ·simp only[cond_false,List.length_cons];omega
  ·simp only[cond_true,List.length_cons];omega
theorem i23 (ns:List zg) (rs:List Iv) (h:ns.length=rs.length∧ns.length≤200):
 Fn 33 [] [.sl .str ns,.sl .iv rs] (.tup [.mp 2000000,.bool (decide ((zdk ns rs []).length =rs.length))]) [(2000000,.map .str .iv (zdk ns rs []))]:=by
 refine fnT hT6 hmx Tryz.func33 rfl rfl (ex:= [21]) ?_;conv=>whnf
 refine brI (fun h0=>?_) (fun h0=>?_)
 ·have h0:((ns.length:Int) != (rs.length:Int))=true:=h0
  refine absurd h.1 (fun e=>?_)
  rw[e]at h0;simp at h0
 conv=>whnf
 refine brI (fun h0=>absurd h.2 (by simp only[decide_eq_true_eq]at h0;omega)) (fun _=>?_)
 conv=>whnf
 refine⟨Nat×zge,fun x=>x.1≤ns.length∧zdk (ns.drop x.1) (rs.drop x.1) x.2=zdk ns rs []∧x.2.length≤x.1,fun x=> [(24,.int .i64 x.1)],fun x=> [(21,.map .str .iv x.2)],fun x=>ns.length-x.1,(0,[]),⟨by simp,rfl,by simp⟩,?_,fun x hx=>?_⟩
 ·((conv=>whnf);refine And.intro ?_ ?_;repeat' first|refine lc ?_ ?_|exact la0|exact lr rfl|exact ln0|refine lh1 ?_ ?_|exact lh0|exact bf0|exact bd0|refine bc0 ?_|exact bm0 rfl|exact bg0 rfl|exact li0 rfl|refine lg0 ?_|refine lt0 ?_|fail)
 (refine⟨by kernel_rfl,?_⟩;(conv=>whnf))
 obtain⟨i,es⟩:=x
 obtain⟨hx1,hx2,hx3⟩:=hx
 simp only at hx1 hx2 hx3
 refine brI (fun h3=>?_) (fun h3=>?_)
 ·conv=>whnf
  have h3:i<ns.length:=by simp only[decide_eq_true_eq]at h3;omega
  refine⟨⟨by omega,by omega⟩,fun n hn=>?_⟩
  have hn:ns[i]? =some n:=by simpa using hn
  conv=>whnf
  refine⟨⟨by omega,by simp only;omega⟩,fun r hr=>?_⟩
  have hr:rs[i]? =some r:=by simpa using hr
  rw[zs1 es hn hr]at hx2
  conv=>whnf
  refine⟨(i+1,zju .str n r es),⟨by simp only;omega,hx2,by have:=zjt n r es;simp only;omega⟩,by show ns.length-(i+1)<ns.length-i;omega,?_⟩
  ((conv=>whnf);refine And.intro ?_ ?_;repeat' first|refine lc ?_ ?_|exact la0|exact lr rfl|exact ln0|refine lh1 ?_ ?_|exact lh0|exact bf0|exact bd0|refine bc0 ?_|exact bm0 rfl|exact bg0 rfl|exact li0 rfl|refine lg0 ?_|refine lt0 ?_|fail)
  exact ai0 (by rw[wI (by simp only;omega)];simp only;omega)
 ·conv=>whnf
  have h3: ¬i<ns.length:=by simp only[decide_eq_false_iff_not]at h3;omega
  rw[List.drop_of_length_le (by omega),List.drop_of_length_le (by omega)]at hx2
  have hx2:es=zdk ns rs []:=hx2
  rw[←hx2]
  refine⟨lt0 (lc (lr rfl) (lc (ab0 ?_) ln0)),lh1 (bm0 rfl) lh0⟩
  rw[Bool.eq_iff_iff,decide_eq_true_eq]
  constructor
  ·intro h;have h:((es.length:Int)==(rs.length:Int))=true:=h;simp only[beq_iff_eq]at h;omega
  ·intro h;show((es.length:Int)==(rs.length:Int))=true;simp only[beq_iff_eq];omega
theorem znf {n:zg} {r:Iv} (hr:RI r): ∀ {es:zge},REs es→REs (zju .str n r es)
 | [],_=>by
   intro q hq
   simp only[zju,List.mem_singleton]at hq
   subst hq;exact hr
 |(y,v)::l,h=>by
  have ih:=znf (n:=n) hr (es:=l) fun q hq=>h q (List.mem_cons_of_mem _ hq)
  intro q hq
  simp only[zju]at hq
  cases hk:zk2 .str n y with
  |true=>
   rw[hk,cond_true]at hq
   rcases List.mem_cons.1 hq with rfl|hq
   ·exact hr
   ·exact h q (List.mem_cons_of_mem _ hq)
  |false=>
   rw[hk,cond_false]at hq
   rcases List.mem_cons.1 hq with rfl|hq
   ·exact h _ List.mem_cons_self
   ·exact ih q hq
theorem zn4: ∀(ns:List zg) (rs:List Iv) (es:zge),(∀r∈rs,RI r)→REs es→REs (zdk ns rs es)
 | [],_,es,_,h=>by cases ‹List Iv› <;>exact h
 | _::_,[],es,_,h=>h
 |n::ns,r::rs,es,hr,h=>zn4 ns rs _ (fun x hx=>hr x (List.mem_cons_of_mem _ hx)) (znf (hr r List.mem_cons_self) h)
def enB (ns:List zg) (xs:List Iv):Bool:=decide (ns.length=xs.length∧ns.length≤200∧(zdk ns xs []).length =xs.length)
def zua (fx:Int→Iv→Int→Iv) (e:Ex) (ns:List zg) (xs:List Iv) (p:Int):Iv:=
 if(enB ns xs=true∧okT e=true∧pcB p=true)∧(evE fx p (zdk ns xs []) e).2=true then(evE fx p (zdk ns xs []) e).1 else wI0
theorem i8 {fx:Int→Iv→Int→Iv} {K:Int→Prop} (hA: ∀p,pcB p=true→ApK fx K p) (e:Ex) (he:Sm e) (hK:okT e=true→VK K e) (ns:List zg) (xs:List Iv) (hx: ∀x∈xs,RI x) (h1:ns.length<9223372036854775808) (h2:xs.length<9223372036854775808) (p:Int):
 Fn 11 G0 [.agg (exC e),.sl .str ns,.sl .iv xs,.int .i64 p] (.agg (ivC (zua fx e ns xs p))) G0:=by
 have h24:=f17 e he
 have h25:=i25
 rw[e25]at h25
 have hR:zua fx e ns xs p=if(enB ns xs=true∧okT e=true∧pcB p=true)∧(evE fx p (zdk ns xs []) e).2=true then(evE fx p (zdk ns xs []) e).1 else wI0:=rfl
 generalize zua fx e ns xs p=R at*
 by_cases hl:ns.length=xs.length∧ns.length≤200
 rotate_left
 ·rw[if_neg fun c=>hl (by have:=c.1.1;unfold enB at this;have:=of_decide_eq_true this;exact⟨this.1,this.2.1⟩)]at hR
  subst hR
  have h23:=qdc ns xs hl h1 h2
  refine fnT hT6 hmx Tryz.func11 rfl rfl (ex:= []) ?_;conv=>whnf
  refine⟨[],[.dead],_,h23,?_⟩;conv=>whnf
  refine gZn h25 ?_;conv=>whnf
  exact⟨lr rfl,leG⟩
 have h23:=i23 ns xs hl
 by_cases hen:(zdk ns xs []).length =xs.length
 rotate_left
 ·rw[if_neg fun c=>hen (by have:=c.1.1;unfold enB at this;have:=of_decide_eq_true this;exact this.2.2)]at hR
  subst hR
  rw[decide_eq_false hen]at h23
  refine fnT hT6 hmx Tryz.func11 rfl rfl (ex:= []) ?_;conv=>whnf
  refine⟨[],[.map .str .iv (zdk ns xs [])],_,h23,?_⟩;conv=>whnf
  refine gZn h25 ?_;conv=>whnf
  exact⟨lr rfl,leG⟩
 have hE:enB ns xs=true:=by unfold enB;exact decide_eq_true ⟨hl.1,hl.2,hen⟩
 rw[decide_eq_true hen]at h23
 by_cases hok:okT e=true
 rotate_left
 ·rw[if_neg fun c=>hok c.1.2.1]at hR
  subst hR
  rw[show okT e=false by simpa using hok]at h24
  refine fnT hT6 hmx Tryz.func11 rfl rfl (ex:= []) ?_;conv=>whnf
  refine⟨[],[.map .str .iv (zdk ns xs [])],_,h23,?_⟩;conv=>whnf
  refine gZn h24 ?_;conv=>whnf
  refine gZn h25 ?_;conv=>whnf
  exact⟨lr rfl,leG⟩
 rw[hok]at h24
 by_cases hp:pcB p=true
 rotate_left
 ·rw[if_neg fun c=>hp c.1.2.2]at hR
  subst hR
  have hp: ¬(8≤p∧p≤512):=fun c=>hp (by unfold pcB;simp;omega)
  refine fnT hT6 hmx Tryz.func11 rfl rfl (ex:= []) ?_;conv=>whnf
  refine⟨[],[.map .str .iv (zdk ns xs [])],_,h23,?_⟩;conv=>whnf
  refine gZn h24 ?_;conv=>whnf
  refine brI (fun k1=>?_) (fun k1=>?_)
  ·conv=>whnf
   refine gZn h25 ?_;conv=>whnf
   exact⟨lr rfl,leG⟩
  have k1: ¬p<8:=of_decide_eq_false k1
  conv=>whnf
  refine brI (fun k2=>?_) (fun k2=>?_)
  ·conv=>whnf
   refine gZn h25 ?_;conv=>whnf
   exact⟨lr rfl,leG⟩
  have k2: ¬512<p:=of_decide_eq_false k2
  omega
 have hp2:8≤p∧p≤512:=by unfold pcB at hp;simpa using hp
 obtain⟨h26,_⟩:=i26 hp (hA p hp) (zn4 ns xs [] hx fun q hq=>by cases hq) (hK hok)
 obtain⟨V,hV⟩: ∃V,evE fx p (zdk ns xs []) e=V:=⟨_,rfl⟩
 rw[hV]at hR h26
 obtain⟨⟨⟨v1,v2,v3⟩,⟨v4,v5,v6⟩,v7⟩,ok⟩:=V
 have h26:Fn 36 (HvE (zdk ns xs [])) [.agg (exC e),.mp 1000001,.int .i64 p] (.tup [.agg [.bool v1,.sl .u32 v2,.int .i64 v3,.bool v4,.sl .u32 v5,.int .i64 v6,.bool v7],.bool ok]) (HvE (zdk ns xs [])):=h26
 simp only at hR
 cases ok with
 |true=>
  rw[if_pos ⟨⟨hE,hok,hp⟩,rfl⟩]at hR
  subst hR
  refine fnT hT6 hmx Tryz.func11 rfl rfl (ex:= []) ?_;conv=>whnf
  refine⟨[],[.map .str .iv (zdk ns xs [])],_,h23,?_⟩;conv=>whnf
  refine gZn h24 ?_;conv=>whnf
  refine brI (fun k1=>?_) (fun k1=>?_)
  ·have k1:=of_decide_eq_true k1;omega
  conv=>whnf
  refine brI (fun k2=>?_) (fun k2=>?_)
  ·have k2:=of_decide_eq_true k2;omega
  conv=>whnf
  refine⟨[.gst JT,.map .str .iv (zdk ns xs [])],_,h26.sw [(15,1000001)] rfl,?_⟩;conv=>whnf
  exact⟨lr rfl,leG⟩
 |false=>
  rw[if_neg fun c=>by cases c.2]at hR
  subst hR
  refine fnT hT6 hmx Tryz.func11 rfl rfl (ex:= []) ?_;conv=>whnf
  refine⟨[],[.map .str .iv (zdk ns xs [])],_,h23,?_⟩;conv=>whnf
  refine gZn h24 ?_;conv=>whnf
  refine brI (fun k1=>?_) (fun k1=>?_)
  ·have k1:=of_decide_eq_true k1;omega
  conv=>whnf
  refine brI (fun k2=>?_) (fun k2=>?_)
  ·have k2:=of_decide_eq_true k2;omega
  conv=>whnf
  refine⟨[.gst JT,.map .str .iv (zdk ns xs [])],_,h26.sw [(15,1000001)] rfl,?_⟩;conv=>whnf
  refine gZn h25 ?_;conv=>whnf
  exact⟨lr rfl,leG⟩
end Go.Proofs.YtlocddfailmnpaaGreatDoor
