/-
  Intervals: products, quotients, squares, Meet, Width.
-/
import Derived.Test.YtajnlbbgolmklaaGreatDoorQYy
import Derived.Test.YtajnlbbgolmklaaGreatDoorQYXa
import Derived.Test.YtajnlbbgolmklaaGreatDoorQYXb
import Derived.Test.YtajnlbbgolmklaaGreatDoorQUa
import Derived.Test.YtajnlbbgolmklaaGreatDoorQVa
import Derived.Test.YtajnlbbgolmklaaGreatDoorQUb
set_option linter.unusedVariables false
set_option linter.unusedSimpArgs false
namespace Go.Proofs.YtajnlbbgolmklaaGreatDoor
open Go Go.Sx
set_option maxRecDepth 100000
set_option maxHeartbeats 8000000
def xp (x y:Iv) (p:Int):Iv:=if(kB x&&kB y)=true∧pcB p=true then jr (fun a b=>jh a b p.toNat false) (fun a b=>jh a b p.toNat true) x y else wI0
theorem i84 (x y:Iv) (hx:RI x) (hy:RI y) (p:Int):Fn 28 G0 [.agg (ivC x),.agg (ivC y),.int .i64 p] (.agg (ivC (xp x y p))) G0:=by
 have h126:=zn5 [x,y] (by simp) (by simpa using⟨hx,hy⟩)
 rw[k2]at h126
 have h127:=zxl p
 have h25:=i25
 rw[e25]at h25
 have hR:xp x y p=if(kB x&&kB y)=true∧pcB p=true then jr (fun a b=>jh a b p.toNat false) (fun a b=>jh a b p.toNat true) x y else wI0:=rfl
 generalize xp x y p=R at*
 by_cases hk:(kB x&&kB y)=true
 ·rw[hk]at h126
  by_cases hp:pcB p=true
  ·rw[hp]at h127
   rw[if_pos ⟨hk,hp⟩]at hR
   rw[Bool.and_eq_true]at hk
   have kx:=(qc hx).1 hk.1
   have ky:=(qc hy).1 hk.2
   obtain⟨q,rfl,hq⟩:=yz.1 hp
   rw[Int.toNat_natCast]at hR
   have n1:=i131m kx ky q hq
   rw[←hR]at n1
   clear hR hk kx ky hx hy
   refine fnT hT6 hmx Tryz.func28 rfl rfl (ex:= []) ?_;conv=>whnf
   refine gZn h126 ?_;conv=>whnf
   refine gZn h127 ?_;conv=>whnf
   refine gZc n1 ?_;conv=>whnf
   exact⟨lr rfl,leG⟩
  ·rw[if_neg fun c=>hp c.2]at hR
   rw[show pcB p=false by simpa using hp]at h127
   subst hR
   clear hk hx hy
   refine fnT hT6 hmx Tryz.func28 rfl rfl (ex:= []) ?_;conv=>whnf
   refine gZn h126 ?_;conv=>whnf
   refine gZn h127 ?_;conv=>whnf
   refine gZn h25 ?_;conv=>whnf
   exact⟨lr rfl,leG⟩
 ·rw[if_neg fun c=>hk c.1]at hR
  rw[show(kB x&&kB y)=false by simpa using hk]at h126
  subst hR
  clear hk hx hy
  refine fnT hT6 hmx Tryz.func28 rfl rfl (ex:= []) ?_;conv=>whnf
  refine gZn h126 ?_;conv=>whnf
  refine gZn h25 ?_;conv=>whnf
  exact⟨lr rfl,leG⟩
def uw (x y:Iv) (p:Int):Iv:=if(kB x&&kB y)=true∧pcB p=true∧zlq y≠0 then jr (fun a b=>jx a b p.toNat false) (fun a b=>jx a b p.toNat true) x y else wI0
theorem i85 (x y:Iv) (hx:RI x) (hy:RI y) (p:Int):Fn 29 G0 [.agg (ivC x),.agg (ivC y),.int .i64 p] (.agg (ivC (uw x y p))) G0:=by
 have h126:=zn5 [x,y] (by simp) (by simpa using⟨hx,hy⟩)
 rw[k2]at h126
 have h127:=zxl p
 have h25:=i25
 have h134:=i134 y hy
 rw[e25]at h25
 have hR:uw x y p=if(kB x&&kB y)=true∧pcB p=true∧zlq y≠0 then jr (fun a b=>jx a b p.toNat false) (fun a b=>jx a b p.toNat true) x y else wI0:=rfl
 generalize uw x y p=R at*
 generalize zlq y=S at*
 by_cases hk:(kB x&&kB y)=true
 ·rw[hk]at h126
  by_cases hp:pcB p=true
  ·rw[hp]at h127
   by_cases hs:S=0
   ·rw[if_neg fun c=>c.2.2 hs]at hR
    subst hR hs
    clear hk hx hy
    refine fnT hT6 hmx Tryz.func29 rfl rfl (ex:= []) ?_;conv=>whnf
    refine gZn h126 ?_;conv=>whnf
    refine gZn h127 ?_;conv=>whnf
    refine gZn h134 ?_;conv=>whnf
    refine gZn h25 ?_;conv=>whnf
    exact⟨lr rfl,leG⟩
   rw[if_pos ⟨hk,hp,hs⟩]at hR
   rw[Bool.and_eq_true]at hk
   have kx:=(qc hx).1 hk.1
   have ky:=(qc hy).1 hk.2
   obtain⟨q,rfl,hq⟩:=yz.1 hp
   rw[Int.toNat_natCast]at hR
   have n1:=i131d kx ky q hq
   rw[←hR]at n1
   clear hR hk kx ky hx hy
   refine fnT hT6 hmx Tryz.func29 rfl rfl (ex:= []) ?_;conv=>whnf
   refine gZn h126 ?_;conv=>whnf
   refine gZn h127 ?_;conv=>whnf
   refine gZn h134 ?_;conv=>whnf
   refine brI (fun k1=>?_) (fun k1=>?_)
   ·have k1:S=0:=by simpa using k1
    exact absurd k1 hs
   conv=>whnf
   refine gZc n1 ?_;conv=>whnf
   exact⟨lr rfl,leG⟩
  ·rw[if_neg fun c=>hp c.2.1]at hR
   rw[show pcB p=false by simpa using hp]at h127
   subst hR
   clear hk hx hy h134
   refine fnT hT6 hmx Tryz.func29 rfl rfl (ex:= []) ?_;conv=>whnf
   refine gZn h126 ?_;conv=>whnf
   refine gZn h127 ?_;conv=>whnf
   refine gZn h25 ?_;conv=>whnf
   exact⟨lr rfl,leG⟩
 ·rw[if_neg fun c=>hk c.1]at hR
  rw[show(kB x&&kB y)=false by simpa using hk]at h126
  subst hR
  clear hk hx hy h134
  refine fnT hT6 hmx Tryz.func29 rfl rfl (ex:= []) ?_;conv=>whnf
  refine gZn h126 ?_;conv=>whnf
  refine gZn h25 ?_;conv=>whnf
  exact⟨lr rfl,leG⟩
end Go.Proofs.YtajnlbbgolmklaaGreatDoor

namespace Go.Proofs.YtajnlbbgolmklaaGreatDoor
open Go Go.Sx
set_option maxRecDepth 100000
set_option maxHeartbeats 8000000
def CI (x:Iv):Prop:=x=wI0∨(x.all=false∧VD x.lo∧VD x.hi)
theorem CI.ri {x:Iv} (h:CI x):RI x:=by
 rcases h with rfl|⟨_,h1,h2⟩
 ·exact zg3
 ·exact⟨h1.lb,h2.lb,by have:=h1.len;omega,by have:=h2.len;omega⟩
theorem zg2:CI wI0:= .inl rfl
theorem ua {a b:Dy×Int} (ha:VD a.1) (hb:VD b.1):CI (wd a b):=by
 unfold wd
 split
 ·exact zg2
 ·exact .inr ⟨rfl,ha,hb⟩
theorem wl {p:Int} (h:pcB p=true):8≤p.toNat∧p.toNat≤512:=by
 obtain⟨q,rfl,hq⟩:=yz.1 h
 exact hq
theorem zei (x y:Iv) (p:Int):CI (kz x y p):=by
 unfold kz
 split
 ·rename_i h
  exact ua (zt6 _ _ _ _ (wl h.2)) (zt6 _ _ _ _ (wl h.2))
 ·exact zg2
theorem qa2 {dn up:Dy×Int} {o:Iv} {K:Iv→Iv} (h1:VD dn.1) (h2:VD up.1) (h3:VD o.lo) (h4:VD o.hi) (hK: ∀o,o.all=false→VD o.lo→VD o.hi→CI (K o)):CI (stI dn up o K):=by
 unfold stI
 split
 ·exact zg2
 ·refine hK _ rfl ?_ ?_
  ·simp only;split<;>assumption
  ·simp only;split<;>assumption
theorem zog (dn up:Dy→Dy→Dy×Int) (x y:Iv):jr dn up x y=s0I (dn x.lo y.lo) (up x.lo y.lo) (fun o=>stI (dn x.lo y.hi) (up x.lo y.hi) o (fun o=>stI (dn x.hi y.lo) (up x.hi y.lo) o (fun o=>stI (dn x.hi y.hi) (up x.hi y.hi) o (fun o=>o)))):=by
 unfold jr;rw[f4I]
theorem zud {dn up:Dy→Dy→Dy×Int} (h1: ∀a b,VD (dn a b).1) (h2: ∀a b,VD (up a b).1) (x y:Iv):CI (jr dn up x y):=by
 rw[zog]
 unfold s0I
 split
 ·exact zg2
 ·refine qa2 (h1 _ _) (h2 _ _) (h1 _ _) (h2 _ _) fun o _ a b=>?_
  refine qa2 (h1 _ _) (h2 _ _) a b fun o _ a b=>?_
  refine qa2 (h1 _ _) (h2 _ _) a b fun o c a b=>?_
  exact .inr ⟨c,a,b⟩
theorem zub (x y:Iv) (p:Int):CI (xp x y p):=by
 unfold xp
 split
 ·rename_i h
  exact zud (fun a b=>uh _ _ _ _ (wl h.2)) (fun a b=>uh _ _ _ _ (wl h.2)) x y
 ·exact zg2
theorem zx4 (x y:Iv) (p:Int):CI (uw x y p):=by
 unfold uw
 split
 ·rename_i h
  exact zud (fun a b=>zai _ _ _ _ (wl h.2.1)) (fun a b=>zai _ _ _ _ (wl h.2.1)) x y
 ·exact zg2
theorem qev {x:Iv} (h:RI x):CI (zgp x):=by
 unfold zgp
 split
 ·rename_i hk
  have k:=(qc h).1 hk
  exact .inr ⟨rfl,zdm k.hi,zdm k.lo⟩
 ·exact zg2
theorem qet (x:Iv) (n p:Int):CI (zqb x n p):=by
 unfold zqb
 split
 ·rename_i h
  split
  ·exact .inr ⟨rfl,ke 1 (by decide),ke 1 (by decide)⟩
  ·exact ua (zx0 _ _ _ _ (wl h.2.1)) (zx0 _ _ _ _ (wl h.2.1))
 ·exact zg2
theorem qa3 (x:Iv) (p:Int):CI (zej x p):=by
 unfold zej
 split
 ·rename_i h
  exact ua (zt3 _ _ _ (wl h.2.1)) (zt3 _ _ _ (wl h.2.1))
 ·exact zg2
def zxr (r:Rt) (p:Int):Iv:=if rOk r=true then wd (jx (jz r.n) (jz r.d) p.toNat false) (jx (jz r.n) (jz r.d) p.toNat true)else wI0
theorem qe2 (r:Rt) {p:Int} (hp:pcB p=true):CI (zxr r p):=by
 unfold zxr
 split
 ·exact ua (zai _ _ _ _ (wl hp)) (zai _ _ _ _ (wl hp))
 ·exact zg2
theorem i50 (r:Rt) (p:Int) (hp:pcB p=true):Fn 42 G0 [.agg [.int .i64 r.n,.int .i64 r.d],.int .i64 p] (.agg (ivC (zxr r p))) G0:=by
 have h15:=f54 r.n r.d
 have hR:zxr r p=if rOk r=true then wd (jx (jz r.n) (jz r.d) p.toNat false) (jx (jz r.n) (jz r.d) p.toNat true)else wI0:=rfl
 have hr:rOk ⟨r.n,r.d⟩=rOk r:=rfl
 rw[hr]at h15
 generalize zxr r p=R at*
 by_cases h:rOk r=true
 ·rw[if_pos h]at hR
  rw[h]at h15
  obtain⟨q,rfl,hq⟩:=yz.1 hp
  rw[Int.toNat_natCast]at hR
  have hb:=zc0 h
  unfold rIn at hb
  have n1:=v77 r.n (by omega)
  have n2:=v77 r.d (by omega)
  have vn:=ke r.n (by omega)
  have vd:=ke r.d (by omega)
  have n3:=v76 vn vd q hq
  have n4:=v78 vn vd q hq
  generalize jx (jz r.n) (jz r.d) q false=A at*
  generalize jx (jz r.n) (jz r.d) q true=B at*
  generalize jz r.n=N at*
  generalize jz r.d=D at*
  clear vn vd
  obtain⟨⟨a1,a2,a3⟩,e⟩:=A
  obtain⟨⟨b1,b2,b3⟩,f⟩:=B
  unfold wd at hR
  simp only at hR
  refine fnT hT6 hmx Tryz.func42 rfl rfl (ex:= []) ?_;conv=>whnf
  refine gZn h15 ?_;conv=>whnf
  refine gZc n1 ?_;conv=>whnf
  refine gZc n2 ?_;conv=>whnf
  refine gZc n3 ?_;conv=>whnf
  (refine⟨by kernel_rfl,by kernel_rfl,?_⟩;(conv=>whnf))
  refine gZc n1 ?_;conv=>whnf
  refine gZc n2 ?_;conv=>whnf
  refine gZc n4 ?_;conv=>whnf
  (refine⟨by kernel_rfl,by kernel_rfl,?_⟩;(conv=>whnf))
  refine brI (fun k1=>?_) (fun k1=>?_)
  ·have k1:e≠0:=by simpa using k1
   rw[if_pos (.inl k1)]at hR
   subst hR
   conv=>whnf
   exact⟨leW,leG⟩
  have k1:e=0:=by simpa using k1
  conv=>whnf
  refine brI (fun k2=>?_) (fun k2=>?_)
  ·have k2:f≠0:=by simpa using k2
   rw[if_pos (.inr k2)]at hR
   subst hR
   conv=>whnf
   exact⟨leW,leG⟩
  have k2:f=0:=by simpa using k2
  rw[if_neg (by simp[k1,k2])]at hR
  subst hR
  conv=>whnf
  exact⟨lr rfl,leG⟩
 ·rw[if_neg h]at hR
  rw[show rOk r=false by simpa using h]at h15
  subst hR
  refine fnT hT6 hmx Tryz.func42 rfl rfl (ex:= []) ?_;conv=>whnf
  refine gZn h15 ?_;conv=>whnf
  exact⟨leW,leG⟩
def apI (fx:Int→Iv→Int→Iv) (k n:Int) (x y:Iv) (p:Int):Iv:=
 if k=3 then kz x y p else if k=4 then zyp x y p else if k=5 then xp x y p else if k=6 then uw x y p else if k=7 then zgp x else if k=8 then zqb x n p
 else if k=13 then zej x p else if 9≤k∧k≤12 then fx k x p else wI0
def Ka (k:Int):Prop:=k=3∨k=4∨k=5∨k=6∨k=7∨k=8∨k=13
theorem qe6 {fx:Int→Iv→Int→Iv} {k:Int} (hk:Ka k) (n:Int) {x:Iv} (y:Iv) (p:Int) (hx:RI x):CI (apI fx k n x y p):=by
 rcases hk with rfl|rfl|rfl|rfl|rfl|rfl|rfl
 ·exact zei _ _ _
 ·exact zei _ _ _
 ·exact zub _ _ _
 ·exact zx4 _ _ _
 ·exact qev hx
 ·exact qet _ _ _
 ·exact qa3 _ _
theorem i52 {fx:Int→Iv→Int→Iv} {k:Int} (hk:Ka k) (n:Int) (x y:Iv) (hx:RI x) (hy:RI y) (p:Int):Fn 25 G0 [.int .i64 k,.int .i64 n,.agg (ivC x),.agg (ivC y),.int .i64 p] (.agg (ivC (apI fx k n x y p))) G0:=by
 have h3:=i82 x y hx hy p
 have h4:=i83 x y hx hy p
 have h5:=i84 x y hx hy p
 have h6:=i85 x y hx hy p
 have h7:=i86 x hx
 have h8:=i87 x hx n p
 have h13:=i92 x hx p
 rcases hk with rfl|rfl|rfl|rfl|rfl|rfl|rfl
 ·have e:apI fx 3 n x y p=kz x y p:=rfl
  rw[e]
  generalize kz x y p=R at*
  clear h4 h5 h6 h7 h8 h13 hx hy
  refine fnT hT6 hmx Tryz.func25 rfl rfl (ex:= []) ?_;conv=>whnf
  refine gZc h3 ?_;conv=>whnf
  exact⟨lr rfl,leG⟩
 ·have e:apI fx 4 n x y p=zyp x y p:=rfl
  rw[e]
  generalize zyp x y p=R at*
  clear h3 h5 h6 h7 h8 h13 hx hy
  refine fnT hT6 hmx Tryz.func25 rfl rfl (ex:= []) ?_;conv=>whnf
  refine gZc h4 ?_;conv=>whnf
  exact⟨lr rfl,leG⟩
 ·have e:apI fx 5 n x y p=xp x y p:=rfl
  rw[e]
  generalize xp x y p=R at*
  clear h3 h4 h6 h7 h8 h13 hx hy
  refine fnT hT6 hmx Tryz.func25 rfl rfl (ex:= []) ?_;conv=>whnf
  refine gZc h5 ?_;conv=>whnf
  exact⟨lr rfl,leG⟩
 ·have e:apI fx 6 n x y p=uw x y p:=rfl
  rw[e]
  generalize uw x y p=R at*
  clear h3 h4 h5 h7 h8 h13 hx hy
  refine fnT hT6 hmx Tryz.func25 rfl rfl (ex:= []) ?_;conv=>whnf
  refine gZc h6 ?_;conv=>whnf
  exact⟨lr rfl,leG⟩
 ·have e:apI fx 7 n x y p=zgp x:=rfl
  rw[e]
  generalize zgp x=R at*
  clear h3 h4 h5 h6 h8 h13 hx hy
  refine fnT hT6 hmx Tryz.func25 rfl rfl (ex:= []) ?_;conv=>whnf
  refine gZn h7 ?_;conv=>whnf
  exact⟨lr rfl,leG⟩
 ·have e:apI fx 8 n x y p=zqb x n p:=rfl
  rw[e]
  generalize zqb x n p=R at*
  clear h3 h4 h5 h6 h7 h13 hx hy
  refine fnT hT6 hmx Tryz.func25 rfl rfl (ex:= []) ?_;conv=>whnf
  refine gZc h8 ?_;conv=>whnf
  exact⟨lr rfl,leG⟩
 ·have e:apI fx 13 n x y p=zej x p:=rfl
  rw[e]
  generalize zej x p=R at*
  clear h3 h4 h5 h6 h7 h8 hx hy
  refine fnT hT6 hmx Tryz.func25 rfl rfl (ex:= []) ?_;conv=>whnf
  refine gZc h13 ?_;conv=>whnf
  exact⟨lr rfl,leG⟩
end Go.Proofs.YtajnlbbgolmklaaGreatDoor

namespace Go.Proofs.YtajnlbbgolmklaaGreatDoor
open Go Go.Sx
set_option maxRecDepth 100000
set_option maxHeartbeats 8000000
abbrev zan:=List (zd×Iv)
def zI:Iv:=⟨d0,d0,false⟩
theorem zx7:RI zI:=⟨qs.lb,qs.lb,by decide,by decide⟩
def okI (x:Iv):Iv:=if viB x=true then x else wI0
mutual
def evE (fx:Int→Iv→Int→Iv) (p:Int) (es:zan):Ex→Iv×Bool
 | .mk k q s n l=>if k=1 then(zxr q p,true)else if k=2 then(okI (zc6 .str s zI es),zcp .str s es)else evL fx p es k n l []
def evL (fx:Int→Iv→Int→Iv) (p:Int) (es:zan) (k n:Int):List Ex→List Iv→Iv×Bool
 | [],acc=>(apI fx k n (acc[0]?.getD zI) (acc[1]?.getD zI) p,true)
 |x::l,acc=>if(evE fx p es x).2=true then evL fx p es k n l (acc++ [(evE fx p es x).1])else((evE fx p es x).1,false)
end
theorem zky (fx:Int→Iv→Int→Iv) (p:Int) (es:zan) (r:Rt):evE fx p es (zik r)=(zxr r p,true):=by simp[zik,evE]
theorem zh1 (fx:Int→Iv→Int→Iv) (p:Int) (es:zan) (s:zd):evE fx p es (zgr s)=(okI (zc6 .str s zI es),zcp .str s es):=by simp[zgr,evE]
theorem zah (fx:Int→Iv→Int→Iv) (p:Int) (es:zan) (k n:Int) (a:Ex) (h:k≠1∧k≠2):evE fx p es (opE k n [a])=if(evE fx p es a).2=true then(apI fx k n (evE fx p es a).1 zI p,true)else((evE fx p es a).1,false):=by
 simp[opE,evE,evL,h.1,h.2]
theorem zh2 (fx:Int→Iv→Int→Iv) (p:Int) (es:zan) (k n:Int) (a b:Ex) (h:k≠1∧k≠2):evE fx p es (opE k n [a,b])=if(evE fx p es a).2=true then(if(evE fx p es b).2=true then(apI fx k n (evE fx p es a).1 (evE fx p es b).1 p,true)else((evE fx p es b).1,false))else((evE fx p es a).1,false):=by
 simp[opE,evE,evL,h.1,h.2]
inductive VK (K:Int→Prop):Ex→Prop
 |num (r:Rt):rOk r=true→VK K (zik r)
 |var (s:zd):zdt s=true→VK K (zgr s)
 |un (k:Int) (a:Ex):K k→K1 k→VK K a→VK K (opE k 0 [a])
 |pow (n:Int) (a:Ex):K 8→0≤n→n≤16→VK K a→VK K (opE 8 n [a])
 |bin (k:Int) (a b:Ex):K k→K2 k→VK K a→VK K b→VK K (opE k 0 [a,b])
abbrev HvE (es:zan):Hp:= [(qo,.gst JT),(1000001,.map .str .iv es)]
theorem zki {h h':Hp} {es:zan}:leH h h' (HvE es) (HvE es):=lh1 (bg0 rfl) (lh1 (bm0 rfl) lh0)
abbrev ioV (r:Iv×Bool):AV:= .tup [.agg (ivC r.1),.bool r.2]
def ApK (fx:Int→Iv→Int→Iv) (K:Int→Prop) (p:Int):Prop:=
 ∀k n x y,K k→RI x→RI y→Fn 25 G0 [.int .i64 k,.int .i64 n,.agg (ivC x),.agg (ivC y),.int .i64 p] (.agg (ivC (apI fx k n x y p))) G0∧CI (apI fx k n x y p)
def REs (es:zan):Prop:= ∀q∈es,RI q.2
theorem zsj {s:zd} {es:zan} (h:REs es):RI (zc6 .str s zI es):=by
 induction es with
 |nil=>exact zx7
 |cons q es ih=>
  obtain⟨y,v⟩:=q
  simp only[zc6]
  cases zhl .str s y with
  |true=>exact h (y,v) List.mem_cons_self
  |false=>exact ih fun q hq=>h q (List.mem_cons_of_mem _ hq)
theorem qco {x:Iv} (h:RI x):VI (okI x):=by
 unfold okI
 split
 ·rename_i hv;exact(zfb h).1 hv
 ·exact .inr rfl
theorem i26v (fx:Int→Iv→Int→Iv) (p:Int) (es:zan) (hes:REs es) (s:zd):Fn 57 (HvE es) [.agg (exC (zgr s)),.mp 1000001,.int .i64 p] (ioV (evE fx p es (zgr s))) (HvE es):=by
 rw[zh1]
 have h51:=i51 _ (zsj (s:=s) hes)
 have h25:=i25
 rw[e25]at h25
 have hok:okI (zc6 .str s zI es)=if viB (zc6 .str s zI es)=true then zc6 .str s zI es else wI0:=rfl
 generalize okI (zc6 .str s zI es)=O at*
 generalize viB (zc6 .str s zI es)=V at*
 refine fnT hT6 hmx Tryz.func57 rfl rfl (ex:= []) ?_;conv=>whnf
 refine cbI [] V h51 (fun h1=>?_) (fun h1=>?_)
 ·rw[if_pos h1]at hok
  subst hok
  conv=>whnf
  exact⟨lr rfl,zki⟩
 ·rw[if_neg (by rw[h1];simp)]at hok
  subst hok
  conv=>whnf
  refine gZn h25 ?_;conv=>whnf
  exact⟨lr rfl,zki⟩
theorem i26n (fx:Int→Iv→Int→Iv) (p:Int) (hp:pcB p=true) (es:zan) (r:Rt):Fn 57 (HvE es) [.agg (exC (zik r)),.mp 1000001,.int .i64 p] (ioV (evE fx p es (zik r))) (HvE es):=by
 rw[zky]
 have h50:=i50 r p hp
 generalize zxr r p=R at*
 refine fnT hT6 hmx Tryz.func57 rfl rfl (ex:= []) ?_;conv=>whnf
 refine gZc h50 ?_;conv=>whnf
 exact⟨lr rfl,zki⟩
abbrev z7:List AV:= [.bool false,.sl .u32 [],.int .i64 0,.bool false,.sl .u32 [],.int .i64 0,.bool false]
theorem i26u (p:Int) (es:zan) (k n:Int) (hk:k≠1∧k≠2) (a:Ex) (A C:Iv) (ok:Bool) (ha:Fn 57 (HvE es) [.agg (exC a),.mp 1000001,.int .i64 p] (.tup [.agg (ivC A),.bool ok]) (HvE es))
 (hc:Fn 25 G0 [.int .i64 k,.int .i64 n,.agg (ivC A),.agg (ivC zI),.int .i64 p] (.agg (ivC C)) G0):
 Fn 57 (HvE es) [.agg (exC (opE k n [a])),.mp 1000001,.int .i64 p] (ioV (if ok=true then(C,true)else(A,false))) (HvE es):=by
 obtain⟨⟨a1,a2,a3⟩,⟨a4,a5,a6⟩,a7⟩:=A
 obtain⟨⟨c1,c2,c3⟩,⟨c4,c5,c6⟩,c7⟩:=C
 have hc:Fn 25 G0 [.int .i64 k,.int .i64 n,.agg [.bool a1,.sl .u32 a2,.int .i64 a3,.bool a4,.sl .u32 a5,.int .i64 a6,.bool a7],.agg z7,.int .i64 p] (.agg [.bool c1,.sl .u32 c2,.int .i64 c3,.bool c4,.sl .u32 c5,.int .i64 c6,.bool c7]) G0:=hc
 have hk1:(k==1)=false:=by simpa using hk.1
 have hk2:(k==2)=false:=by simpa using hk.2
 refine fnT hT6 hmx Tryz.func57 rfl rfl (ex:= []) ?_;conv=>whnf
 refine brI (fun h1=>?_) (fun h1=>?_)
 ·have h1:(k==1)=true:=h1
  rw[hk1]at h1;cases h1
 conv=>whnf
 refine brI (fun h1=>?_) (fun h1=>?_)
 ·have h1:(k==2)=true:=h1
  rw[hk2]at h1;cases h1
 conv=>whnf
 refine⟨Nat,fun i=>i≤1∧(i=1→ok=true),fun i=> [(41,.int .i64 i)],fun i=> [(10,.cells (match i with
  |0=>z7++z7
  | _=> [.bool a1,.sl .u32 a2,.int .i64 a3,.bool a4,.sl .u32 a5,.int .i64 a6,.bool a7]++z7))],fun i=>1-i,0,⟨by simp,by simp⟩,?_,fun i hi=>?_⟩
 ·((conv=>whnf);refine And.intro ?_ ?_;repeat' first|refine lc ?_ ?_|exact la0|exact lr rfl|exact ln0|refine lh1 ?_ ?_|exact lh0|exact bf0|exact bd0|refine bc0 ?_|exact bm0 rfl|exact bb0 rfl|exact bg0 rfl|exact li0 rfl|refine lg0 ?_|refine lt0 ?_|fail)
 obtain⟨hi1,hi2⟩:=hi
 obtain rfl|rfl:i=0∨i=1:=by omega
 ·(refine⟨by kernel_rfl,?_⟩;(conv=>whnf))
  refine ix0 ?_;conv=>whnf
  refine⟨[.gst JT,.map .str .iv es],_,ha,?_⟩;conv=>whnf
  cases ok with
  |true=>
   conv=>whnf
   refine⟨⟨by omega,by omega⟩,?_⟩;conv=>whnf
   refine⟨1,⟨by decide,fun _=>rfl⟩,by decide,?_⟩
   ((conv=>whnf);refine And.intro ?_ ?_;repeat' first|refine lc ?_ ?_|exact la0|exact lr rfl|exact ln0|refine lh1 ?_ ?_|exact lh0|exact bf0|exact bd0|refine bc0 ?_|exact bm0 rfl|exact bb0 rfl|exact bg0 rfl|exact li0 rfl|refine lg0 ?_|refine lt0 ?_|fail)
  |false=>
   conv=>whnf
   exact⟨lr rfl,zki⟩
 ·have hok:=hi2 rfl
  subst hok
  (refine⟨by kernel_rfl,?_⟩;(conv=>whnf))
  refine⟨⟨by omega,by omega⟩,?_⟩;conv=>whnf
  refine⟨⟨by omega,by omega⟩,?_⟩;conv=>whnf
  refine gZc hc ?_;conv=>whnf
  exact⟨lr rfl,zki⟩
theorem i26b (p:Int) (es:zan) (k n:Int) (hk:k≠1∧k≠2) (a b:Ex) (A B C:Iv) (ok ok2:Bool) (ha:Fn 57 (HvE es) [.agg (exC a),.mp 1000001,.int .i64 p] (.tup [.agg (ivC A),.bool ok]) (HvE es))
 (hb:Fn 57 (HvE es) [.agg (exC b),.mp 1000001,.int .i64 p] (.tup [.agg (ivC B),.bool ok2]) (HvE es))
 (hc:Fn 25 G0 [.int .i64 k,.int .i64 n,.agg (ivC A),.agg (ivC B),.int .i64 p] (.agg (ivC C)) G0):
 Fn 57 (HvE es) [.agg (exC (opE k n [a,b])),.mp 1000001,.int .i64 p] (ioV (if ok=true then(if ok2=true then(C,true)else(B,false))else(A,false))) (HvE es):=by
 obtain⟨⟨a1,a2,a3⟩,⟨a4,a5,a6⟩,a7⟩:=A
 obtain⟨⟨b1,b2,b3⟩,⟨b4,b5,b6⟩,b7⟩:=B
 obtain⟨⟨c1,c2,c3⟩,⟨c4,c5,c6⟩,c7⟩:=C
 have hc:Fn 25 G0 [.int .i64 k,.int .i64 n,.agg [.bool a1,.sl .u32 a2,.int .i64 a3,.bool a4,.sl .u32 a5,.int .i64 a6,.bool a7],.agg [.bool b1,.sl .u32 b2,.int .i64 b3,.bool b4,.sl .u32 b5,.int .i64 b6,.bool b7],.int .i64 p] (.agg [.bool c1,.sl .u32 c2,.int .i64 c3,.bool c4,.sl .u32 c5,.int .i64 c6,.bool c7]) G0:=hc
 have hk1:(k==1)=false:=by simpa using hk.1
 have hk2:(k==2)=false:=by simpa using hk.2
 refine fnT hT6 hmx Tryz.func57 rfl rfl (ex:= []) ?_;conv=>whnf
 refine brI (fun h1=>?_) (fun h1=>?_)
 ·have h1:(k==1)=true:=h1
  rw[hk1]at h1;cases h1
 conv=>whnf
 refine brI (fun h1=>?_) (fun h1=>?_)
 ·have h1:(k==2)=true:=h1
  rw[hk2]at h1;cases h1
 conv=>whnf
 refine⟨Nat,fun i=>i≤2∧(1≤i→ok=true)∧(i=2→ok2=true),fun i=> [(41,.int .i64 i)],fun i=> [(10,.cells (match i with
  |0=>z7++z7
  |1=> [.bool a1,.sl .u32 a2,.int .i64 a3,.bool a4,.sl .u32 a5,.int .i64 a6,.bool a7]++z7
  | _=> [.bool a1,.sl .u32 a2,.int .i64 a3,.bool a4,.sl .u32 a5,.int .i64 a6,.bool a7,.bool b1,.sl .u32 b2,.int .i64 b3,.bool b4,.sl .u32 b5,.int .i64 b6,.bool b7]))],fun i=>2-i,0,⟨by simp,by simp,by simp⟩,?_,fun i hi=>?_⟩
 ·((conv=>whnf);refine And.intro ?_ ?_;repeat' first|refine lc ?_ ?_|exact la0|exact lr rfl|exact ln0|refine lh1 ?_ ?_|exact lh0|exact bf0|exact bd0|refine bc0 ?_|exact bm0 rfl|exact bb0 rfl|exact bg0 rfl|exact li0 rfl|refine lg0 ?_|refine lt0 ?_|fail)
 obtain⟨hi1,hi2,hi3⟩:=hi
 obtain rfl|rfl|rfl:i=0∨i=1∨i=2:=by omega
 ·(refine⟨by kernel_rfl,?_⟩;(conv=>whnf))
  refine ix0 ?_;conv=>whnf
  refine⟨[.gst JT,.map .str .iv es],_,ha,?_⟩;conv=>whnf
  cases ok with
  |true=>
   conv=>whnf
   refine⟨⟨by omega,by omega⟩,?_⟩;conv=>whnf
   refine⟨1,⟨by decide,fun _=>rfl,fun h=>by cases h⟩,by decide,?_⟩
   ((conv=>whnf);refine And.intro ?_ ?_;repeat' first|refine lc ?_ ?_|exact la0|exact lr rfl|exact ln0|refine lh1 ?_ ?_|exact lh0|exact bf0|exact bd0|refine bc0 ?_|exact bm0 rfl|exact bb0 rfl|exact bg0 rfl|exact li0 rfl|refine lg0 ?_|refine lt0 ?_|fail)
  |false=>
   conv=>whnf
   exact⟨lr rfl,zki⟩
 ·have hok:=hi2 (by decide)
  subst hok
  (refine⟨by kernel_rfl,?_⟩;(conv=>whnf))
  refine ix1 ?_;conv=>whnf
  refine⟨[.gst JT,.map .str .iv es],_,hb,?_⟩;conv=>whnf
  cases ok2 with
  |true=>
   conv=>whnf
   refine⟨⟨by omega,by omega⟩,?_⟩;conv=>whnf
   refine⟨2,⟨by decide,fun _=>rfl,fun _=>rfl⟩,by decide,?_⟩
   ((conv=>whnf);refine And.intro ?_ ?_;repeat' first|refine lc ?_ ?_|exact la0|exact lr rfl|exact ln0|refine lh1 ?_ ?_|exact lh0|exact bf0|exact bd0|refine bc0 ?_|exact bm0 rfl|exact bb0 rfl|exact bg0 rfl|exact li0 rfl|refine lg0 ?_|refine lt0 ?_|fail)
  |false=>
   conv=>whnf
   exact⟨lr rfl,zki⟩
 ·have hok:=hi2 (by decide)
  have hok2:=hi3 rfl
  subst hok hok2
  (refine⟨by kernel_rfl,?_⟩;(conv=>whnf))
  refine⟨⟨by omega,by omega⟩,?_⟩;conv=>whnf
  refine⟨⟨by omega,by omega⟩,?_⟩;conv=>whnf
  refine gZc hc ?_;conv=>whnf
  exact⟨lr rfl,zki⟩
theorem i26 {fx:Int→Iv→Int→Iv} {K:Int→Prop} {p:Int} (hp:pcB p=true) (hA:ApK fx K p) {es:zan} (hes:REs es) {e:Ex} (he:VK K e):
 Fn 57 (HvE es) [.agg (exC e),.mp 1000001,.int .i64 p] (ioV (evE fx p es e)) (HvE es)∧RI (evE fx p es e).1:=by
 induction he with
 |num r hr=>exact⟨i26n fx p hp es r,by rw[zky];exact(qe2 r hp).ri⟩
 |var s hs=>exact⟨i26v fx p es hes s,by rw[zh1];exact(qco (zsj hes)).ri⟩
 |un k a hk h1 _ ih=>
  have hne:k≠1∧k≠2:=by unfold K1 at h1;omega
  obtain⟨c1,c2⟩:=hA k 0 _ zI hk ih.2 zx7
  rw[zah fx p es k 0 a hne]
  refine⟨i26u p es k 0 hne a _ _ _ ih.1 c1,?_⟩
  split
  ·exact c2.ri
  ·exact ih.2
 |pow n a hk h1 h2 _ ih=>
  obtain⟨c1,c2⟩:=hA 8 n _ zI hk ih.2 zx7
  rw[zah fx p es 8 n a (by decide)]
  refine⟨i26u p es 8 n (by decide) a _ _ _ ih.1 c1,?_⟩
  split
  ·exact c2.ri
  ·exact ih.2
 |bin k a b hk h1 _ _ ih1 ih2=>
  have hne:k≠1∧k≠2:=by unfold K2 at h1;omega
  obtain⟨c1,c2⟩:=hA k 0 _ _ hk ih1.2 ih2.2
  rw[zh2 fx p es k 0 a b hne]
  refine⟨i26b p es k 0 hne a b _ _ _ _ _ ih1.1 ih2.1 c1,?_⟩
  split
  ·split
   ·exact c2.ri
   ·exact ih2.2
  ·exact ih1.2
end Go.Proofs.YtajnlbbgolmklaaGreatDoor

namespace Go.Proofs.YtajnlbbgolmklaaGreatDoor
open Go Go.Sx
set_option maxRecDepth 100000
set_option maxHeartbeats 8000000
def ym:List zd→List Iv→zan→zan
 |n::ns,r::rs,es=>ym ns rs (zak .str n r es)
 | _,_,es=>es
theorem qdb (ns:List zd) (rs:List Iv) (h: ¬(ns.length=rs.length∧ns.length≤200)) (h1:ns.length<9223372036854775808) (h2:rs.length<9223372036854775808):
 Fn 56 [] [.sl .str ns,.sl .iv rs] (.tup [.any,.bool false]) [(2000000,.dead)]:=by
 refine fnT hT6 hmx Tryz.func56 rfl rfl (ex:= [21]) ?_;conv=>whnf
 refine brI (fun h3=>?_) (fun h3=>?_)
 ·conv=>whnf
  exact⟨lt0 (lc la0 (lc (lr rfl) ln0)),lh1 bd0 lh0⟩
 ·conv=>whnf
  refine brI (fun h4=>?_) (fun h4=>?_)
  ·conv=>whnf
   exact⟨lt0 (lc la0 (lc (lr rfl) ln0)),lh1 bd0 lh0⟩
  ·refine absurd ⟨?_,?_⟩ h
   ·have h3:((ns.length:Int) != (rs.length:Int))=false:=h3
    simp only[bne_eq_false_iff_eq]at h3;omega
   ·simp only[decide_eq_false_iff_not]at h4;omega
theorem zth {ns:List zd} {rs:List Iv} {i:Nat} {n:zd} {r:Iv} (es:zan) (h1:ns[i]? =some n) (h2:rs[i]? =some r):ym (ns.drop i) (rs.drop i) es=ym (ns.drop (i+1)) (rs.drop (i+1)) (zak .str n r es):=by
 rw[ql h1,ql h2];rfl
theorem zc5 (n:zd) (r:Iv): ∀es:zan,(zak .str n r es).length ≤es.length+1
 | []=>by simp[zak]
 |(y,v)::l=>by
  have:=zc5 n r l
  simp only[zak]
  cases zhl .str n y
  ·simp only[cond_false,List.length_cons];omega
  ·simp only[cond_true,List.length_cons];omega
theorem i23 (ns:List zd) (rs:List Iv) (h:ns.length=rs.length∧ns.length≤200):
 Fn 56 [] [.sl .str ns,.sl .iv rs] (.tup [.mp 2000000,.bool (decide ((ym ns rs []).length =rs.length))]) [(2000000,.map .str .iv (ym ns rs []))]:=by
 refine fnT hT6 hmx Tryz.func56 rfl rfl (ex:= [21]) ?_;conv=>whnf
 refine brI (fun h0=>?_) (fun h0=>?_)
 ·have h0:((ns.length:Int) != (rs.length:Int))=true:=h0
  refine absurd h.1 (fun e=>?_)
  rw[e]at h0;simp at h0
 conv=>whnf
 refine brI (fun h0=>absurd h.2 (by simp only[decide_eq_true_eq]at h0;omega)) (fun _=>?_)
 conv=>whnf
 refine⟨Nat×zan,fun x=>x.1≤ns.length∧ym (ns.drop x.1) (rs.drop x.1) x.2=ym ns rs []∧x.2.length≤x.1,fun x=> [(24,.int .i64 x.1)],fun x=> [(21,.map .str .iv x.2)],fun x=>ns.length-x.1,(0,[]),⟨by simp,rfl,by simp⟩,?_,fun x hx=>?_⟩
 ·((conv=>whnf);refine And.intro ?_ ?_;repeat' first|refine lc ?_ ?_|exact la0|exact lr rfl|exact ln0|refine lh1 ?_ ?_|exact lh0|exact bf0|exact bd0|refine bc0 ?_|exact bm0 rfl|exact bg0 rfl|exact li0 rfl|refine lg0 ?_|refine lt0 ?_|fail)
 (refine⟨by kernel_rfl,?_⟩;(conv=>whnf))
 obtain⟨i,es⟩:=x
 obtain⟨hx1,hx2,hx3⟩:=hx
 simp only at hx1 hx2 hx3
 refine brI (fun h3=>?_) (fun h3=>?_)
 ·conv=>whnf
  have h3:i<ns.length:=by simp only[decide_eq_true_eq]at h3;omega
  refine⟨⟨by omega,by omega⟩,fun n hn=>?_⟩
  have hn:ns[i]? =some n:=by simpa using hn
  conv=>whnf
  refine⟨⟨by omega,by simp only;omega⟩,fun r hr=>?_⟩
  have hr:rs[i]? =some r:=by simpa using hr
  rw[zth es hn hr]at hx2
  conv=>whnf
  refine⟨(i+1,zak .str n r es),⟨by simp only;omega,hx2,by have:=zc5 n r es;simp only;omega⟩,by show ns.length-(i+1)<ns.length-i;omega,?_⟩
  ((conv=>whnf);refine And.intro ?_ ?_;repeat' first|refine lc ?_ ?_|exact la0|exact lr rfl|exact ln0|refine lh1 ?_ ?_|exact lh0|exact bf0|exact bd0|refine bc0 ?_|exact bm0 rfl|exact bg0 rfl|exact li0 rfl|refine lg0 ?_|refine lt0 ?_|fail)
  exact ai0 (by rw[wI (by simp only;omega)];simp only;omega)
 ·conv=>whnf
  have h3: ¬i<ns.length:=by simp only[decide_eq_false_iff_not]at h3;omega
  rw[List.drop_of_length_le (by omega),List.drop_of_length_le (by omega)]at hx2
  have hx2:es=ym ns rs []:=hx2
  rw[←hx2]
  refine⟨lt0 (lc (lr rfl) (lc (ab0 ?_) ln0)),lh1 (bm0 rfl) lh0⟩
  rw[Bool.eq_iff_iff,decide_eq_true_eq]
  constructor
  ·intro h;have h:((es.length:Int)==(rs.length:Int))=true:=h;simp only[beq_iff_eq]at h;omega
  ·intro h;show((es.length:Int)==(rs.length:Int))=true;simp only[beq_iff_eq];omega
theorem znw {n:zd} {r:Iv} (hr:RI r): ∀ {es:zan},REs es→REs (zak .str n r es)
 | [],_=>by
   intro q hq
   simp only[zak,List.mem_singleton]at hq
   subst hq;exact hr
 |(y,v)::l,h=>by
  have ih:=znw (n:=n) hr (es:=l) fun q hq=>h q (List.mem_cons_of_mem _ hq)
  intro q hq
  simp only[zak]at hq
  cases hk:zhl .str n y with
  |true=>
   rw[hk,cond_true]at hq
   rcases List.mem_cons.1 hq with rfl|hq
   ·exact hr
   ·exact h q (List.mem_cons_of_mem _ hq)
  |false=>
   rw[hk,cond_false]at hq
   rcases List.mem_cons.1 hq with rfl|hq
   ·exact h _ List.mem_cons_self
   ·exact ih q hq
theorem zjg: ∀(ns:List zd) (rs:List Iv) (es:zan),(∀r∈rs,RI r)→REs es→REs (ym ns rs es)
 | [],_,es,_,h=>by cases ‹List Iv› <;>exact h
 | _::_,[],es,_,h=>h
 |n::ns,r::rs,es,hr,h=>zjg ns rs _ (fun x hx=>hr x (List.mem_cons_of_mem _ hx)) (znw (hr r List.mem_cons_self) h)
def enB (ns:List zd) (xs:List Iv):Bool:=decide (ns.length=xs.length∧ns.length≤200∧(ym ns xs []).length =xs.length)
def zb0 (fx:Int→Iv→Int→Iv) (e:Ex) (ns:List zd) (xs:List Iv) (p:Int):Iv:=
 if(enB ns xs=true∧okT e=true∧pcB p=true)∧(evE fx p (ym ns xs []) e).2=true then(evE fx p (ym ns xs []) e).1 else wI0
theorem i8 {fx:Int→Iv→Int→Iv} {K:Int→Prop} (hA: ∀p,pcB p=true→ApK fx K p) (e:Ex) (he:Sm e) (hK:okT e=true→VK K e) (ns:List zd) (xs:List Iv) (hx: ∀x∈xs,RI x) (h1:ns.length<9223372036854775808) (h2:xs.length<9223372036854775808) (p:Int):
 Fn 16 G0 [.agg (exC e),.sl .str ns,.sl .iv xs,.int .i64 p] (.agg (ivC (zb0 fx e ns xs p))) G0:=by
 have h24:=f17 e he
 have h25:=i25
 rw[e25]at h25
 have hR:zb0 fx e ns xs p=if(enB ns xs=true∧okT e=true∧pcB p=true)∧(evE fx p (ym ns xs []) e).2=true then(evE fx p (ym ns xs []) e).1 else wI0:=rfl
 generalize zb0 fx e ns xs p=R at*
 by_cases hl:ns.length=xs.length∧ns.length≤200
 rotate_left
 ·rw[if_neg fun c=>hl (by have:=c.1.1;unfold enB at this;have:=of_decide_eq_true this;exact⟨this.1,this.2.1⟩)]at hR
  subst hR
  have h23:=qdb ns xs hl h1 h2
  refine fnT hT6 hmx Tryz.func16 rfl rfl (ex:= []) ?_;conv=>whnf
  refine⟨[],[.dead],_,h23,?_⟩;conv=>whnf
  refine gZn h25 ?_;conv=>whnf
  exact⟨lr rfl,leG⟩
 have h23:=i23 ns xs hl
 by_cases hen:(ym ns xs []).length =xs.length
 rotate_left
 ·rw[if_neg fun c=>hen (by have:=c.1.1;unfold enB at this;have:=of_decide_eq_true this;exact this.2.2)]at hR
  subst hR
  rw[decide_eq_false hen]at h23
  refine fnT hT6 hmx Tryz.func16 rfl rfl (ex:= []) ?_;conv=>whnf
  refine⟨[],[.map .str .iv (ym ns xs [])],_,h23,?_⟩;conv=>whnf
  refine gZn h25 ?_;conv=>whnf
  exact⟨lr rfl,leG⟩
 have hE:enB ns xs=true:=by unfold enB;exact decide_eq_true ⟨hl.1,hl.2,hen⟩
 rw[decide_eq_true hen]at h23
 by_cases hok:okT e=true
 rotate_left
 ·rw[if_neg fun c=>hok c.1.2.1]at hR
  subst hR
  rw[show okT e=false by simpa using hok]at h24
  refine fnT hT6 hmx Tryz.func16 rfl rfl (ex:= []) ?_;conv=>whnf
  refine⟨[],[.map .str .iv (ym ns xs [])],_,h23,?_⟩;conv=>whnf
  refine gZn h24 ?_;conv=>whnf
  refine gZn h25 ?_;conv=>whnf
  exact⟨lr rfl,leG⟩
 rw[hok]at h24
 by_cases hp:pcB p=true
 rotate_left
 ·rw[if_neg fun c=>hp c.1.2.2]at hR
  subst hR
  have hp: ¬(8≤p∧p≤512):=fun c=>hp (by unfold pcB;simp;omega)
  refine fnT hT6 hmx Tryz.func16 rfl rfl (ex:= []) ?_;conv=>whnf
  refine⟨[],[.map .str .iv (ym ns xs [])],_,h23,?_⟩;conv=>whnf
  refine gZn h24 ?_;conv=>whnf
  refine brI (fun k1=>?_) (fun k1=>?_)
  ·conv=>whnf
   refine gZn h25 ?_;conv=>whnf
   exact⟨lr rfl,leG⟩
  have k1: ¬p<8:=of_decide_eq_false k1
  conv=>whnf
  refine brI (fun k2=>?_) (fun k2=>?_)
  ·conv=>whnf
   refine gZn h25 ?_;conv=>whnf
   exact⟨lr rfl,leG⟩
  have k2: ¬512<p:=of_decide_eq_false k2
  omega
 have hp2:8≤p∧p≤512:=by unfold pcB at hp;simpa using hp
 obtain⟨h26,_⟩:=i26 hp (hA p hp) (zjg ns xs [] hx fun q hq=>by cases hq) (hK hok)
 obtain⟨V,hV⟩: ∃V,evE fx p (ym ns xs []) e=V:=⟨_,rfl⟩
 rw[hV]at hR h26
 obtain⟨⟨⟨v1,v2,v3⟩,⟨v4,v5,v6⟩,v7⟩,ok⟩:=V
 have h26:Fn 57 (HvE (ym ns xs [])) [.agg (exC e),.mp 1000001,.int .i64 p] (.tup [.agg [.bool v1,.sl .u32 v2,.int .i64 v3,.bool v4,.sl .u32 v5,.int .i64 v6,.bool v7],.bool ok]) (HvE (ym ns xs [])):=h26
 simp only at hR
 cases ok with
 |true=>
  rw[if_pos ⟨⟨hE,hok,hp⟩,rfl⟩]at hR
  subst hR
  refine fnT hT6 hmx Tryz.func16 rfl rfl (ex:= []) ?_;conv=>whnf
  refine⟨[],[.map .str .iv (ym ns xs [])],_,h23,?_⟩;conv=>whnf
  refine gZn h24 ?_;conv=>whnf
  refine brI (fun k1=>?_) (fun k1=>?_)
  ·have k1:=of_decide_eq_true k1;omega
  conv=>whnf
  refine brI (fun k2=>?_) (fun k2=>?_)
  ·have k2:=of_decide_eq_true k2;omega
  conv=>whnf
  refine⟨[.gst JT,.map .str .iv (ym ns xs [])],_,h26.sw [(15,1000001)] rfl,?_⟩;conv=>whnf
  exact⟨lr rfl,leG⟩
 |false=>
  rw[if_neg fun c=>by cases c.2]at hR
  subst hR
  refine fnT hT6 hmx Tryz.func16 rfl rfl (ex:= []) ?_;conv=>whnf
  refine⟨[],[.map .str .iv (ym ns xs [])],_,h23,?_⟩;conv=>whnf
  refine gZn h24 ?_;conv=>whnf
  refine brI (fun k1=>?_) (fun k1=>?_)
  ·have k1:=of_decide_eq_true k1;omega
  conv=>whnf
  refine brI (fun k2=>?_) (fun k2=>?_)
  ·have k2:=of_decide_eq_true k2;omega
  conv=>whnf
  refine⟨[.gst JT,.map .str .iv (ym ns xs [])],_,h26.sw [(15,1000001)] rfl,?_⟩;conv=>whnf
  refine gZn h25 ?_;conv=>whnf
  exact⟨lr rfl,leG⟩
end Go.Proofs.YtajnlbbgolmklaaGreatDoor
