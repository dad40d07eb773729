/-
  Intervals: products, quotients, squares, Meet, Width.
-/
import Derived.Test.YtajnlbbgolmklaaGreatDoorQYy
import Derived.Test.YtajnlbbgolmklaaGreatDoorQYXa
import Derived.Test.YtajnlbbgolmklaaGreatDoorQYXb
import Derived.Test.YtajnlbbgolmklaaGreatDoorQUa
import Derived.Test.YtajnlbbgolmklaaGreatDoorQVa
import Derived.Test.YtajnlbbgolmklaaGreatDoorQUb
set_option linter.unusedVariables false
set_option linter.unusedSimpArgs false
namespace Go.Proofs.YtajnlbbgolmklaaGreatDoor
open Go Go.Sx
set_option maxRecDepth 100000
set_option maxHeartbeats 8000000
def mulI (x y:Iv) (p:Int):Iv:=if(kB x&&kB y)=true∧pcB p=true then fourI (fun a b=>mulD a b p.toNat false) (fun a b=>mulD a b p.toNat true) x y else wI0
theorem i84 (x y:Iv) (hx:RI x) (hy:RI y) (p:Int):Fn 28 G0 [.agg (ivC x),.agg (ivC y),.int .i64 p] (.agg (ivC (mulI x y p))) G0:=by
 have h126:=i126 [x,y] (by simp) (by simpa using⟨hx,hy⟩)
 rw[k2]at h126
 have h127:=i127 p
 have h25:=i25
 rw[e25]at h25
 have hR:mulI x y p=if(kB x&&kB y)=true∧pcB p=true then fourI (fun a b=>mulD a b p.toNat false) (fun a b=>mulD a b p.toNat true) x y else wI0:=rfl
 generalize mulI x y p=R at*
 by_cases hk:(kB x&&kB y)=true
 ·rw[hk]at h126
  by_cases hp:pcB p=true
  ·rw[hp]at h127
   rw[if_pos ⟨hk,hp⟩]at hR
   rw[Bool.and_eq_true]at hk
   have kx:=(kB_iff hx).1 hk.1
   have ky:=(kB_iff hy).1 hk.2
   obtain⟨q,rfl,hq⟩:=pcB_iff.1 hp
   rw[Int.toNat_natCast]at hR
   have n1:=i131m kx ky q hq
   rw[←hR]at n1
   clear hR hk kx ky hx hy
   obtain⟨⟨x1,x2,x3⟩,⟨x4,x5,x6⟩,x7⟩:=x
   obtain⟨⟨y1,y2,y3⟩,⟨y4,y5,y6⟩,y7⟩:=y
   obtain⟨⟨r1,r2,r3⟩,⟨r4,r5,r6⟩,r7⟩:=R
   have n1:Fn 70 G0 [.agg [.bool x1,.sl .u32 x2,.int .i64 x3,.bool x4,.sl .u32 x5,.int .i64 x6,.bool x7],.agg [.bool y1,.sl .u32 y2,.int .i64 y3,.bool y4,.sl .u32 y5,.int .i64 y6,.bool y7],.int .i64 q,.fn 71 [],.fn 72 []] (.agg [.bool r1,.sl .u32 r2,.int .i64 r3,.bool r4,.sl .u32 r5,.int .i64 r6,.bool r7]) G0:=n1
   show Fn 28 G0 [.agg [.bool x1,.sl .u32 x2,.int .i64 x3,.bool x4,.sl .u32 x5,.int .i64 x6,.bool x7],.agg [.bool y1,.sl .u32 y2,.int .i64 y3,.bool y4,.sl .u32 y5,.int .i64 y6,.bool y7],.int .i64 q] _ G0
   refine fnT hT6 hmx Tryz.func28 rfl rfl (ex:= []) ?_
   conv=>whnf
   refine⟨[],_,h126,?_⟩
   conv=>whnf
   refine⟨[],_,h127,?_⟩
   conv=>whnf
   refine⟨[.gst JT],_,n1,?_⟩
   conv=>whnf
   exact⟨lr rfl,leG⟩
  ·rw[if_neg fun c=>hp c.2]at hR
   rw[show pcB p=false by simpa using hp]at h127
   subst hR
   clear hk hx hy
   obtain⟨⟨x1,x2,x3⟩,⟨x4,x5,x6⟩,x7⟩:=x
   obtain⟨⟨y1,y2,y3⟩,⟨y4,y5,y6⟩,y7⟩:=y
   show Fn 28 G0 [.agg [.bool x1,.sl .u32 x2,.int .i64 x3,.bool x4,.sl .u32 x5,.int .i64 x6,.bool x7],.agg [.bool y1,.sl .u32 y2,.int .i64 y3,.bool y4,.sl .u32 y5,.int .i64 y6,.bool y7],.int .i64 p] _ G0
   refine fnT hT6 hmx Tryz.func28 rfl rfl (ex:= []) ?_
   conv=>whnf
   refine⟨[],_,h126,?_⟩
   conv=>whnf
   refine⟨[],_,h127,?_⟩
   conv=>whnf
   refine⟨[],_,h25,?_⟩
   conv=>whnf
   exact⟨lr rfl,leG⟩
 ·rw[if_neg fun c=>hk c.1]at hR
  rw[show(kB x&&kB y)=false by simpa using hk]at h126
  subst hR
  clear hk hx hy
  obtain⟨⟨x1,x2,x3⟩,⟨x4,x5,x6⟩,x7⟩:=x
  obtain⟨⟨y1,y2,y3⟩,⟨y4,y5,y6⟩,y7⟩:=y
  show Fn 28 G0 [.agg [.bool x1,.sl .u32 x2,.int .i64 x3,.bool x4,.sl .u32 x5,.int .i64 x6,.bool x7],.agg [.bool y1,.sl .u32 y2,.int .i64 y3,.bool y4,.sl .u32 y5,.int .i64 y6,.bool y7],.int .i64 p] _ G0
  refine fnT hT6 hmx Tryz.func28 rfl rfl (ex:= []) ?_
  conv=>whnf
  refine⟨[],_,h126,?_⟩
  conv=>whnf
  refine⟨[],_,h25,?_⟩
  conv=>whnf
  exact⟨lr rfl,leG⟩
def divI (x y:Iv) (p:Int):Iv:=if(kB x&&kB y)=true∧pcB p=true∧sgnI y≠0 then fourI (fun a b=>divD a b p.toNat false) (fun a b=>divD a b p.toNat true) x y else wI0
theorem i85 (x y:Iv) (hx:RI x) (hy:RI y) (p:Int):Fn 29 G0 [.agg (ivC x),.agg (ivC y),.int .i64 p] (.agg (ivC (divI x y p))) G0:=by
 have h126:=i126 [x,y] (by simp) (by simpa using⟨hx,hy⟩)
 rw[k2]at h126
 have h127:=i127 p
 have h25:=i25
 have h134:=i134 y hy
 rw[e25]at h25
 have hR:divI x y p=if(kB x&&kB y)=true∧pcB p=true∧sgnI y≠0 then fourI (fun a b=>divD a b p.toNat false) (fun a b=>divD a b p.toNat true) x y else wI0:=rfl
 generalize divI x y p=R at*
 generalize sgnI y=S at*
 by_cases hk:(kB x&&kB y)=true
 ·rw[hk]at h126
  by_cases hp:pcB p=true
  ·rw[hp]at h127
   by_cases hs:S=0
   ·rw[if_neg fun c=>c.2.2 hs]at hR
    subst hR hs
    clear hk hx hy
    obtain⟨⟨x1,x2,x3⟩,⟨x4,x5,x6⟩,x7⟩:=x
    obtain⟨⟨y1,y2,y3⟩,⟨y4,y5,y6⟩,y7⟩:=y
    have h134:Fn 73 [] [.agg [.bool y1,.sl .u32 y2,.int .i64 y3,.bool y4,.sl .u32 y5,.int .i64 y6,.bool y7]] (.int .i64 0) []:=h134
    show Fn 29 G0 [.agg [.bool x1,.sl .u32 x2,.int .i64 x3,.bool x4,.sl .u32 x5,.int .i64 x6,.bool x7],.agg [.bool y1,.sl .u32 y2,.int .i64 y3,.bool y4,.sl .u32 y5,.int .i64 y6,.bool y7],.int .i64 p] _ G0
    refine fnT hT6 hmx Tryz.func29 rfl rfl (ex:= []) ?_
    conv=>whnf
    refine⟨[],_,h126,?_⟩
    conv=>whnf
    refine⟨[],_,h127,?_⟩
    conv=>whnf
    refine⟨[],_,h134,?_⟩
    conv=>whnf
    refine⟨[],_,h25,?_⟩
    conv=>whnf
    exact⟨lr rfl,leG⟩
   rw[if_pos ⟨hk,hp,hs⟩]at hR
   rw[Bool.and_eq_true]at hk
   have kx:=(kB_iff hx).1 hk.1
   have ky:=(kB_iff hy).1 hk.2
   obtain⟨q,rfl,hq⟩:=pcB_iff.1 hp
   rw[Int.toNat_natCast]at hR
   have n1:=i131d kx ky q hq
   rw[←hR]at n1
   clear hR hk kx ky hx hy
   obtain⟨⟨x1,x2,x3⟩,⟨x4,x5,x6⟩,x7⟩:=x
   obtain⟨⟨y1,y2,y3⟩,⟨y4,y5,y6⟩,y7⟩:=y
   obtain⟨⟨r1,r2,r3⟩,⟨r4,r5,r6⟩,r7⟩:=R
   have h134:Fn 73 [] [.agg [.bool y1,.sl .u32 y2,.int .i64 y3,.bool y4,.sl .u32 y5,.int .i64 y6,.bool y7]] (.int .i64 S) []:=h134
   have n1:Fn 70 G0 [.agg [.bool x1,.sl .u32 x2,.int .i64 x3,.bool x4,.sl .u32 x5,.int .i64 x6,.bool x7],.agg [.bool y1,.sl .u32 y2,.int .i64 y3,.bool y4,.sl .u32 y5,.int .i64 y6,.bool y7],.int .i64 q,.fn 74 [],.fn 75 []] (.agg [.bool r1,.sl .u32 r2,.int .i64 r3,.bool r4,.sl .u32 r5,.int .i64 r6,.bool r7]) G0:=n1
   show Fn 29 G0 [.agg [.bool x1,.sl .u32 x2,.int .i64 x3,.bool x4,.sl .u32 x5,.int .i64 x6,.bool x7],.agg [.bool y1,.sl .u32 y2,.int .i64 y3,.bool y4,.sl .u32 y5,.int .i64 y6,.bool y7],.int .i64 q] _ G0
   refine fnT hT6 hmx Tryz.func29 rfl rfl (ex:= []) ?_
   conv=>whnf
   refine⟨[],_,h126,?_⟩
   conv=>whnf
   refine⟨[],_,h127,?_⟩
   conv=>whnf
   refine⟨[],_,h134,?_⟩
   conv=>whnf
   refine brI (fun k1=>?_) (fun k1=>?_)
   ·have k1:S=0:=by simpa using k1
    exact absurd k1 hs
   conv=>whnf
   refine⟨[.gst JT],_,n1,?_⟩
   conv=>whnf
   exact⟨lr rfl,leG⟩
  ·rw[if_neg fun c=>hp c.2.1]at hR
   rw[show pcB p=false by simpa using hp]at h127
   subst hR
   clear hk hx hy h134
   obtain⟨⟨x1,x2,x3⟩,⟨x4,x5,x6⟩,x7⟩:=x
   obtain⟨⟨y1,y2,y3⟩,⟨y4,y5,y6⟩,y7⟩:=y
   show Fn 29 G0 [.agg [.bool x1,.sl .u32 x2,.int .i64 x3,.bool x4,.sl .u32 x5,.int .i64 x6,.bool x7],.agg [.bool y1,.sl .u32 y2,.int .i64 y3,.bool y4,.sl .u32 y5,.int .i64 y6,.bool y7],.int .i64 p] _ G0
   refine fnT hT6 hmx Tryz.func29 rfl rfl (ex:= []) ?_
   conv=>whnf
   refine⟨[],_,h126,?_⟩
   conv=>whnf
   refine⟨[],_,h127,?_⟩
   conv=>whnf
   refine⟨[],_,h25,?_⟩
   conv=>whnf
   exact⟨lr rfl,leG⟩
 ·rw[if_neg fun c=>hk c.1]at hR
  rw[show(kB x&&kB y)=false by simpa using hk]at h126
  subst hR
  clear hk hx hy h134
  obtain⟨⟨x1,x2,x3⟩,⟨x4,x5,x6⟩,x7⟩:=x
  obtain⟨⟨y1,y2,y3⟩,⟨y4,y5,y6⟩,y7⟩:=y
  show Fn 29 G0 [.agg [.bool x1,.sl .u32 x2,.int .i64 x3,.bool x4,.sl .u32 x5,.int .i64 x6,.bool x7],.agg [.bool y1,.sl .u32 y2,.int .i64 y3,.bool y4,.sl .u32 y5,.int .i64 y6,.bool y7],.int .i64 p] _ G0
  refine fnT hT6 hmx Tryz.func29 rfl rfl (ex:= []) ?_
  conv=>whnf
  refine⟨[],_,h126,?_⟩
  conv=>whnf
  refine⟨[],_,h25,?_⟩
  conv=>whnf
  exact⟨lr rfl,leG⟩
end Go.Proofs.YtajnlbbgolmklaaGreatDoor

namespace Go.Proofs.YtajnlbbgolmklaaGreatDoor
open Go Go.Sx
set_option maxRecDepth 100000
set_option maxHeartbeats 8000000
def CI (x:Iv):Prop:=x=wI0∨(x.all=false∧VD x.lo∧VD x.hi)
theorem CI.ri {x:Iv} (h:CI x):RI x:=by
 rcases h with rfl|⟨_,h1,h2⟩
 ·exact wI0_ri
 ·exact⟨h1.lb,h2.lb,by have:=h1.len;omega,by have:=h2.len;omega⟩
theorem CI_w:CI wI0:= .inl rfl
theorem CI_made {a b:Dy×Int} (ha:VD a.1) (hb:VD b.1):CI (madeI a b):=by
 unfold madeI
 split
 ·exact CI_w
 ·exact .inr ⟨rfl,ha,hb⟩
theorem pc_of {p:Int} (h:pcB p=true):8≤p.toNat∧p.toNat≤512:=by
 obtain⟨q,rfl,hq⟩:=pcB_iff.1 h
 exact hq
theorem CI_add (x y:Iv) (p:Int):CI (addI x y p):=by
 unfold addI
 split
 ·rename_i h
  exact CI_made (VD_add _ _ _ _ (pc_of h.2)) (VD_add _ _ _ _ (pc_of h.2))
 ·exact CI_w
theorem CI_st {dn up:Dy×Int} {o:Iv} {K:Iv→Iv} (h1:VD dn.1) (h2:VD up.1) (h3:VD o.lo) (h4:VD o.hi) (hK: ∀o,o.all=false→VD o.lo→VD o.hi→CI (K o)):CI (stI dn up o K):=by
 unfold stI
 split
 ·exact CI_w
 ·refine hK _ rfl ?_ ?_
  ·simp only;split<;>assumption
  ·simp only;split<;>assumption
theorem fourI_eq (dn up:Dy→Dy→Dy×Int) (x y:Iv):fourI dn up x y=s0I (dn x.lo y.lo) (up x.lo y.lo) (fun o=>stI (dn x.lo y.hi) (up x.lo y.hi) o (fun o=>stI (dn x.hi y.lo) (up x.hi y.lo) o (fun o=>stI (dn x.hi y.hi) (up x.hi y.hi) o (fun o=>o)))):=by
 unfold fourI;rw[f4I]
theorem CI_four {dn up:Dy→Dy→Dy×Int} (h1: ∀a b,VD (dn a b).1) (h2: ∀a b,VD (up a b).1) (x y:Iv):CI (fourI dn up x y):=by
 rw[fourI_eq]
 unfold s0I
 split
 ·exact CI_w
 ·refine CI_st (h1 _ _) (h2 _ _) (h1 _ _) (h2 _ _) fun o _ a b=>?_
  refine CI_st (h1 _ _) (h2 _ _) a b fun o _ a b=>?_
  refine CI_st (h1 _ _) (h2 _ _) a b fun o c a b=>?_
  exact .inr ⟨c,a,b⟩
theorem CI_mul (x y:Iv) (p:Int):CI (mulI x y p):=by
 unfold mulI
 split
 ·rename_i h
  exact CI_four (fun a b=>VD_mul _ _ _ _ (pc_of h.2)) (fun a b=>VD_mul _ _ _ _ (pc_of h.2)) x y
 ·exact CI_w
theorem CI_div (x y:Iv) (p:Int):CI (divI x y p):=by
 unfold divI
 split
 ·rename_i h
  exact CI_four (fun a b=>VD_div _ _ _ _ (pc_of h.2.1)) (fun a b=>VD_div _ _ _ _ (pc_of h.2.1)) x y
 ·exact CI_w
theorem CI_neg {x:Iv} (h:RI x):CI (negI x):=by
 unfold negI
 split
 ·rename_i hk
  have k:=(kB_iff h).1 hk
  exact .inr ⟨rfl,VD_neg k.hi,VD_neg k.lo⟩
 ·exact CI_w
theorem CI_pow (x:Iv) (n p:Int):CI (powI x n p):=by
 unfold powI
 split
 ·rename_i h
  split
  ·exact .inr ⟨rfl,VD_int 1 (by decide),VD_int 1 (by decide)⟩
  ·exact CI_made (VD_end _ _ _ _ (pc_of h.2.1)) (VD_end _ _ _ _ (pc_of h.2.1))
 ·exact CI_w
theorem CI_sqrt (x:Iv) (p:Int):CI (sqrtI x p):=by
 unfold sqrtI
 split
 ·rename_i h
  exact CI_made (VD_sqrt _ _ _ (pc_of h.2.1)) (VD_sqrt _ _ _ (pc_of h.2.1))
 ·exact CI_w
def encI (r:Rt) (p:Int):Iv:=if rOk r=true then madeI (divD (intD r.n) (intD r.d) p.toNat false) (divD (intD r.n) (intD r.d) p.toNat true)else wI0
theorem CI_enc (r:Rt) {p:Int} (hp:pcB p=true):CI (encI r p):=by
 unfold encI
 split
 ·exact CI_made (VD_div _ _ _ _ (pc_of hp)) (VD_div _ _ _ _ (pc_of hp))
 ·exact CI_w
theorem i50 (r:Rt) (p:Int) (hp:pcB p=true):Fn 42 G0 [.agg [.int .i64 r.n,.int .i64 r.d],.int .i64 p] (.agg (ivC (encI r p))) G0:=by
 have h15:=f54 r.n r.d
 have hR:encI r p=if rOk r=true then madeI (divD (intD r.n) (intD r.d) p.toNat false) (divD (intD r.n) (intD r.d) p.toNat true)else wI0:=rfl
 have hr:rOk ⟨r.n,r.d⟩=rOk r:=rfl
 rw[hr]at h15
 generalize encI r p=R at*
 by_cases h:rOk r=true
 ·rw[if_pos h]at hR
  rw[h]at h15
  obtain⟨q,rfl,hq⟩:=pcB_iff.1 hp
  rw[Int.toNat_natCast]at hR
  have hb:=rOk_in h
  unfold rIn at hb
  have n1:=v77 r.n (by omega)
  have n2:=v77 r.d (by omega)
  have vn:=VD_int r.n (by omega)
  have vd:=VD_int r.d (by omega)
  have n3:=v76 vn vd q hq
  have n4:=v78 vn vd q hq
  generalize divD (intD r.n) (intD r.d) q false=A at*
  generalize divD (intD r.n) (intD r.d) q true=B at*
  generalize intD r.n=N at*
  generalize intD r.d=D at*
  clear vn vd
  obtain⟨w1,w2,w3⟩:=N
  obtain⟨d1,d2,d3⟩:=D
  obtain⟨⟨a1,a2,a3⟩,e⟩:=A
  obtain⟨⟨b1,b2,b3⟩,f⟩:=B
  have n3:Fn 74 G0 [.agg [.bool w1,.sl .u32 w2,.int .i64 w3],.agg [.bool d1,.sl .u32 d2,.int .i64 d3],.int .i64 q] (dyV (⟨a1,a2,a3⟩,e)) G0:=n3
  have n4:Fn 75 G0 [.agg [.bool w1,.sl .u32 w2,.int .i64 w3],.agg [.bool d1,.sl .u32 d2,.int .i64 d3],.int .i64 q] (dyV (⟨b1,b2,b3⟩,f)) G0:=n4
  unfold madeI at hR
  simp only at hR
  refine fnT hT6 hmx Tryz.func42 rfl rfl (ex:= []) ?_
  conv=>whnf
  refine⟨[],_,h15,?_⟩
  conv=>whnf
  refine⟨[.gst JT],_,n1,?_⟩
  conv=>whnf
  refine⟨[.gst JT],_,n2,?_⟩
  conv=>whnf
  refine⟨[.gst JT],_,n3,?_⟩
  conv=>whnf
  (refine⟨by kernel_rfl,by kernel_rfl,?_⟩;(conv=>whnf))
  refine⟨[.gst JT],_,n1,?_⟩
  conv=>whnf
  refine⟨[.gst JT],_,n2,?_⟩
  conv=>whnf
  refine⟨[.gst JT],_,n4,?_⟩
  conv=>whnf
  (refine⟨by kernel_rfl,by kernel_rfl,?_⟩;(conv=>whnf))
  refine brI (fun k1=>?_) (fun k1=>?_)
  ·have k1:e≠0:=by simpa using k1
   rw[if_pos (.inl k1)]at hR
   subst hR
   conv=>whnf
   exact⟨leW,leG⟩
  have k1:e=0:=by simpa using k1
  conv=>whnf
  refine brI (fun k2=>?_) (fun k2=>?_)
  ·have k2:f≠0:=by simpa using k2
   rw[if_pos (.inr k2)]at hR
   subst hR
   conv=>whnf
   exact⟨leW,leG⟩
  have k2:f=0:=by simpa using k2
  rw[if_neg (by simp[k1,k2])]at hR
  subst hR
  conv=>whnf
  exact⟨lr rfl,leG⟩
 ·rw[if_neg h]at hR
  rw[show rOk r=false by simpa using h]at h15
  subst hR
  refine fnT hT6 hmx Tryz.func42 rfl rfl (ex:= []) ?_
  conv=>whnf
  refine⟨[],_,h15,?_⟩
  conv=>whnf
  exact⟨leW,leG⟩
def apI (fx:Int→Iv→Int→Iv) (k n:Int) (x y:Iv) (p:Int):Iv:=
 if k=3 then addI x y p else if k=4 then subI x y p else if k=5 then mulI x y p else if k=6 then divI x y p else if k=7 then negI x else if k=8 then powI x n p
 else if k=13 then sqrtI x p else if 9≤k∧k≤12 then fx k x p else wI0
def Ka (k:Int):Prop:=k=3∨k=4∨k=5∨k=6∨k=7∨k=8∨k=13
theorem CI_ap {fx:Int→Iv→Int→Iv} {k:Int} (hk:Ka k) (n:Int) {x:Iv} (y:Iv) (p:Int) (hx:RI x):CI (apI fx k n x y p):=by
 rcases hk with rfl|rfl|rfl|rfl|rfl|rfl|rfl
 ·exact CI_add _ _ _
 ·exact CI_add _ _ _
 ·exact CI_mul _ _ _
 ·exact CI_div _ _ _
 ·exact CI_neg hx
 ·exact CI_pow _ _ _
 ·exact CI_sqrt _ _
theorem i52 {fx:Int→Iv→Int→Iv} {k:Int} (hk:Ka k) (n:Int) (x y:Iv) (hx:RI x) (hy:RI y) (p:Int):Fn 25 G0 [.int .i64 k,.int .i64 n,.agg (ivC x),.agg (ivC y),.int .i64 p] (.agg (ivC (apI fx k n x y p))) G0:=by
 have h3:=i82 x y hx hy p
 have h4:=i83 x y hx hy p
 have h5:=i84 x y hx hy p
 have h6:=i85 x y hx hy p
 have h7:=i86 x hx
 have h8:=i87 x hx n p
 have h13:=i92 x hx p
 rcases hk with rfl|rfl|rfl|rfl|rfl|rfl|rfl
 ·have e:apI fx 3 n x y p=addI x y p:=rfl
  rw[e]
  generalize addI x y p=R at*
  clear h4 h5 h6 h7 h8 h13 hx hy
  obtain⟨⟨x1,x2,x3⟩,⟨x4,x5,x6⟩,x7⟩:=x
  obtain⟨⟨y1,y2,y3⟩,⟨y4,y5,y6⟩,y7⟩:=y
  obtain⟨⟨r1,r2,r3⟩,⟨r4,r5,r6⟩,r7⟩:=R
  have h3:Fn 26 G0 [.agg [.bool x1,.sl .u32 x2,.int .i64 x3,.bool x4,.sl .u32 x5,.int .i64 x6,.bool x7],.agg [.bool y1,.sl .u32 y2,.int .i64 y3,.bool y4,.sl .u32 y5,.int .i64 y6,.bool y7],.int .i64 p] (.agg [.bool r1,.sl .u32 r2,.int .i64 r3,.bool r4,.sl .u32 r5,.int .i64 r6,.bool r7]) G0:=h3
  show Fn 25 G0 [.int .i64 3,.int .i64 n,.agg [.bool x1,.sl .u32 x2,.int .i64 x3,.bool x4,.sl .u32 x5,.int .i64 x6,.bool x7],.agg [.bool y1,.sl .u32 y2,.int .i64 y3,.bool y4,.sl .u32 y5,.int .i64 y6,.bool y7],.int .i64 p] _ G0
  refine fnT hT6 hmx Tryz.func25 rfl rfl (ex:= []) ?_
  conv=>whnf
  refine⟨[.gst JT],_,h3,?_⟩
  conv=>whnf
  exact⟨lr rfl,leG⟩
 ·have e:apI fx 4 n x y p=subI x y p:=rfl
  rw[e]
  generalize subI x y p=R at*
  clear h3 h5 h6 h7 h8 h13 hx hy
  obtain⟨⟨x1,x2,x3⟩,⟨x4,x5,x6⟩,x7⟩:=x
  obtain⟨⟨y1,y2,y3⟩,⟨y4,y5,y6⟩,y7⟩:=y
  obtain⟨⟨r1,r2,r3⟩,⟨r4,r5,r6⟩,r7⟩:=R
  have h4:Fn 27 G0 [.agg [.bool x1,.sl .u32 x2,.int .i64 x3,.bool x4,.sl .u32 x5,.int .i64 x6,.bool x7],.agg [.bool y1,.sl .u32 y2,.int .i64 y3,.bool y4,.sl .u32 y5,.int .i64 y6,.bool y7],.int .i64 p] (.agg [.bool r1,.sl .u32 r2,.int .i64 r3,.bool r4,.sl .u32 r5,.int .i64 r6,.bool r7]) G0:=h4
  show Fn 25 G0 [.int .i64 4,.int .i64 n,.agg [.bool x1,.sl .u32 x2,.int .i64 x3,.bool x4,.sl .u32 x5,.int .i64 x6,.bool x7],.agg [.bool y1,.sl .u32 y2,.int .i64 y3,.bool y4,.sl .u32 y5,.int .i64 y6,.bool y7],.int .i64 p] _ G0
  refine fnT hT6 hmx Tryz.func25 rfl rfl (ex:= []) ?_
  conv=>whnf
  refine⟨[.gst JT],_,h4,?_⟩
  conv=>whnf
  exact⟨lr rfl,leG⟩
 ·have e:apI fx 5 n x y p=mulI x y p:=rfl
  rw[e]
  generalize mulI x y p=R at*
  clear h3 h4 h6 h7 h8 h13 hx hy
  obtain⟨⟨x1,x2,x3⟩,⟨x4,x5,x6⟩,x7⟩:=x
  obtain⟨⟨y1,y2,y3⟩,⟨y4,y5,y6⟩,y7⟩:=y
  obtain⟨⟨r1,r2,r3⟩,⟨r4,r5,r6⟩,r7⟩:=R
  have h5:Fn 28 G0 [.agg [.bool x1,.sl .u32 x2,.int .i64 x3,.bool x4,.sl .u32 x5,.int .i64 x6,.bool x7],.agg [.bool y1,.sl .u32 y2,.int .i64 y3,.bool y4,.sl .u32 y5,.int .i64 y6,.bool y7],.int .i64 p] (.agg [.bool r1,.sl .u32 r2,.int .i64 r3,.bool r4,.sl .u32 r5,.int .i64 r6,.bool r7]) G0:=h5
  show Fn 25 G0 [.int .i64 5,.int .i64 n,.agg [.bool x1,.sl .u32 x2,.int .i64 x3,.bool x4,.sl .u32 x5,.int .i64 x6,.bool x7],.agg [.bool y1,.sl .u32 y2,.int .i64 y3,.bool y4,.sl .u32 y5,.int .i64 y6,.bool y7],.int .i64 p] _ G0
  refine fnT hT6 hmx Tryz.func25 rfl rfl (ex:= []) ?_
  conv=>whnf
  refine⟨[.gst JT],_,h5,?_⟩
  conv=>whnf
  exact⟨lr rfl,leG⟩
 ·have e:apI fx 6 n x y p=divI x y p:=rfl
  rw[e]
  generalize divI x y p=R at*
  clear h3 h4 h5 h7 h8 h13 hx hy
  obtain⟨⟨x1,x2,x3⟩,⟨x4,x5,x6⟩,x7⟩:=x
  obtain⟨⟨y1,y2,y3⟩,⟨y4,y5,y6⟩,y7⟩:=y
  obtain⟨⟨r1,r2,r3⟩,⟨r4,r5,r6⟩,r7⟩:=R
  have h6:Fn 29 G0 [.agg [.bool x1,.sl .u32 x2,.int .i64 x3,.bool x4,.sl .u32 x5,.int .i64 x6,.bool x7],.agg [.bool y1,.sl .u32 y2,.int .i64 y3,.bool y4,.sl .u32 y5,.int .i64 y6,.bool y7],.int .i64 p] (.agg [.bool r1,.sl .u32 r2,.int .i64 r3,.bool r4,.sl .u32 r5,.int .i64 r6,.bool r7]) G0:=h6
  show Fn 25 G0 [.int .i64 6,.int .i64 n,.agg [.bool x1,.sl .u32 x2,.int .i64 x3,.bool x4,.sl .u32 x5,.int .i64 x6,.bool x7],.agg [.bool y1,.sl .u32 y2,.int .i64 y3,.bool y4,.sl .u32 y5,.int .i64 y6,.bool y7],.int .i64 p] _ G0
  refine fnT hT6 hmx Tryz.func25 rfl rfl (ex:= []) ?_
  conv=>whnf
  refine⟨[.gst JT],_,h6,?_⟩
  conv=>whnf
  exact⟨lr rfl,leG⟩
 ·have e:apI fx 7 n x y p=negI x:=rfl
  rw[e]
  generalize negI x=R at*
  clear h3 h4 h5 h6 h8 h13 hx hy
  obtain⟨⟨x1,x2,x3⟩,⟨x4,x5,x6⟩,x7⟩:=x
  obtain⟨⟨y1,y2,y3⟩,⟨y4,y5,y6⟩,y7⟩:=y
  obtain⟨⟨r1,r2,r3⟩,⟨r4,r5,r6⟩,r7⟩:=R
  have h7:Fn 30 [] [.agg [.bool x1,.sl .u32 x2,.int .i64 x3,.bool x4,.sl .u32 x5,.int .i64 x6,.bool x7]] (.agg [.bool r1,.sl .u32 r2,.int .i64 r3,.bool r4,.sl .u32 r5,.int .i64 r6,.bool r7]) []:=h7
  show Fn 25 G0 [.int .i64 7,.int .i64 n,.agg [.bool x1,.sl .u32 x2,.int .i64 x3,.bool x4,.sl .u32 x5,.int .i64 x6,.bool x7],.agg [.bool y1,.sl .u32 y2,.int .i64 y3,.bool y4,.sl .u32 y5,.int .i64 y6,.bool y7],.int .i64 p] _ G0
  refine fnT hT6 hmx Tryz.func25 rfl rfl (ex:= []) ?_
  conv=>whnf
  refine⟨[],_,h7,?_⟩
  conv=>whnf
  exact⟨lr rfl,leG⟩
 ·have e:apI fx 8 n x y p=powI x n p:=rfl
  rw[e]
  generalize powI x n p=R at*
  clear h3 h4 h5 h6 h7 h13 hx hy
  obtain⟨⟨x1,x2,x3⟩,⟨x4,x5,x6⟩,x7⟩:=x
  obtain⟨⟨y1,y2,y3⟩,⟨y4,y5,y6⟩,y7⟩:=y
  obtain⟨⟨r1,r2,r3⟩,⟨r4,r5,r6⟩,r7⟩:=R
  have h8:Fn 31 G0 [.agg [.bool x1,.sl .u32 x2,.int .i64 x3,.bool x4,.sl .u32 x5,.int .i64 x6,.bool x7],.int .i64 n,.int .i64 p] (.agg [.bool r1,.sl .u32 r2,.int .i64 r3,.bool r4,.sl .u32 r5,.int .i64 r6,.bool r7]) G0:=h8
  show Fn 25 G0 [.int .i64 8,.int .i64 n,.agg [.bool x1,.sl .u32 x2,.int .i64 x3,.bool x4,.sl .u32 x5,.int .i64 x6,.bool x7],.agg [.bool y1,.sl .u32 y2,.int .i64 y3,.bool y4,.sl .u32 y5,.int .i64 y6,.bool y7],.int .i64 p] _ G0
  refine fnT hT6 hmx Tryz.func25 rfl rfl (ex:= []) ?_
  conv=>whnf
  refine⟨[.gst JT],_,h8,?_⟩
  conv=>whnf
  exact⟨lr rfl,leG⟩
 ·have e:apI fx 13 n x y p=sqrtI x p:=rfl
  rw[e]
  generalize sqrtI x p=R at*
  clear h3 h4 h5 h6 h7 h8 hx hy
  obtain⟨⟨x1,x2,x3⟩,⟨x4,x5,x6⟩,x7⟩:=x
  obtain⟨⟨y1,y2,y3⟩,⟨y4,y5,y6⟩,y7⟩:=y
  obtain⟨⟨r1,r2,r3⟩,⟨r4,r5,r6⟩,r7⟩:=R
  have h13:Fn 32 G0 [.agg [.bool x1,.sl .u32 x2,.int .i64 x3,.bool x4,.sl .u32 x5,.int .i64 x6,.bool x7],.int .i64 p] (.agg [.bool r1,.sl .u32 r2,.int .i64 r3,.bool r4,.sl .u32 r5,.int .i64 r6,.bool r7]) G0:=h13
  show Fn 25 G0 [.int .i64 13,.int .i64 n,.agg [.bool x1,.sl .u32 x2,.int .i64 x3,.bool x4,.sl .u32 x5,.int .i64 x6,.bool x7],.agg [.bool y1,.sl .u32 y2,.int .i64 y3,.bool y4,.sl .u32 y5,.int .i64 y6,.bool y7],.int .i64 p] _ G0
  refine fnT hT6 hmx Tryz.func25 rfl rfl (ex:= []) ?_
  conv=>whnf
  refine⟨[.gst JT],_,h13,?_⟩
  conv=>whnf
  exact⟨lr rfl,leG⟩
end Go.Proofs.YtajnlbbgolmklaaGreatDoor

namespace Go.Proofs.YtajnlbbgolmklaaGreatDoor
open Go Go.Sx
set_option maxRecDepth 100000
set_option maxHeartbeats 8000000
abbrev EnvI:=List (Bytes×Iv)
def zI:Iv:=⟨d0,d0,false⟩
theorem zI_ri:RI zI:=⟨VD_zero.lb,VD_zero.lb,by decide,by decide⟩
def okI (x:Iv):Iv:=if viB x=true then x else wI0
mutual
def evE (fx:Int→Iv→Int→Iv) (p:Int) (es:EnvI):Ex→Iv×Bool
 | .mk k q s n l=>if k=1 then(encI q p,true)else if k=2 then(okI (mget .str s zI es),mhas .str s es)else evL fx p es k n l []
def evL (fx:Int→Iv→Int→Iv) (p:Int) (es:EnvI) (k n:Int):List Ex→List Iv→Iv×Bool
 | [],acc=>(apI fx k n (acc[0]?.getD zI) (acc[1]?.getD zI) p,true)
 |x::l,acc=>if(evE fx p es x).2=true then evL fx p es k n l (acc++ [(evE fx p es x).1])else((evE fx p es x).1,false)
end
theorem ev_num (fx:Int→Iv→Int→Iv) (p:Int) (es:EnvI) (r:Rt):evE fx p es (ratE r)=(encI r p,true):=by simp[ratE,evE]
theorem ev_var (fx:Int→Iv→Int→Iv) (p:Int) (es:EnvI) (s:Bytes):evE fx p es (varE s)=(okI (mget .str s zI es),mhas .str s es):=by simp[varE,evE]
theorem ev_one (fx:Int→Iv→Int→Iv) (p:Int) (es:EnvI) (k n:Int) (a:Ex) (h:k≠1∧k≠2):evE fx p es (opE k n [a])=if(evE fx p es a).2=true then(apI fx k n (evE fx p es a).1 zI p,true)else((evE fx p es a).1,false):=by
 simp[opE,evE,evL,h.1,h.2]
theorem ev_two (fx:Int→Iv→Int→Iv) (p:Int) (es:EnvI) (k n:Int) (a b:Ex) (h:k≠1∧k≠2):evE fx p es (opE k n [a,b])=if(evE fx p es a).2=true then(if(evE fx p es b).2=true then(apI fx k n (evE fx p es a).1 (evE fx p es b).1 p,true)else((evE fx p es b).1,false))else((evE fx p es a).1,false):=by
 simp[opE,evE,evL,h.1,h.2]
inductive VK (K:Int→Prop):Ex→Prop
 |num (r:Rt):rOk r=true→VK K (ratE r)
 |var (s:Bytes):nameB s=true→VK K (varE s)
 |un (k:Int) (a:Ex):K k→K1 k→VK K a→VK K (opE k 0 [a])
 |pow (n:Int) (a:Ex):K 8→0≤n→n≤16→VK K a→VK K (opE 8 n [a])
 |bin (k:Int) (a b:Ex):K k→K2 k→VK K a→VK K b→VK K (opE k 0 [a,b])
abbrev HvE (es:EnvI):Hp:= [(CBID,.gst JT),(1000001,.map .str .iv es)]
theorem leHvE {h h':Hp} {es:EnvI}:leH h h' (HvE es) (HvE es):=lh1 (bg0 rfl) (lh1 (bm0 rfl) lh0)
abbrev ioV (r:Iv×Bool):AV:= .tup [.agg (ivC r.1),.bool r.2]
def ApK (fx:Int→Iv→Int→Iv) (K:Int→Prop) (p:Int):Prop:=
 ∀k n x y,K k→RI x→RI y→Fn 25 G0 [.int .i64 k,.int .i64 n,.agg (ivC x),.agg (ivC y),.int .i64 p] (.agg (ivC (apI fx k n x y p))) G0∧CI (apI fx k n x y p)
def REs (es:EnvI):Prop:= ∀q∈es,RI q.2
theorem mget_ri {s:Bytes} {es:EnvI} (h:REs es):RI (mget .str s zI es):=by
 induction es with
 |nil=>exact zI_ri
 |cons q es ih=>
  obtain⟨y,v⟩:=q
  simp only[mget]
  cases keyB .str s y with
  |true=>exact h (y,v) List.mem_cons_self
  |false=>exact ih fun q hq=>h q (List.mem_cons_of_mem _ hq)
theorem okI_vi {x:Iv} (h:RI x):VI (okI x):=by
 unfold okI
 split
 ·rename_i hv;exact(viB_iff h).1 hv
 ·exact .inr rfl
theorem i26v (fx:Int→Iv→Int→Iv) (p:Int) (es:EnvI) (hes:REs es) (s:Bytes):Fn 57 (HvE es) [.agg (exC (varE s)),.mp 1000001,.int .i64 p] (ioV (evE fx p es (varE s))) (HvE es):=by
 rw[ev_var]
 have h51:=i51 _ (mget_ri (s:=s) hes)
 have h25:=i25
 rw[e25]at h25
 have hok:okI (mget .str s zI es)=if viB (mget .str s zI es)=true then mget .str s zI es else wI0:=rfl
 generalize okI (mget .str s zI es)=O at*
 generalize viB (mget .str s zI es)=V at*
 refine fnT hT6 hmx Tryz.func57 rfl rfl (ex:= []) ?_
 conv=>whnf
 refine cbI [] V h51 (fun h1=>?_) (fun h1=>?_)
 ·rw[if_pos h1]at hok
  subst hok
  conv=>whnf
  exact⟨lr rfl,leHvE⟩
 ·rw[if_neg (by rw[h1];simp)]at hok
  subst hok
  conv=>whnf
  refine⟨[],_,h25,?_⟩
  conv=>whnf
  exact⟨lr rfl,leHvE⟩
theorem i26n (fx:Int→Iv→Int→Iv) (p:Int) (hp:pcB p=true) (es:EnvI) (r:Rt):Fn 57 (HvE es) [.agg (exC (ratE r)),.mp 1000001,.int .i64 p] (ioV (evE fx p es (ratE r))) (HvE es):=by
 rw[ev_num]
 have h50:=i50 r p hp
 generalize encI r p=R at*
 obtain⟨⟨r1,r2,r3⟩,⟨r4,r5,r6⟩,r7⟩:=R
 have h50:Fn 42 G0 [.agg [.int .i64 r.n,.int .i64 r.d],.int .i64 p] (.agg [.bool r1,.sl .u32 r2,.int .i64 r3,.bool r4,.sl .u32 r5,.int .i64 r6,.bool r7]) G0:=h50
 refine fnT hT6 hmx Tryz.func57 rfl rfl (ex:= []) ?_
 conv=>whnf
 refine⟨[.gst JT],_,h50,?_⟩
 conv=>whnf
 exact⟨lr rfl,leHvE⟩
abbrev z7:List AV:= [.bool false,.sl .u32 [],.int .i64 0,.bool false,.sl .u32 [],.int .i64 0,.bool false]
theorem i26u (p:Int) (es:EnvI) (k n:Int) (hk:k≠1∧k≠2) (a:Ex) (A C:Iv) (ok:Bool) (ha:Fn 57 (HvE es) [.agg (exC a),.mp 1000001,.int .i64 p] (.tup [.agg (ivC A),.bool ok]) (HvE es))
 (hc:Fn 25 G0 [.int .i64 k,.int .i64 n,.agg (ivC A),.agg (ivC zI),.int .i64 p] (.agg (ivC C)) G0):
 Fn 57 (HvE es) [.agg (exC (opE k n [a])),.mp 1000001,.int .i64 p] (ioV (if ok=true then(C,true)else(A,false))) (HvE es):=by
 obtain⟨⟨a1,a2,a3⟩,⟨a4,a5,a6⟩,a7⟩:=A
 obtain⟨⟨c1,c2,c3⟩,⟨c4,c5,c6⟩,c7⟩:=C
 have hc:Fn 25 G0 [.int .i64 k,.int .i64 n,.agg [.bool a1,.sl .u32 a2,.int .i64 a3,.bool a4,.sl .u32 a5,.int .i64 a6,.bool a7],.agg z7,.int .i64 p] (.agg [.bool c1,.sl .u32 c2,.int .i64 c3,.bool c4,.sl .u32 c5,.int .i64 c6,.bool c7]) G0:=hc
 have hk1:(k==1)=false:=by simpa using hk.1
 have hk2:(k==2)=false:=by simpa using hk.2
 refine fnT hT6 hmx Tryz.func57 rfl rfl (ex:= []) ?_
 conv=>whnf
 refine brI (fun h1=>?_) (fun h1=>?_)
 ·have h1:(k==1)=true:=h1
  rw[hk1]at h1;cases h1
 conv=>whnf
 refine brI (fun h1=>?_) (fun h1=>?_)
 ·have h1:(k==2)=true:=h1
  rw[hk2]at h1;cases h1
 conv=>whnf
 refine⟨Nat,fun i=>i≤1∧(i=1→ok=true),fun i=> [(41,.int .i64 i)],fun i=> [(10,.cells (match i with
  |0=>z7++z7
  | _=> [.bool a1,.sl .u32 a2,.int .i64 a3,.bool a4,.sl .u32 a5,.int .i64 a6,.bool a7]++z7))],fun i=>1-i,0,⟨by simp,by simp⟩,?_,fun i hi=>?_⟩
 ·((conv=>whnf);refine And.intro ?_ ?_;repeat' first|refine lc ?_ ?_|exact la0|exact lr rfl|exact ln0|refine lh1 ?_ ?_|exact lh0|exact bf0|exact bd0|refine bc0 ?_|exact bm0 rfl|exact bb0 rfl|exact bg0 rfl|exact li0 rfl|refine lg0 ?_|refine lt0 ?_|fail)
 obtain⟨hi1,hi2⟩:=hi
 obtain rfl|rfl:i=0∨i=1:=by omega
 ·(refine⟨by kernel_rfl,?_⟩;(conv=>whnf))
  refine ix0 ?_
  conv=>whnf
  refine⟨[.gst JT,.map .str .iv es],_,ha,?_⟩
  conv=>whnf
  cases ok with
  |true=>
   conv=>whnf
   refine⟨⟨by omega,by omega⟩,?_⟩
   conv=>whnf
   refine⟨1,⟨by decide,fun _=>rfl⟩,by decide,?_⟩
   ((conv=>whnf);refine And.intro ?_ ?_;repeat' first|refine lc ?_ ?_|exact la0|exact lr rfl|exact ln0|refine lh1 ?_ ?_|exact lh0|exact bf0|exact bd0|refine bc0 ?_|exact bm0 rfl|exact bb0 rfl|exact bg0 rfl|exact li0 rfl|refine lg0 ?_|refine lt0 ?_|fail)
  |false=>
   conv=>whnf
   exact⟨lr rfl,leHvE⟩
 ·have hok:=hi2 rfl
  subst hok
  (refine⟨by kernel_rfl,?_⟩;(conv=>whnf))
  refine⟨⟨by omega,by omega⟩,?_⟩
  conv=>whnf
  refine⟨⟨by omega,by omega⟩,?_⟩
  conv=>whnf
  refine⟨[.gst JT],_,hc,?_⟩
  conv=>whnf
  exact⟨lr rfl,leHvE⟩
theorem i26b (p:Int) (es:EnvI) (k n:Int) (hk:k≠1∧k≠2) (a b:Ex) (A B C:Iv) (ok ok2:Bool) (ha:Fn 57 (HvE es) [.agg (exC a),.mp 1000001,.int .i64 p] (.tup [.agg (ivC A),.bool ok]) (HvE es))
 (hb:Fn 57 (HvE es) [.agg (exC b),.mp 1000001,.int .i64 p] (.tup [.agg (ivC B),.bool ok2]) (HvE es))
 (hc:Fn 25 G0 [.int .i64 k,.int .i64 n,.agg (ivC A),.agg (ivC B),.int .i64 p] (.agg (ivC C)) G0):
 Fn 57 (HvE es) [.agg (exC (opE k n [a,b])),.mp 1000001,.int .i64 p] (ioV (if ok=true then(if ok2=true then(C,true)else(B,false))else(A,false))) (HvE es):=by
 obtain⟨⟨a1,a2,a3⟩,⟨a4,a5,a6⟩,a7⟩:=A
 obtain⟨⟨b1,b2,b3⟩,⟨b4,b5,b6⟩,b7⟩:=B
 obtain⟨⟨c1,c2,c3⟩,⟨c4,c5,c6⟩,c7⟩:=C
 have hc:Fn 25 G0 [.int .i64 k,.int .i64 n,.agg [.bool a1,.sl .u32 a2,.int .i64 a3,.bool a4,.sl .u32 a5,.int .i64 a6,.bool a7],.agg [.bool b1,.sl .u32 b2,.int .i64 b3,.bool b4,.sl .u32 b5,.int .i64 b6,.bool b7],.int .i64 p] (.agg [.bool c1,.sl .u32 c2,.int .i64 c3,.bool c4,.sl .u32 c5,.int .i64 c6,.bool c7]) G0:=hc
 have hk1:(k==1)=false:=by simpa using hk.1
 have hk2:(k==2)=false:=by simpa using hk.2
 refine fnT hT6 hmx Tryz.func57 rfl rfl (ex:= []) ?_
 conv=>whnf
 refine brI (fun h1=>?_) (fun h1=>?_)
 ·have h1:(k==1)=true:=h1
  rw[hk1]at h1;cases h1
 conv=>whnf
 refine brI (fun h1=>?_) (fun h1=>?_)
 ·have h1:(k==2)=true:=h1
  rw[hk2]at h1;cases h1
 conv=>whnf
 refine⟨Nat,fun i=>i≤2∧(1≤i→ok=true)∧(i=2→ok2=true),fun i=> [(41,.int .i64 i)],fun i=> [(10,.cells (match i with
  |0=>z7++z7
  |1=> [.bool a1,.sl .u32 a2,.int .i64 a3,.bool a4,.sl .u32 a5,.int .i64 a6,.bool a7]++z7
  | _=> [.bool a1,.sl .u32 a2,.int .i64 a3,.bool a4,.sl .u32 a5,.int .i64 a6,.bool a7,.bool b1,.sl .u32 b2,.int .i64 b3,.bool b4,.sl .u32 b5,.int .i64 b6,.bool b7]))],fun i=>2-i,0,⟨by simp,by simp,by simp⟩,?_,fun i hi=>?_⟩
 ·((conv=>whnf);refine And.intro ?_ ?_;repeat' first|refine lc ?_ ?_|exact la0|exact lr rfl|exact ln0|refine lh1 ?_ ?_|exact lh0|exact bf0|exact bd0|refine bc0 ?_|exact bm0 rfl|exact bb0 rfl|exact bg0 rfl|exact li0 rfl|refine lg0 ?_|refine lt0 ?_|fail)
 obtain⟨hi1,hi2,hi3⟩:=hi
 obtain rfl|rfl|rfl:i=0∨i=1∨i=2:=by omega
 ·(refine⟨by kernel_rfl,?_⟩;(conv=>whnf))
  refine ix0 ?_
  conv=>whnf
  refine⟨[.gst JT,.map .str .iv es],_,ha,?_⟩
  conv=>whnf
  cases ok with
  |true=>
   conv=>whnf
   refine⟨⟨by omega,by omega⟩,?_⟩
   conv=>whnf
   refine⟨1,⟨by decide,fun _=>rfl,fun h=>by cases h⟩,by decide,?_⟩
   ((conv=>whnf);refine And.intro ?_ ?_;repeat' first|refine lc ?_ ?_|exact la0|exact lr rfl|exact ln0|refine lh1 ?_ ?_|exact lh0|exact bf0|exact bd0|refine bc0 ?_|exact bm0 rfl|exact bb0 rfl|exact bg0 rfl|exact li0 rfl|refine lg0 ?_|refine lt0 ?_|fail)
  |false=>
   conv=>whnf
   exact⟨lr rfl,leHvE⟩
 ·have hok:=hi2 (by decide)
  subst hok
  (refine⟨by kernel_rfl,?_⟩;(conv=>whnf))
  refine ix1 ?_
  conv=>whnf
  refine⟨[.gst JT,.map .str .iv es],_,hb,?_⟩
  conv=>whnf
  cases ok2 with
  |true=>
   conv=>whnf
   refine⟨⟨by omega,by omega⟩,?_⟩
   conv=>whnf
   refine⟨2,⟨by decide,fun _=>rfl,fun _=>rfl⟩,by decide,?_⟩
   ((conv=>whnf);refine And.intro ?_ ?_;repeat' first|refine lc ?_ ?_|exact la0|exact lr rfl|exact ln0|refine lh1 ?_ ?_|exact lh0|exact bf0|exact bd0|refine bc0 ?_|exact bm0 rfl|exact bb0 rfl|exact bg0 rfl|exact li0 rfl|refine lg0 ?_|refine lt0 ?_|fail)
  |false=>
   conv=>whnf
   exact⟨lr rfl,leHvE⟩
 ·have hok:=hi2 (by decide)
  have hok2:=hi3 rfl
  subst hok hok2
  (refine⟨by kernel_rfl,?_⟩;(conv=>whnf))
  refine⟨⟨by omega,by omega⟩,?_⟩
  conv=>whnf
  refine⟨⟨by omega,by omega⟩,?_⟩
  conv=>whnf
  refine⟨[.gst JT],_,hc,?_⟩
  conv=>whnf
  exact⟨lr rfl,leHvE⟩
theorem i26 {fx:Int→Iv→Int→Iv} {K:Int→Prop} {p:Int} (hp:pcB p=true) (hA:ApK fx K p) {es:EnvI} (hes:REs es) {e:Ex} (he:VK K e):
 Fn 57 (HvE es) [.agg (exC e),.mp 1000001,.int .i64 p] (ioV (evE fx p es e)) (HvE es)∧RI (evE fx p es e).1:=by
 induction he with
 |num r hr=>exact⟨i26n fx p hp es r,by rw[ev_num];exact(CI_enc r hp).ri⟩
 |var s hs=>exact⟨i26v fx p es hes s,by rw[ev_var];exact(okI_vi (mget_ri hes)).ri⟩
 |un k a hk h1 _ ih=>
  have hne:k≠1∧k≠2:=by unfold K1 at h1;omega
  obtain⟨c1,c2⟩:=hA k 0 _ zI hk ih.2 zI_ri
  rw[ev_one fx p es k 0 a hne]
  refine⟨i26u p es k 0 hne a _ _ _ ih.1 c1,?_⟩
  split
  ·exact c2.ri
  ·exact ih.2
 |pow n a hk h1 h2 _ ih=>
  obtain⟨c1,c2⟩:=hA 8 n _ zI hk ih.2 zI_ri
  rw[ev_one fx p es 8 n a (by decide)]
  refine⟨i26u p es 8 n (by decide) a _ _ _ ih.1 c1,?_⟩
  split
  ·exact c2.ri
  ·exact ih.2
 |bin k a b hk h1 _ _ ih1 ih2=>
  have hne:k≠1∧k≠2:=by unfold K2 at h1;omega
  obtain⟨c1,c2⟩:=hA k 0 _ _ hk ih1.2 ih2.2
  rw[ev_two fx p es k 0 a b hne]
  refine⟨i26b p es k 0 hne a b _ _ _ _ _ ih1.1 ih2.1 c1,?_⟩
  split
  ·split
   ·exact c2.ri
   ·exact ih2.2
  ·exact ih1.2
end Go.Proofs.YtajnlbbgolmklaaGreatDoor

namespace Go.Proofs.YtajnlbbgolmklaaGreatDoor
open Go Go.Sx
set_option maxRecDepth 100000
set_option maxHeartbeats 8000000
def envI:List Bytes→List Iv→EnvI→EnvI
 |n::ns,r::rs,es=>envI ns rs (mput .str n r es)
 | _,_,es=>es
theorem i23_no (ns:List Bytes) (rs:List Iv) (h: ¬(ns.length=rs.length∧ns.length≤200)) (h1:ns.length<9223372036854775808) (h2:rs.length<9223372036854775808):
 Fn 56 [] [.sl .str ns,.sl .iv rs] (.tup [.any,.bool false]) [(2000000,.dead)]:=by
 refine fnT hT6 hmx Tryz.func56 rfl rfl (ex:= [21]) ?_
 conv=>whnf
 refine brI (fun h3=>?_) (fun h3=>?_)
 ·conv=>whnf
  exact⟨lt0 (lc la0 (lc (lr rfl) ln0)),lh1 bd0 lh0⟩
 ·conv=>whnf
  refine brI (fun h4=>?_) (fun h4=>?_)
  ·conv=>whnf
   exact⟨lt0 (lc la0 (lc (lr rfl) ln0)),lh1 bd0 lh0⟩
  ·refine absurd ⟨?_,?_⟩ h
   ·have h3:((ns.length:Int) != (rs.length:Int))=false:=h3
    simp only[bne_eq_false_iff_eq]at h3;omega
   ·simp only[decide_eq_false_iff_not]at h4;omega
theorem envI_drop {ns:List Bytes} {rs:List Iv} {i:Nat} {n:Bytes} {r:Iv} (es:EnvI) (h1:ns[i]? =some n) (h2:rs[i]? =some r):envI (ns.drop i) (rs.drop i) es=envI (ns.drop (i+1)) (rs.drop (i+1)) (mput .str n r es):=by
 rw[drop_get h1,drop_get h2];rfl
theorem mputI_len (n:Bytes) (r:Iv): ∀es:EnvI,(mput .str n r es).length ≤es.length+1
 | []=>by simp[mput]
 |(y,v)::l=>by
  have:=mputI_len n r l
  simp only[mput]
  cases keyB .str n y
  ·simp only[cond_false,List.length_cons];omega
  ·simp only[cond_true,List.length_cons];omega
theorem i23 (ns:List Bytes) (rs:List Iv) (h:ns.length=rs.length∧ns.length≤200):
 Fn 56 [] [.sl .str ns,.sl .iv rs] (.tup [.mp 2000000,.bool (decide ((envI ns rs []).length =rs.length))]) [(2000000,.map .str .iv (envI ns rs []))]:=by
 refine fnT hT6 hmx Tryz.func56 rfl rfl (ex:= [21]) ?_
 conv=>whnf
 refine brI (fun h0=>?_) (fun h0=>?_)
 ·have h0:((ns.length:Int) != (rs.length:Int))=true:=h0
  refine absurd h.1 (fun e=>?_)
  rw[e]at h0;simp at h0
 conv=>whnf
 refine brI (fun h0=>absurd h.2 (by simp only[decide_eq_true_eq]at h0;omega)) (fun _=>?_)
 conv=>whnf
 refine⟨Nat×EnvI,fun x=>x.1≤ns.length∧envI (ns.drop x.1) (rs.drop x.1) x.2=envI ns rs []∧x.2.length≤x.1,fun x=> [(24,.int .i64 x.1)],fun x=> [(21,.map .str .iv x.2)],fun x=>ns.length-x.1,(0,[]),⟨by simp,rfl,by simp⟩,?_,fun x hx=>?_⟩
 ·((conv=>whnf);refine And.intro ?_ ?_;repeat' first|refine lc ?_ ?_|exact la0|exact lr rfl|exact ln0|refine lh1 ?_ ?_|exact lh0|exact bf0|exact bd0|refine bc0 ?_|exact bm0 rfl|exact bg0 rfl|exact li0 rfl|refine lg0 ?_|refine lt0 ?_|fail)
 (refine⟨by kernel_rfl,?_⟩;(conv=>whnf))
 obtain⟨i,es⟩:=x
 obtain⟨hx1,hx2,hx3⟩:=hx
 simp only at hx1 hx2 hx3
 refine brI (fun h3=>?_) (fun h3=>?_)
 ·conv=>whnf
  have h3:i<ns.length:=by simp only[decide_eq_true_eq]at h3;omega
  refine⟨⟨by omega,by omega⟩,fun n hn=>?_⟩
  have hn:ns[i]? =some n:=by simpa using hn
  conv=>whnf
  refine⟨⟨by omega,by simp only;omega⟩,fun r hr=>?_⟩
  have hr:rs[i]? =some r:=by simpa using hr
  rw[envI_drop es hn hr]at hx2
  conv=>whnf
  refine⟨(i+1,mput .str n r es),⟨by simp only;omega,hx2,by have:=mputI_len n r es;simp only;omega⟩,by show ns.length-(i+1)<ns.length-i;omega,?_⟩
  ((conv=>whnf);refine And.intro ?_ ?_;repeat' first|refine lc ?_ ?_|exact la0|exact lr rfl|exact ln0|refine lh1 ?_ ?_|exact lh0|exact bf0|exact bd0|refine bc0 ?_|exact bm0 rfl|exact bg0 rfl|exact li0 rfl|refine lg0 ?_|refine lt0 ?_|fail)
  exact ai0 (by rw[wI (by simp only;omega)];simp only;omega)
 ·conv=>whnf
  have h3: ¬i<ns.length:=by simp only[decide_eq_false_iff_not]at h3;omega
  rw[List.drop_of_length_le (by omega),List.drop_of_length_le (by omega)]at hx2
  have hx2:es=envI ns rs []:=hx2
  rw[←hx2]
  refine⟨lt0 (lc (lr rfl) (lc (ab0 ?_) ln0)),lh1 (bm0 rfl) lh0⟩
  rw[Bool.eq_iff_iff,decide_eq_true_eq]
  constructor
  ·intro h;have h:((es.length:Int)==(rs.length:Int))=true:=h;simp only[beq_iff_eq]at h;omega
  ·intro h;show((es.length:Int)==(rs.length:Int))=true;simp only[beq_iff_eq];omega
theorem mput_REs {n:Bytes} {r:Iv} (hr:RI r): ∀ {es:EnvI},REs es→REs (mput .str n r es)
 | [],_=>by
   intro q hq
   simp only[mput,List.mem_singleton]at hq
   subst hq;exact hr
 |(y,v)::l,h=>by
  have ih:=mput_REs (n:=n) hr (es:=l) fun q hq=>h q (List.mem_cons_of_mem _ hq)
  intro q hq
  simp only[mput]at hq
  cases hk:keyB .str n y with
  |true=>
   rw[hk,cond_true]at hq
   rcases List.mem_cons.1 hq with rfl|hq
   ·exact hr
   ·exact h q (List.mem_cons_of_mem _ hq)
  |false=>
   rw[hk,cond_false]at hq
   rcases List.mem_cons.1 hq with rfl|hq
   ·exact h _ List.mem_cons_self
   ·exact ih q hq
theorem envI_REs: ∀(ns:List Bytes) (rs:List Iv) (es:EnvI),(∀r∈rs,RI r)→REs es→REs (envI ns rs es)
 | [],_,es,_,h=>by cases ‹List Iv› <;>exact h
 | _::_,[],es,_,h=>h
 |n::ns,r::rs,es,hr,h=>envI_REs ns rs _ (fun x hx=>hr x (List.mem_cons_of_mem _ hx)) (mput_REs (hr r List.mem_cons_self) h)
def enB (ns:List Bytes) (xs:List Iv):Bool:=decide (ns.length=xs.length∧ns.length≤200∧(envI ns xs []).length =xs.length)
def valI (fx:Int→Iv→Int→Iv) (e:Ex) (ns:List Bytes) (xs:List Iv) (p:Int):Iv:=
 if(enB ns xs=true∧okT e=true∧pcB p=true)∧(evE fx p (envI ns xs []) e).2=true then(evE fx p (envI ns xs []) e).1 else wI0
theorem i8 {fx:Int→Iv→Int→Iv} {K:Int→Prop} (hA: ∀p,pcB p=true→ApK fx K p) (e:Ex) (he:Sm e) (hK:okT e=true→VK K e) (ns:List Bytes) (xs:List Iv) (hx: ∀x∈xs,RI x) (h1:ns.length<9223372036854775808) (h2:xs.length<9223372036854775808) (p:Int):
 Fn 16 G0 [.agg (exC e),.sl .str ns,.sl .iv xs,.int .i64 p] (.agg (ivC (valI fx e ns xs p))) G0:=by
 have h24:=f17 e he
 have h25:=i25
 rw[e25]at h25
 have hR:valI fx e ns xs p=if(enB ns xs=true∧okT e=true∧pcB p=true)∧(evE fx p (envI ns xs []) e).2=true then(evE fx p (envI ns xs []) e).1 else wI0:=rfl
 generalize valI fx e ns xs p=R at*
 by_cases hl:ns.length=xs.length∧ns.length≤200
 rotate_left
 ·rw[if_neg fun c=>hl (by have:=c.1.1;unfold enB at this;have:=of_decide_eq_true this;exact⟨this.1,this.2.1⟩)]at hR
  subst hR
  have h23:=i23_no ns xs hl h1 h2
  refine fnT hT6 hmx Tryz.func16 rfl rfl (ex:= []) ?_
  conv=>whnf
  refine⟨[],[.dead],_,h23,?_⟩
  conv=>whnf
  refine⟨[],_,h25,?_⟩
  conv=>whnf
  exact⟨lr rfl,leG⟩
 have h23:=i23 ns xs hl
 by_cases hen:(envI ns xs []).length =xs.length
 rotate_left
 ·rw[if_neg fun c=>hen (by have:=c.1.1;unfold enB at this;have:=of_decide_eq_true this;exact this.2.2)]at hR
  subst hR
  rw[decide_eq_false hen]at h23
  refine fnT hT6 hmx Tryz.func16 rfl rfl (ex:= []) ?_
  conv=>whnf
  refine⟨[],[.map .str .iv (envI ns xs [])],_,h23,?_⟩
  conv=>whnf
  refine⟨[],_,h25,?_⟩
  conv=>whnf
  exact⟨lr rfl,leG⟩
 have hE:enB ns xs=true:=by unfold enB;exact decide_eq_true ⟨hl.1,hl.2,hen⟩
 rw[decide_eq_true hen]at h23
 by_cases hok:okT e=true
 rotate_left
 ·rw[if_neg fun c=>hok c.1.2.1]at hR
  subst hR
  rw[show okT e=false by simpa using hok]at h24
  refine fnT hT6 hmx Tryz.func16 rfl rfl (ex:= []) ?_
  conv=>whnf
  refine⟨[],[.map .str .iv (envI ns xs [])],_,h23,?_⟩
  conv=>whnf
  refine⟨[],_,h24,?_⟩
  conv=>whnf
  refine⟨[],_,h25,?_⟩
  conv=>whnf
  exact⟨lr rfl,leG⟩
 rw[hok]at h24
 by_cases hp:pcB p=true
 rotate_left
 ·rw[if_neg fun c=>hp c.1.2.2]at hR
  subst hR
  have hp: ¬(8≤p∧p≤512):=fun c=>hp (by unfold pcB;simp;omega)
  refine fnT hT6 hmx Tryz.func16 rfl rfl (ex:= []) ?_
  conv=>whnf
  refine⟨[],[.map .str .iv (envI ns xs [])],_,h23,?_⟩
  conv=>whnf
  refine⟨[],_,h24,?_⟩
  conv=>whnf
  refine brI (fun k1=>?_) (fun k1=>?_)
  ·conv=>whnf
   refine⟨[],_,h25,?_⟩
   conv=>whnf
   exact⟨lr rfl,leG⟩
  have k1: ¬p<8:=of_decide_eq_false k1
  conv=>whnf
  refine brI (fun k2=>?_) (fun k2=>?_)
  ·conv=>whnf
   refine⟨[],_,h25,?_⟩
   conv=>whnf
   exact⟨lr rfl,leG⟩
  have k2: ¬512<p:=of_decide_eq_false k2
  omega
 have hp2:8≤p∧p≤512:=by unfold pcB at hp;simpa using hp
 obtain⟨h26,_⟩:=i26 hp (hA p hp) (envI_REs ns xs [] hx fun q hq=>by cases hq) (hK hok)
 obtain⟨V,hV⟩: ∃V,evE fx p (envI ns xs []) e=V:=⟨_,rfl⟩
 rw[hV]at hR h26
 obtain⟨⟨⟨v1,v2,v3⟩,⟨v4,v5,v6⟩,v7⟩,ok⟩:=V
 have h26:Fn 57 (HvE (envI ns xs [])) [.agg (exC e),.mp 1000001,.int .i64 p] (.tup [.agg [.bool v1,.sl .u32 v2,.int .i64 v3,.bool v4,.sl .u32 v5,.int .i64 v6,.bool v7],.bool ok]) (HvE (envI ns xs [])):=h26
 simp only at hR
 cases ok with
 |true=>
  rw[if_pos ⟨⟨hE,hok,hp⟩,rfl⟩]at hR
  subst hR
  refine fnT hT6 hmx Tryz.func16 rfl rfl (ex:= []) ?_
  conv=>whnf
  refine⟨[],[.map .str .iv (envI ns xs [])],_,h23,?_⟩
  conv=>whnf
  refine⟨[],_,h24,?_⟩
  conv=>whnf
  refine brI (fun k1=>?_) (fun k1=>?_)
  ·have k1:=of_decide_eq_true k1;omega
  conv=>whnf
  refine brI (fun k2=>?_) (fun k2=>?_)
  ·have k2:=of_decide_eq_true k2;omega
  conv=>whnf
  refine⟨[.gst JT,.map .str .iv (envI ns xs [])],_,h26.sw [(15,1000001)] rfl,?_⟩
  conv=>whnf
  exact⟨lr rfl,leG⟩
 |false=>
  rw[if_neg fun c=>by cases c.2]at hR
  subst hR
  refine fnT hT6 hmx Tryz.func16 rfl rfl (ex:= []) ?_
  conv=>whnf
  refine⟨[],[.map .str .iv (envI ns xs [])],_,h23,?_⟩
  conv=>whnf
  refine⟨[],_,h24,?_⟩
  conv=>whnf
  refine brI (fun k1=>?_) (fun k1=>?_)
  ·have k1:=of_decide_eq_true k1;omega
  conv=>whnf
  refine brI (fun k2=>?_) (fun k2=>?_)
  ·have k2:=of_decide_eq_true k2;omega
  conv=>whnf
  refine⟨[.gst JT,.map .str .iv (envI ns xs [])],_,h26.sw [(15,1000001)] rfl,?_⟩
  conv=>whnf
  refine⟨[],_,h25,?_⟩
  conv=>whnf
  exact⟨lr rfl,leG⟩
end Go.Proofs.YtajnlbbgolmklaaGreatDoor
