/-
  Intervals: less, more, magnitudes, Abs, Hull, Scale, Round, Sqrt, Width.
-/
import Derived.Test.YtajnlbbgolmklaaGreatDoorQYu
set_option linter.unusedVariables false
set_option linter.unusedSimpArgs false
namespace Go.Proofs.YtajnlbbgolmklaaGreatDoor
open Go Go.Sx
set_option maxRecDepth 100000
set_option maxHeartbeats 8000000
def lessD (a b:Dy):Dy:=if cmpD a b≤0 then a else b
def moreD (a b:Dy):Dy:=if 0≤cmpD a b then a else b
theorem i226 {a b:Dy} (ha:VD a) (hb:VD b):Fn 53 [] [.agg (dyC a),.agg (dyC b)] (.agg (dyC (lessD a b))) []:=by
 have h81:=v81 ha hb
 have hR:lessD a b=if cmpD a b≤0 then a else b:=rfl
 generalize lessD a b=R at*
 generalize cmpD a b=C at*
 clear ha hb
 refine fnT hT6 hmx Tryz.func53 rfl rfl (ex:= []) ?_
 conv=>whnf
 refine⟨[],_,h81,?_⟩
 conv=>whnf
 refine brI (fun h1=>?_) (fun h1=>?_)
 ·have h1:C≤0:=of_decide_eq_true h1
  rw[hR,if_pos h1]
  conv=>whnf
  exact⟨lr rfl,lh0⟩
 ·have h1: ¬C≤0:=of_decide_eq_false h1
  rw[hR,if_neg h1]
  conv=>whnf
  exact⟨lr rfl,lh0⟩
theorem i227 {a b:Dy} (ha:VD a) (hb:VD b):Fn 54 [] [.agg (dyC a),.agg (dyC b)] (.agg (dyC (moreD a b))) []:=by
 have h81:=v81 ha hb
 have hR:moreD a b=if 0≤cmpD a b then a else b:=rfl
 generalize moreD a b=R at*
 generalize cmpD a b=C at*
 clear ha hb
 refine fnT hT6 hmx Tryz.func54 rfl rfl (ex:= []) ?_
 conv=>whnf
 refine⟨[],_,h81,?_⟩
 conv=>whnf
 refine brI (fun h1=>?_) (fun h1=>?_)
 ·have h1:0≤C:=of_decide_eq_true h1
  rw[hR,if_pos h1]
  conv=>whnf
  exact⟨lr rfl,lh0⟩
 ·have h1: ¬0≤C:=of_decide_eq_false h1
  rw[hR,if_neg h1]
  conv=>whnf
  exact⟨lr rfl,lh0⟩
theorem VD_less {a b:Dy} (ha:VD a) (hb:VD b):VD (lessD a b):=by unfold lessD;split<;>assumption
theorem VD_more {a b:Dy} (ha:VD a) (hb:VD b):VD (moreD a b):=by unfold moreD;split<;>assumption
def magD (x:Iv):Dy:=moreD (absD x.lo) (absD x.hi)
def migD (x:Iv):Dy:=if sgnI x=0 then d0 else lessD (absD x.lo) (absD x.hi)
theorem VD_mag {x:Iv} (k:KI x):VD (magD x):=VD_more (VD_abs k.lo) (VD_abs k.hi)
theorem VD_mig {x:Iv} (k:KI x):VD (migD x):=by
 unfold migD
 split
 ·exact VD_zero
 ·exact VD_less (VD_abs k.lo) (VD_abs k.hi)
theorem leD0b {h h':Hp} {b:Bool}:leA h h' (.tup [.agg [.bool false,.nilsl,.int .i64 0],.bool b]) (.tup [.agg (dyC d0),.bool b]):=lt0 (lc leD0 (lc (lr rfl) ln0))
theorem i182 (x:Iv) (h:RI x):Fn 120 [] [.agg (ivC x)] (.tup [.agg (dyC (if kB x=true then magD x else d0)),.bool (kB x)]) []:=by
 have h126:=i126 [x] (by simp) (by simpa using h)
 rw[k1]at h126
 by_cases hk:kB x=true
 ·have k:=(kB_iff h).1 hk
  rw[if_pos hk,hk]
  rw[hk]at h126
  have n1:=v186 k.lo
  have n2:=v186 k.hi
  have n3:=i227 (VD_abs k.lo) (VD_abs k.hi)
  have hR:moreD (absD x.lo) (absD x.hi)=magD x:=rfl
  rw[hR]at n3
  generalize magD x=M at*
  generalize absD x.lo=a at*
  generalize absD x.hi=b at*
  clear k hk h hR
  refine fnT hT6 hmx Tryz.func120 rfl rfl (ex:= []) ?_
  conv=>whnf
  refine⟨[],_,h126,?_⟩
  conv=>whnf
  refine⟨[],_,n1,?_⟩
  conv=>whnf
  refine⟨[],_,n2,?_⟩
  conv=>whnf
  refine⟨[],_,n3,?_⟩
  conv=>whnf
  (refine⟨by kernel_rfl,by kernel_rfl,?_⟩;(conv=>whnf))
  exact⟨lr rfl,lh0⟩
 ·have hk:kB x=false:=by simpa using hk
  rw[hk,if_neg (by simp)]
  rw[hk]at h126
  clear hk h
  refine fnT hT6 hmx Tryz.func120 rfl rfl (ex:= []) ?_
  conv=>whnf
  refine⟨[],_,h126,?_⟩
  conv=>whnf
  exact⟨leD0b,lh0⟩
theorem i181 (x:Iv) (h:RI x):Fn 119 [] [.agg (ivC x)] (.tup [.agg (dyC (if kB x=true then migD x else d0)),.bool (kB x)]) []:=by
 have h126:=i126 [x] (by simp) (by simpa using h)
 have h134:=i134 x h
 rw[k1]at h126
 by_cases hk:kB x=true
 ·have k:=(kB_iff h).1 hk
  rw[if_pos hk,hk]
  rw[hk]at h126
  have n1:=v186 k.lo
  have n2:=v186 k.hi
  have n3:=i226 (VD_abs k.lo) (VD_abs k.hi)
  have hR:migD x=if sgnI x=0 then d0 else lessD (absD x.lo) (absD x.hi):=rfl
  generalize migD x=M at*
  generalize sgnI x=S at*
  generalize lessD (absD x.lo) (absD x.hi)=L at*
  generalize absD x.lo=a at*
  generalize absD x.hi=b at*
  clear k hk h
  refine fnT hT6 hmx Tryz.func119 rfl rfl (ex:= []) ?_
  conv=>whnf
  refine⟨[],_,h126,?_⟩
  conv=>whnf
  refine⟨[],_,h134,?_⟩
  conv=>whnf
  refine brI (fun h1=>?_) (fun h1=>?_)
  ·have h1:S=0:=by simpa using h1
   rw[if_pos h1]at hR
   subst hR
   conv=>whnf
   exact⟨leD0b,lh0⟩
  have h1:S≠0:=by simpa using h1
  rw[if_neg h1]at hR
  subst hR
  conv=>whnf
  refine⟨[],_,n1,?_⟩
  conv=>whnf
  refine⟨[],_,n2,?_⟩
  conv=>whnf
  refine⟨[],_,n3,?_⟩
  conv=>whnf
  (refine⟨by kernel_rfl,by kernel_rfl,?_⟩;(conv=>whnf))
  exact⟨lr rfl,lh0⟩
 ·have hk:kB x=false:=by simpa using hk
  rw[hk,if_neg (by simp)]
  rw[hk]at h126
  clear hk h h134
  refine fnT hT6 hmx Tryz.func119 rfl rfl (ex:= []) ?_
  conv=>whnf
  refine⟨[],_,h126,?_⟩
  conv=>whnf
  exact⟨leD0b,lh0⟩
def absI (x:Iv):Iv:=if kB x=true then⟨migD x,magD x,false⟩else wI0
theorem i137 (x:Iv) (h:RI x):Fn 79 [] [.agg (ivC x)] (.agg (ivC (absI x))) []:=by
 have h126:=i126 [x] (by simp) (by simpa using h)
 rw[k1]at h126
 have n1:=i181 x h
 have n2:=i182 x h
 have h25:=i25
 rw[e25]at h25
 have hR:absI x=if kB x=true then⟨migD x,magD x,false⟩else wI0:=rfl
 generalize absI x=R at*
 generalize kB x=K at*
 cases K with
 |true=>
  rw[if_pos rfl]at hR n1 n2
  generalize magD x=a at*
  generalize migD x=b at*
  subst hR
  clear h
  refine fnT hT6 hmx Tryz.func79 rfl rfl (ex:= []) ?_
  conv=>whnf
  refine⟨[],_,h126,?_⟩
  conv=>whnf
  refine⟨[],_,n1,?_⟩
  conv=>whnf
  refine⟨[],_,n2,?_⟩
  conv=>whnf
  exact⟨lr rfl,lh0⟩
 |false=>
  rw[if_neg (by simp)]at hR
  subst hR
  clear h n1 n2
  refine fnT hT6 hmx Tryz.func79 rfl rfl (ex:= []) ?_
  conv=>whnf
  refine⟨[],_,h126,?_⟩
  conv=>whnf
  refine⟨[],_,h25,?_⟩
  conv=>whnf
  exact⟨lr rfl,lh0⟩
def hullI (x y:Iv):Iv:=if(kB x&&kB y)=true then⟨lessD x.lo y.lo,moreD x.hi y.hi,false⟩else wI0
theorem i201 (x y:Iv) (hx:RI x) (hy:RI y):Fn 14 [] [.agg (ivC x),.agg (ivC y)] (.agg (ivC (hullI x y))) []:=by
 have h126:=i126 [x,y] (by simp) (by simpa using⟨hx,hy⟩)
 rw[k2]at h126
 have h25:=i25
 rw[e25]at h25
 have hR:hullI x y=if(kB x&&kB y)=true then⟨lessD x.lo y.lo,moreD x.hi y.hi,false⟩else wI0:=rfl
 generalize hullI x y=R at*
 by_cases hk:(kB x&&kB y)=true
 ·rw[hk]at h126
  rw[if_pos hk]at hR
  rw[Bool.and_eq_true]at hk
  have kx:=(kB_iff hx).1 hk.1
  have ky:=(kB_iff hy).1 hk.2
  have n1:=i226 kx.lo ky.lo
  have n2:=i227 kx.hi ky.hi
  generalize lessD x.lo y.lo=a at*
  generalize moreD x.hi y.hi=b at*
  subst hR
  clear kx ky hx hy hk
  refine fnT hT6 hmx Tryz.func14 rfl rfl (ex:= []) ?_
  conv=>whnf
  refine⟨[],_,h126,?_⟩
  conv=>whnf
  refine⟨[],_,n1,?_⟩
  conv=>whnf
  refine⟨[],_,n2,?_⟩
  conv=>whnf
  (refine⟨by kernel_rfl,by kernel_rfl,?_⟩;(conv=>whnf))
  exact⟨lr rfl,lh0⟩
 ·rw[if_neg hk]at hR
  rw[show(kB x&&kB y)=false by simpa using hk]at h126
  subst hR
  clear hx hy hk
  refine fnT hT6 hmx Tryz.func14 rfl rfl (ex:= []) ?_
  conv=>whnf
  refine⟨[],_,h126,?_⟩
  conv=>whnf
  refine⟨[],_,h25,?_⟩
  conv=>whnf
  exact⟨lr rfl,lh0⟩
theorem pos_le {a b:Dy} (h:0<sgnD a) (hc:cmpD a b≤0):b.neg=false:=by
 rw[zi_sgn a (min a.e b.e)]at h
 unfold cmpD ordZ at hc
 unfold ordZ at h
 have hb:0<zi b (min a.e b.e):=by
  generalize zi a (min a.e b.e)=x at*
  generalize zi b (min a.e b.e)=y at*
  split at h
  ·omega
  ·split at h
   ·split at hc
    ·omega
    ·split at hc<;>omega
   ·omega
 unfold zi at hb
 cases hn:b.neg with
 |false=>rfl
 |true=>rw[if_pos hn]at hb;omega
theorem pos_neg {a:Dy} (h:0<sgnD a):a.neg=false:=by
 unfold sgnD at h
 split at h
 ·omega
 ·cases hn:a.neg with
  |false=>rfl
  |true=>rw[if_pos hn]at h;omega
def sqrtI (x:Iv) (p:Int):Iv:=if kB x=true∧pcB p=true∧0<sgnD x.lo then madeI (sqrtD x.lo p.toNat false) (sqrtD x.hi p.toNat true)else wI0
theorem i92 (x:Iv) (h:RI x) (p:Int):Fn 32 G0 [.agg (ivC x),.int .i64 p] (.agg (ivC (sqrtI x p))) G0:=by
 have h126:=i126 [x] (by simp) (by simpa using h)
 rw[k1]at h126
 have h127:=i127 p
 have h25:=i25
 rw[e25]at h25
 have hR:sqrtI x p=if kB x=true∧pcB p=true∧0<sgnD x.lo then madeI (sqrtD x.lo p.toNat false) (sqrtD x.hi p.toNat true)else wI0:=rfl
 generalize sqrtI x p=R at*
 by_cases hk:kB x=true
 ·rw[hk]at h126
  have kx:=(kB_iff h).1 hk
  have h124:=v124 kx.lo
  by_cases hp:pcB p=true
  ·rw[hp]at h127
   by_cases hs:0<sgnD x.lo
   ·rw[if_pos ⟨hk,hp,hs⟩]at hR
    obtain⟨q,rfl,hq⟩:=pcB_iff.1 hp
    rw[Int.toNat_natCast]at hR
    have n1:=v145 kx.lo (pos_neg hs) q hq
    have n2:=v146 kx.hi (pos_le hs kx.le) q hq
    have n3:=i130 (sqrtD x.lo q false) (sqrtD x.hi q true)
    rw[←hR]at n3
    generalize sqrtD x.lo q false=a at*
    generalize sqrtD x.hi q true=b at*
    generalize sgnD x.lo=S at*
    clear kx h hk hR
    obtain⟨⟨a1,a2,a3⟩,e⟩:=a
    obtain⟨⟨b1,b2,b3⟩,f⟩:=b
    refine fnT hT6 hmx Tryz.func32 rfl rfl (ex:= []) ?_
    conv=>whnf
    refine⟨[],_,h126,?_⟩
    conv=>whnf
    refine⟨[],_,h127,?_⟩
    conv=>whnf
    refine⟨[],_,h124,?_⟩
    conv=>whnf
    refine brI (fun h1=>?_) (fun h1=>?_)
    ·have h1:S≤0:=of_decide_eq_true h1
     omega
    conv=>whnf
    refine⟨[.gst JT],_,n1,?_⟩
    conv=>whnf
    refine⟨[.gst JT],_,n2,?_⟩
    conv=>whnf
    refine⟨[],_,n3,?_⟩
    conv=>whnf
    exact⟨lr rfl,leG⟩
   ·rw[if_neg fun c=>hs c.2.2]at hR
    subst hR
    generalize sgnD x.lo=S at*
    clear h hk kx
    refine fnT hT6 hmx Tryz.func32 rfl rfl (ex:= []) ?_
    conv=>whnf
    refine⟨[],_,h126,?_⟩
    conv=>whnf
    refine⟨[],_,h127,?_⟩
    conv=>whnf
    refine⟨[],_,h124,?_⟩
    conv=>whnf
    refine brI (fun h1=>?_) (fun h1=>?_)
    rotate_left
    ·have h1: ¬S≤0:=of_decide_eq_false h1
     omega
    conv=>whnf
    refine⟨[],_,h25,?_⟩
    conv=>whnf
    exact⟨lr rfl,leG⟩
  ·rw[if_neg fun c=>hp c.2.1]at hR
   rw[show pcB p=false by simpa using hp]at h127
   subst hR
   clear h hk hp kx h124
   refine fnT hT6 hmx Tryz.func32 rfl rfl (ex:= []) ?_
   conv=>whnf
   refine⟨[],_,h126,?_⟩
   conv=>whnf
   refine⟨[],_,h127,?_⟩
   conv=>whnf
   refine⟨[],_,h25,?_⟩
   conv=>whnf
   exact⟨lr rfl,leG⟩
 ·rw[if_neg fun c=>hk c.1]at hR
  rw[show kB x=false by simpa using hk]at h126
  subst hR
  clear h hk
  refine fnT hT6 hmx Tryz.func32 rfl rfl (ex:= []) ?_
  conv=>whnf
  refine⟨[],_,h126,?_⟩
  conv=>whnf
  refine⟨[],_,h25,?_⟩
  conv=>whnf
  exact⟨lr rfl,leG⟩
end Go.Proofs.YtajnlbbgolmklaaGreatDoor

namespace Go.Proofs.YtajnlbbgolmklaaGreatDoor
open Go Go.Sx
set_option maxRecDepth 100000
set_option maxHeartbeats 8000000
def powGo (d:Dy) (p:Nat) (up:Bool):Nat→Dy×Int→Dy×Int
 |0,r=>r
 |k+1,r=>if r.2=0 then powGo d p up k (mulD r.1 d p up)else r
def powD (d:Dy) (n p:Nat) (up:Bool):Dy×Int:=powGo d p up (n-1) (roundD d p up)
theorem VD_powGo (d:Dy) (p:Nat) (up:Bool) (hp:8≤p∧p≤512): ∀k r,VD r.1→VD (powGo d p up k r).1
 |0,r,h=>h
 |k+1,r,h=>by
  simp only[powGo]
  split
  ·exact VD_powGo d p up hp k _ (VD_mul _ _ _ _ hp)
  ·exact h
theorem VD_pow (d:Dy) (n p:Nat) (up:Bool) (hp:8≤p∧p≤512):VD (powD d n p up).1:=VD_powGo d p up hp _ _ (VD_round _ _ _ hp)
theorem i183t {d:Dy} (hd:VD d) (n p:Nat) (hn:1≤n∧n≤16) (hp:8≤p∧p≤512):Fn 121 G0 [.agg (dyC d),.int .i64 n,.int .i64 p,.fn 122 [],.fn 72 []] (dyV (powD d n p true)) G0:=by
 have h0:=v184 hd p hp
 have hm: ∀a,VD a→Fn 72 G0 [.agg (dyC a),.agg (dyC d),.int .i64 p] (dyV (mulD a d p true)) G0:=fun a ha=>v133 ha hd p hp
 have hv0:=VD_round d true p hp
 obtain⟨R,hR⟩: ∃R,powD d n p true=R:=⟨_,rfl⟩
 rw[hR]
 unfold powD at hR
 generalize roundD d p true=r0 at*
 obtain⟨d1,d2,d3⟩:=d
 have hm: ∀a,VD a→Fn 72 G0 [.agg (dyC a),.agg [.bool d1,.sl .u32 d2,.int .i64 d3],.int .i64 p] (dyV (mulD a ⟨d1,d2,d3⟩ p true)) G0:=hm
 obtain⟨⟨a1,a2,a3⟩,e0⟩:=r0
 have h0:Fn 122 G0 [.agg [.bool d1,.sl .u32 d2,.int .i64 d3],.int .i64 p] (dyV (⟨a1,a2,a3⟩,e0)) G0:=h0
 show Fn 121 G0 [.agg [.bool d1,.sl .u32 d2,.int .i64 d3],.int .i64 n,.int .i64 p,.fn 122 [],.fn 72 []] _ G0
 refine fnT hT6 hmx Tryz.func121 rfl rfl (ex:= []) ?_
 conv=>whnf
 refine⟨[.gst JT],_,h0,?_⟩
 conv=>whnf
 refine⟨Nat×Dy×Int,fun s=>(1≤s.1∧s.1≤n)∧VD s.2.1∧powGo ⟨d1,d2,d3⟩ p true (n-s.1) s.2=R,fun s=> [(14,.int .i64 s.1),(13,.int .i64 s.2.2)],fun s=> [(12,.cells (dyC s.2.1))],fun s=>n-s.1,(1,⟨a1,a2,a3⟩,e0),?_,?_,fun s hs=>?_⟩
 ·exact⟨⟨by simp,hn.1⟩,hv0,hR⟩
 ·((conv=>whnf);refine And.intro ?_ ?_;repeat' first|refine lc ?_ ?_|exact la0|exact lr rfl|exact ln0|refine lh1 ?_ ?_|exact lh0|exact bf0|exact bd0|refine bc0 ?_|exact bm0 rfl|exact bb0 rfl|exact bg0 rfl|exact li0 rfl|refine lg0 ?_|refine lt0 ?_|fail)
 obtain⟨k,⟨r1,r2,r3⟩,e⟩:=s
 obtain⟨⟨h1,h2⟩,h3,h4⟩:=hs
 simp only at h1 h2 h3 h4
 (refine⟨by kernel_rfl,?_⟩;(conv=>whnf))
 refine brI (fun k1=>?_) (fun k1=>?_)
 ·have k1:k<n:=by simp only[decide_eq_true_eq]at k1;omega
  obtain⟨j,hj⟩: ∃j,n-k=j+1:=⟨n-k-1,by omega⟩
  rw[hj]at h4
  simp only[powGo]at h4
  conv=>whnf
  refine brI (fun k2=>?_) (fun k2=>?_)
  ·have k2:e=0:=by simpa using k2
   rw[if_pos k2]at h4
   have hmm:Fn 72 G0 [.agg [.bool r1,.sl .u32 r2,.int .i64 r3],.agg [.bool d1,.sl .u32 d2,.int .i64 d3],.int .i64 p] (dyV (mulD ⟨r1,r2,r3⟩ ⟨d1,d2,d3⟩ p true)) G0:=hm _ h3
   have hvm:=VD_mul ⟨r1,r2,r3⟩ ⟨d1,d2,d3⟩ true p hp
   generalize mulD ⟨r1,r2,r3⟩ ⟨d1,d2,d3⟩ p true=M at*
   obtain⟨⟨m1,m2,m3⟩,f⟩:=M
   conv=>whnf
   refine⟨[.gst JT],_,hmm,?_⟩
   conv=>whnf
   refine⟨(k+1,⟨m1,m2,m3⟩,f),⟨⟨by simp only;omega,by simp only;omega⟩,hvm,by simp only;rw[show n-(k+1)=j by omega];exact h4⟩,by show n-(k+1)<n-k;omega,?_⟩
   ((conv=>whnf);refine And.intro ?_ ?_;repeat' first|refine lc ?_ ?_|exact la0|exact lr rfl|exact ln0|refine lh1 ?_ ?_|exact lh0|exact bf0|exact bd0|refine bc0 ?_|exact bm0 rfl|exact bb0 rfl|exact bg0 rfl|exact li0 rfl|refine lg0 ?_|refine lt0 ?_|fail)
   exact ai0 (by rw[wI (by simp only;omega)];simp only;omega)
  ·have k2:e≠0:=by simpa using k2
   rw[if_neg k2]at h4
   subst h4
   conv=>whnf
   exact⟨lr rfl,leG⟩
 ·have k1: ¬k<n:=by simp only[decide_eq_false_iff_not]at k1;omega
  rw[show n-k=0 by omega]at h4
  simp only[powGo]at h4
  subst h4
  conv=>whnf
  exact⟨lr rfl,leG⟩
theorem i183f {d:Dy} (hd:VD d) (n p:Nat) (hn:1≤n∧n≤16) (hp:8≤p∧p≤512):Fn 121 G0 [.agg (dyC d),.int .i64 n,.int .i64 p,.fn 123 [],.fn 71 []] (dyV (powD d n p false)) G0:=by
 have h0:=v185 hd p hp
 have hm: ∀a,VD a→Fn 71 G0 [.agg (dyC a),.agg (dyC d),.int .i64 p] (dyV (mulD a d p false)) G0:=fun a ha=>v132 ha hd p hp
 have hv0:=VD_round d false p hp
 obtain⟨R,hR⟩: ∃R,powD d n p false=R:=⟨_,rfl⟩
 rw[hR]
 unfold powD at hR
 generalize roundD d p false=r0 at*
 obtain⟨d1,d2,d3⟩:=d
 have hm: ∀a,VD a→Fn 71 G0 [.agg (dyC a),.agg [.bool d1,.sl .u32 d2,.int .i64 d3],.int .i64 p] (dyV (mulD a ⟨d1,d2,d3⟩ p false)) G0:=hm
 obtain⟨⟨a1,a2,a3⟩,e0⟩:=r0
 have h0:Fn 123 G0 [.agg [.bool d1,.sl .u32 d2,.int .i64 d3],.int .i64 p] (dyV (⟨a1,a2,a3⟩,e0)) G0:=h0
 show Fn 121 G0 [.agg [.bool d1,.sl .u32 d2,.int .i64 d3],.int .i64 n,.int .i64 p,.fn 123 [],.fn 71 []] _ G0
 refine fnT hT6 hmx Tryz.func121 rfl rfl (ex:= []) ?_
 conv=>whnf
 refine⟨[.gst JT],_,h0,?_⟩
 conv=>whnf
 refine⟨Nat×Dy×Int,fun s=>(1≤s.1∧s.1≤n)∧VD s.2.1∧powGo ⟨d1,d2,d3⟩ p false (n-s.1) s.2=R,fun s=> [(14,.int .i64 s.1),(13,.int .i64 s.2.2)],fun s=> [(12,.cells (dyC s.2.1))],fun s=>n-s.1,(1,⟨a1,a2,a3⟩,e0),?_,?_,fun s hs=>?_⟩
 ·exact⟨⟨by simp,hn.1⟩,hv0,hR⟩
 ·((conv=>whnf);refine And.intro ?_ ?_;repeat' first|refine lc ?_ ?_|exact la0|exact lr rfl|exact ln0|refine lh1 ?_ ?_|exact lh0|exact bf0|exact bd0|refine bc0 ?_|exact bm0 rfl|exact bb0 rfl|exact bg0 rfl|exact li0 rfl|refine lg0 ?_|refine lt0 ?_|fail)
 obtain⟨k,⟨r1,r2,r3⟩,e⟩:=s
 obtain⟨⟨h1,h2⟩,h3,h4⟩:=hs
 simp only at h1 h2 h3 h4
 (refine⟨by kernel_rfl,?_⟩;(conv=>whnf))
 refine brI (fun k1=>?_) (fun k1=>?_)
 ·have k1:k<n:=by simp only[decide_eq_true_eq]at k1;omega
  obtain⟨j,hj⟩: ∃j,n-k=j+1:=⟨n-k-1,by omega⟩
  rw[hj]at h4
  simp only[powGo]at h4
  conv=>whnf
  refine brI (fun k2=>?_) (fun k2=>?_)
  ·have k2:e=0:=by simpa using k2
   rw[if_pos k2]at h4
   have hmm:Fn 71 G0 [.agg [.bool r1,.sl .u32 r2,.int .i64 r3],.agg [.bool d1,.sl .u32 d2,.int .i64 d3],.int .i64 p] (dyV (mulD ⟨r1,r2,r3⟩ ⟨d1,d2,d3⟩ p false)) G0:=hm _ h3
   have hvm:=VD_mul ⟨r1,r2,r3⟩ ⟨d1,d2,d3⟩ false p hp
   generalize mulD ⟨r1,r2,r3⟩ ⟨d1,d2,d3⟩ p false=M at*
   obtain⟨⟨m1,m2,m3⟩,f⟩:=M
   conv=>whnf
   refine⟨[.gst JT],_,hmm,?_⟩
   conv=>whnf
   refine⟨(k+1,⟨m1,m2,m3⟩,f),⟨⟨by simp only;omega,by simp only;omega⟩,hvm,by simp only;rw[show n-(k+1)=j by omega];exact h4⟩,by show n-(k+1)<n-k;omega,?_⟩
   ((conv=>whnf);refine And.intro ?_ ?_;repeat' first|refine lc ?_ ?_|exact la0|exact lr rfl|exact ln0|refine lh1 ?_ ?_|exact lh0|exact bf0|exact bd0|refine bc0 ?_|exact bm0 rfl|exact bb0 rfl|exact bg0 rfl|exact li0 rfl|refine lg0 ?_|refine lt0 ?_|fail)
   exact ai0 (by rw[wI (by simp only;omega)];simp only;omega)
  ·have k2:e≠0:=by simpa using k2
   rw[if_neg k2]at h4
   subst h4
   conv=>whnf
   exact⟨lr rfl,leG⟩
 ·have k1: ¬k<n:=by simp only[decide_eq_false_iff_not]at k1;omega
  rw[show n-k=0 by omega]at h4
  simp only[powGo]at h4
  subst h4
  conv=>whnf
  exact⟨lr rfl,leG⟩
def endD (d:Dy) (n p:Nat) (up:Bool):Dy×Int:=if sgnD d<0 then(negD (powD (negD d) n p (!up)).1,(powD (negD d) n p (!up)).2)else powD d n p up
theorem sgn_neg (d:Dy):sgnD (negD d)= -sgnD d:=by
 unfold sgnD negD
 by_cases h:nm d=0
 ·rw[if_pos h,if_pos h];rfl
 ·rw[if_neg h,if_neg h]
  have h2:nm ⟨!d.neg,d.m,d.e⟩=nm d:=rfl
  rw[h2,if_neg h]
  cases d.neg<;>rfl
theorem i138p {d:Dy} (hd:VD d) (hs: ¬sgnD d<0) (n p:Nat) (hn:1≤n∧n≤16) (hp:8≤p∧p≤512) (up:Bool):Fn 80 G0 [.agg (dyC d),.int .i64 n,.int .i64 p,.bool up] (dyV (powD d n p up)) G0:=by
 have h1:=i183t hd n p hn hp
 have h2:=i183f hd n p hn hp
 have h124:=v124 hd
 generalize powD d n p=F at*
 generalize sgnD d=S at*
 clear hd
 obtain⟨d1,d2,d3⟩:=d
 have h124:Fn 81 [] [.agg [.bool d1,.sl .u32 d2,.int .i64 d3]] (.int .i64 S) []:=h124
 cases up with
 |true=>
  generalize F true=R at*
  obtain⟨⟨r1,r2,r3⟩,e⟩:=R
  have h1:Fn 121 G0 [.agg [.bool d1,.sl .u32 d2,.int .i64 d3],.int .i64 n,.int .i64 p,.fn 122 [],.fn 72 []] (dyV (⟨r1,r2,r3⟩,e)) G0:=h1
  show Fn 80 G0 [.agg [.bool d1,.sl .u32 d2,.int .i64 d3],.int .i64 n,.int .i64 p,.bool true] _ G0
  refine fnT hT6 hmx Tryz.func80 rfl rfl (ex:= []) ?_
  conv=>whnf
  refine⟨[],_,h124,?_⟩
  conv=>whnf
  refine brI (fun k1=>?_) (fun k1=>?_)
  ·exact absurd (of_decide_eq_true k1) hs
  conv=>whnf
  refine⟨[.gst JT],_,h1,?_⟩
  conv=>whnf
  exact⟨lr rfl,leG⟩
 |false=>
  generalize F false=R at*
  obtain⟨⟨r1,r2,r3⟩,e⟩:=R
  have h2:Fn 121 G0 [.agg [.bool d1,.sl .u32 d2,.int .i64 d3],.int .i64 n,.int .i64 p,.fn 123 [],.fn 71 []] (dyV (⟨r1,r2,r3⟩,e)) G0:=h2
  show Fn 80 G0 [.agg [.bool d1,.sl .u32 d2,.int .i64 d3],.int .i64 n,.int .i64 p,.bool false] _ G0
  refine fnT hT6 hmx Tryz.func80 rfl rfl (ex:= []) ?_
  conv=>whnf
  refine⟨[],_,h124,?_⟩
  conv=>whnf
  refine brI (fun k1=>?_) (fun k1=>?_)
  ·exact absurd (of_decide_eq_true k1) hs
  conv=>whnf
  refine⟨[.gst JT],_,h2,?_⟩
  conv=>whnf
  exact⟨lr rfl,leG⟩
theorem i138 {d:Dy} (hd:VD d) (n p:Nat) (hn:1≤n∧n≤16) (hp:8≤p∧p≤512) (up:Bool):Fn 80 G0 [.agg (dyC d),.int .i64 n,.int .i64 p,.bool up] (dyV (endD d n p up)) G0:=by
 by_cases hs:sgnD d<0
 ·have hR:endD d n p up=(negD (powD (negD d) n p (!up)).1,(powD (negD d) n p (!up)).2):=by unfold endD;rw[if_pos hs]
  rw[hR]
  have h124:=v124 hd
  have h135:Fn 76 [] [.agg (dyC d)] (.agg (dyC (negD d))) []:=v135 hd
  have h138:=i138p (VD_neg hd) (by rw[sgn_neg];omega) n p hn hp (!up)
  have hv:=VD_pow (negD d) n p (!up) hp
  have h135b:Fn 76 [] [.agg (dyC (powD (negD d) n p (!up)).1)] (.agg (dyC (negD (powD (negD d) n p (!up)).1))) []:=v135 hv
  generalize powD (negD d) n p (!up)=P at*
  generalize negD d=N at*
  generalize sgnD d=S at*
  generalize negD P.1=Q at*
  clear hd hv hR
  obtain⟨d1,d2,d3⟩:=d
  obtain⟨n1,n2,n3⟩:=N
  obtain⟨q1,q2,q3⟩:=Q
  obtain⟨⟨r1,r2,r3⟩,e⟩:=P
  have h124:Fn 81 [] [.agg [.bool d1,.sl .u32 d2,.int .i64 d3]] (.int .i64 S) []:=h124
  have h135:Fn 76 [] [.agg [.bool d1,.sl .u32 d2,.int .i64 d3]] (.agg [.bool n1,.sl .u32 n2,.int .i64 n3]) []:=h135
  have h135b:Fn 76 [] [.agg [.bool r1,.sl .u32 r2,.int .i64 r3]] (.agg [.bool q1,.sl .u32 q2,.int .i64 q3]) []:=h135b
  have h138:Fn 80 G0 [.agg [.bool n1,.sl .u32 n2,.int .i64 n3],.int .i64 n,.int .i64 p,.bool (!up)] (dyV (⟨r1,r2,r3⟩,e)) G0:=h138
  show Fn 80 G0 [.agg [.bool d1,.sl .u32 d2,.int .i64 d3],.int .i64 n,.int .i64 p,.bool up] _ G0
  refine fnT hT6 hmx Tryz.func80 rfl rfl (ex:= []) ?_
  conv=>whnf
  refine⟨[],_,h124,?_⟩
  conv=>whnf
  refine brI (fun k1=>?_) (fun k1=>?_)
  rotate_left
  ·exact absurd hs (of_decide_eq_false k1)
  conv=>whnf
  refine⟨[],_,h135,?_⟩
  conv=>whnf
  refine⟨[.gst JT],_,h138,?_⟩
  conv=>whnf
  refine⟨[],_,h135b,?_⟩
  conv=>whnf
  exact⟨lr rfl,leG⟩
 ·have hR:endD d n p up=powD d n p up:=by unfold endD;rw[if_neg hs]
  rw[hR]
  exact i138p hd hs n p hn hp up
theorem VD_end (d:Dy) (n p:Nat) (up:Bool) (hp:8≤p∧p≤512):VD (endD d n p up).1:=by
 unfold endD
 split
 ·exact VD_neg (VD_pow _ _ _ _ hp)
 ·exact VD_pow _ _ _ _ hp
def pwK (x:Iv) (n p:Nat):Iv:=madeI (endD x.lo n p false) (endD x.hi n p true)
def powI (x:Iv) (n p:Int):Iv:=
 if kB x=true∧pcB p=true∧0≤n∧n≤16 then(if n=0 then pointI (intD 1)else pwK (if n % 2=0 then absI x else x) n.toNat p.toNat)else wI0
theorem absI_k {x:Iv} (hk:kB x=true):absI x=⟨migD x,magD x,false⟩:=by unfold absI;rw[if_pos hk]
theorem VD_int (n:Int) (h: -4611686018427387904≤n∧n≤4611686018427387904):VD (intD n):=by
 unfold intD
 have hb:bl n.natAbs≤64:=bl_le.2 (by show n.natAbs<18446744073709551616;omega)
 exact VD_cnN (irN_of (by omega) (by omega) (by omega))
theorem i87 (x:Iv) (h:RI x) (n p:Int):Fn 31 G0 [.agg (ivC x),.int .i64 n,.int .i64 p] (.agg (ivC (powI x n p))) G0:=by
 have h126:=i126 [x] (by simp) (by simpa using h)
 rw[k1]at h126
 have h127:=i127 p
 have h25:=i25
 rw[e25]at h25
 have hR:powI x n p=if kB x=true∧pcB p=true∧0≤n∧n≤16 then(if n=0 then pointI (intD 1)else pwK (if n % 2=0 then absI x else x) n.toNat p.toNat)else wI0:=rfl
 generalize powI x n p=R at*
 by_cases hk:kB x=true
 rotate_left
 ·rw[if_neg fun c=>hk c.1]at hR
  rw[show kB x=false by simpa using hk]at h126
  subst hR
  clear h hk
  obtain⟨⟨x1,x2,x3⟩,⟨x4,x5,x6⟩,x7⟩:=x
  show Fn 31 G0 [.agg [.bool x1,.sl .u32 x2,.int .i64 x3,.bool x4,.sl .u32 x5,.int .i64 x6,.bool x7],.int .i64 n,.int .i64 p] _ G0
  refine fnT hT6 hmx Tryz.func31 rfl rfl (ex:= []) ?_
  conv=>whnf
  refine⟨[],_,h126,?_⟩
  conv=>whnf
  refine⟨[],_,h25,?_⟩
  conv=>whnf
  exact⟨lr rfl,leG⟩
 rw[hk]at h126
 by_cases hp:pcB p=true
 rotate_left
 ·rw[if_neg fun c=>hp c.2.1]at hR
  rw[show pcB p=false by simpa using hp]at h127
  subst hR
  clear h hk
  obtain⟨⟨x1,x2,x3⟩,⟨x4,x5,x6⟩,x7⟩:=x
  show Fn 31 G0 [.agg [.bool x1,.sl .u32 x2,.int .i64 x3,.bool x4,.sl .u32 x5,.int .i64 x6,.bool x7],.int .i64 n,.int .i64 p] _ G0
  refine fnT hT6 hmx Tryz.func31 rfl rfl (ex:= []) ?_
  conv=>whnf
  refine⟨[],_,h126,?_⟩
  conv=>whnf
  refine⟨[],_,h127,?_⟩
  conv=>whnf
  refine⟨[],_,h25,?_⟩
  conv=>whnf
  exact⟨lr rfl,leG⟩
 rw[hp]at h127
 by_cases hn:0≤n∧n≤16
 rotate_left
 ·rw[if_neg fun c=>hn c.2.2]at hR
  subst hR
  clear h hk
  obtain⟨⟨x1,x2,x3⟩,⟨x4,x5,x6⟩,x7⟩:=x
  show Fn 31 G0 [.agg [.bool x1,.sl .u32 x2,.int .i64 x3,.bool x4,.sl .u32 x5,.int .i64 x6,.bool x7],.int .i64 n,.int .i64 p] _ G0
  refine fnT hT6 hmx Tryz.func31 rfl rfl (ex:= []) ?_
  conv=>whnf
  refine⟨[],_,h126,?_⟩
  conv=>whnf
  refine⟨[],_,h127,?_⟩
  conv=>whnf
  refine brI (fun k1=>?_) (fun k1=>?_)
  ·conv=>whnf
   refine⟨[],_,h25,?_⟩
   conv=>whnf
   exact⟨lr rfl,leG⟩
  have k1: ¬n<0:=of_decide_eq_false k1
  conv=>whnf
  refine brI (fun k2=>?_) (fun k2=>?_)
  ·conv=>whnf
   refine⟨[],_,h25,?_⟩
   conv=>whnf
   exact⟨lr rfl,leG⟩
  have k2: ¬16<n:=of_decide_eq_false k2
  omega
 rw[if_pos ⟨hk,hp,hn⟩]at hR
 obtain⟨N,rfl⟩:=Int.eq_ofNat_of_zero_le hn.1
 by_cases h0:N=0
 ·subst h0
  rw[if_pos (by rfl)]at hR
  have h77:=v77 1 (by decide)
  have h136:=i136 (VD_int 1 (by decide))
  generalize intD 1=I1 at*
  rw[←hR]at h136
  clear h hk hR
  obtain⟨⟨x1,x2,x3⟩,⟨x4,x5,x6⟩,x7⟩:=x
  obtain⟨⟨r1,r2,r3⟩,⟨r4,r5,r6⟩,r7⟩:=R
  obtain⟨i1,i2,i3⟩:=I1
  have h136:Fn 77 [] [.agg [.bool i1,.sl .u32 i2,.int .i64 i3]] (.agg [.bool r1,.sl .u32 r2,.int .i64 r3,.bool r4,.sl .u32 r5,.int .i64 r6,.bool r7]) []:=h136
  show Fn 31 G0 [.agg [.bool x1,.sl .u32 x2,.int .i64 x3,.bool x4,.sl .u32 x5,.int .i64 x6,.bool x7],.int .i64 0,.int .i64 p] _ G0
  refine fnT hT6 hmx Tryz.func31 rfl rfl (ex:= []) ?_
  conv=>whnf
  refine⟨[],_,h126,?_⟩
  conv=>whnf
  refine⟨[],_,h127,?_⟩
  conv=>whnf
  refine⟨[.gst JT],_,h77,?_⟩
  conv=>whnf
  refine⟨[],_,h136,?_⟩
  conv=>whnf
  exact⟨lr rfl,leG⟩
 rw[if_neg (by omega),Int.toNat_natCast]at hR
 have kx:=(kB_iff h).1 hk
 obtain⟨q,rfl,hq⟩:=pcB_iff.1 hp
 rw[Int.toNat_natCast]at hR
 have hcase: ∀y:Iv,VD y.lo→VD y.hi→R=pwK y N q→
  Fn 80 G0 [.agg (dyC y.lo),.int .i64 N,.int .i64 q,.bool false] (dyV (endD y.lo N q false)) G0∧Fn 80 G0 [.agg (dyC y.hi),.int .i64 N,.int .i64 q,.bool true] (dyV (endD y.hi N q true)) G0∧
  Fn 69 [] [.agg (dyC (endD y.lo N q false).1),.int .i64 (endD y.lo N q false).2,.agg (dyC (endD y.hi N q true).1),.int .i64 (endD y.hi N q true).2] (.agg (ivC R)) []:=by
  intro y hl hh e
  refine⟨i138 hl N q (by omega) hq false,i138 hh N q (by omega) hq true,?_⟩
  rw[e]
  exact i130 _ _
 have hmod:((N:Int).tmod 2==0)=decide ((N:Int) % 2=0):=by
  have:(N:Int).tmod 2=((N % 2:Nat):Int):=(Int.ofNat_tmod N 2).symm
  rw[this,Bool.eq_iff_iff,beq_iff_eq,decide_eq_true_eq];omega
 by_cases he:(N:Int) % 2=0
 ·rw[if_pos he,absI_k hk]at hR
  rw[decide_eq_true he]at hmod
  have h137:=i137 x h
  rw[absI_k hk]at h137
  obtain⟨n1,n2,n3⟩:=hcase _ (VD_mig kx) (VD_mag kx) hR
  simp only at n1 n2 n3
  generalize endD (migD x) N q false=A at*
  generalize endD (magD x) N q true=B at*
  generalize migD x=L at*
  generalize magD x=U at*
  clear hcase hR kx h hk
  obtain⟨⟨x1,x2,x3⟩,⟨x4,x5,x6⟩,x7⟩:=x
  obtain⟨⟨r1,r2,r3⟩,⟨r4,r5,r6⟩,r7⟩:=R
  obtain⟨l1,l2,l3⟩:=L
  obtain⟨u1,u2,u3⟩:=U
  obtain⟨⟨a1,a2,a3⟩,e⟩:=A
  obtain⟨⟨b1,b2,b3⟩,f⟩:=B
  have h137:Fn 79 [] [.agg [.bool x1,.sl .u32 x2,.int .i64 x3,.bool x4,.sl .u32 x5,.int .i64 x6,.bool x7]] (.agg [.bool l1,.sl .u32 l2,.int .i64 l3,.bool u1,.sl .u32 u2,.int .i64 u3,.bool false]) []:=h137
  have n1:Fn 80 G0 [.agg [.bool l1,.sl .u32 l2,.int .i64 l3],.int .i64 N,.int .i64 q,.bool false] (dyV (⟨a1,a2,a3⟩,e)) G0:=n1
  have n2:Fn 80 G0 [.agg [.bool u1,.sl .u32 u2,.int .i64 u3],.int .i64 N,.int .i64 q,.bool true] (dyV (⟨b1,b2,b3⟩,f)) G0:=n2
  have n3:Fn 69 [] [.agg [.bool a1,.sl .u32 a2,.int .i64 a3],.int .i64 e,.agg [.bool b1,.sl .u32 b2,.int .i64 b3],.int .i64 f] (.agg [.bool r1,.sl .u32 r2,.int .i64 r3,.bool r4,.sl .u32 r5,.int .i64 r6,.bool r7]) []:=n3
  show Fn 31 G0 [.agg [.bool x1,.sl .u32 x2,.int .i64 x3,.bool x4,.sl .u32 x5,.int .i64 x6,.bool x7],.int .i64 N,.int .i64 q] _ G0
  refine fnT hT6 hmx Tryz.func31 rfl rfl (ex:= []) ?_
  conv=>whnf
  refine⟨[],_,h126,?_⟩
  conv=>whnf
  refine⟨[],_,h127,?_⟩
  conv=>whnf
  refine brI (fun k2=>?_) (fun k2=>?_)
  ·have k2:=of_decide_eq_true k2;omega
  conv=>whnf
  refine brI (fun k3=>?_) (fun k3=>?_)
  ·have k3:(N:Int)=0:=by simpa using k3
   omega
  conv=>whnf
  refine⟨by decide,?_⟩
  conv=>whnf
  refine brI (fun k4=>?_) (fun k4=>?_)
  rotate_left
  ·have k4:((N:Int).tmod 2==0)=false:=k4
   rw[hmod]at k4;cases k4
  conv=>whnf
  refine⟨[],_,h137,?_⟩
  conv=>whnf
  refine⟨[.gst JT],_,n1,?_⟩
  conv=>whnf
  refine⟨[.gst JT],_,n2,?_⟩
  conv=>whnf
  refine⟨[],_,n3,?_⟩
  conv=>whnf
  exact⟨lr rfl,leG⟩
 ·rw[if_neg he]at hR
  rw[decide_eq_false he]at hmod
  obtain⟨n1,n2,n3⟩:=hcase _ kx.lo kx.hi hR
  generalize endD x.lo N q false=A at*
  generalize endD x.hi N q true=B at*
  clear hcase hR kx h hk
  obtain⟨⟨x1,x2,x3⟩,⟨x4,x5,x6⟩,x7⟩:=x
  obtain⟨⟨r1,r2,r3⟩,⟨r4,r5,r6⟩,r7⟩:=R
  obtain⟨⟨a1,a2,a3⟩,e⟩:=A
  obtain⟨⟨b1,b2,b3⟩,f⟩:=B
  have n1:Fn 80 G0 [.agg [.bool x1,.sl .u32 x2,.int .i64 x3],.int .i64 N,.int .i64 q,.bool false] (dyV (⟨a1,a2,a3⟩,e)) G0:=n1
  have n2:Fn 80 G0 [.agg [.bool x4,.sl .u32 x5,.int .i64 x6],.int .i64 N,.int .i64 q,.bool true] (dyV (⟨b1,b2,b3⟩,f)) G0:=n2
  have n3:Fn 69 [] [.agg [.bool a1,.sl .u32 a2,.int .i64 a3],.int .i64 e,.agg [.bool b1,.sl .u32 b2,.int .i64 b3],.int .i64 f] (.agg [.bool r1,.sl .u32 r2,.int .i64 r3,.bool r4,.sl .u32 r5,.int .i64 r6,.bool r7]) []:=n3
  show Fn 31 G0 [.agg [.bool x1,.sl .u32 x2,.int .i64 x3,.bool x4,.sl .u32 x5,.int .i64 x6,.bool x7],.int .i64 N,.int .i64 q] _ G0
  refine fnT hT6 hmx Tryz.func31 rfl rfl (ex:= []) ?_
  conv=>whnf
  refine⟨[],_,h126,?_⟩
  conv=>whnf
  refine⟨[],_,h127,?_⟩
  conv=>whnf
  refine brI (fun k2=>?_) (fun k2=>?_)
  ·have k2:=of_decide_eq_true k2;omega
  conv=>whnf
  refine brI (fun k3=>?_) (fun k3=>?_)
  ·have k3:(N:Int)=0:=by simpa using k3
   omega
  conv=>whnf
  refine⟨by decide,?_⟩
  conv=>whnf
  refine brI (fun k4=>?_) (fun k4=>?_)
  ·have k4:((N:Int).tmod 2==0)=true:=k4
   rw[hmod]at k4;cases k4
  conv=>whnf
  refine⟨[.gst JT],_,n1,?_⟩
  conv=>whnf
  refine⟨[.gst JT],_,n2,?_⟩
  conv=>whnf
  refine⟨[],_,n3,?_⟩
  conv=>whnf
  exact⟨lr rfl,leG⟩
end Go.Proofs.YtajnlbbgolmklaaGreatDoor
