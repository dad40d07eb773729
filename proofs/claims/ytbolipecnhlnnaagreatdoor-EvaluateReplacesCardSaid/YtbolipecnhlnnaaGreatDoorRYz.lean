/-
  Intervals: products, quotients, squares, Meet, Width.
-/
import Derived.Test.YtbolipecnhlnnaaGreatDoorRYy
import Derived.Test.YtbolipecnhlnnaaGreatDoorRYXa
import Derived.Test.YtbolipecnhlnnaaGreatDoorRYXb
import Derived.Test.YtbolipecnhlnnaaGreatDoorRUa
import Derived.Test.YtbolipecnhlnnaaGreatDoorRVa
import Derived.Test.YtbolipecnhlnnaaGreatDoorRUb
set_option linter.unusedVariables false
set_option linter.unusedSimpArgs false
open And renaming intro->q3
open Int renaming toNat_natCast->q5
open List renaming mem_cons_of_mem->q2,mem_cons_self->q4,drop_of_length_le->q6,length_cons->q7,mem_cons->q9
namespace Go.Proofs.YtbolipecnhlnnaaGreatDoor
open Go Go.Sx
set_option maxRecDepth 100000
set_option maxHeartbeats 8000000
def zac (x y:Iv) (p:Int):Iv:=if(kB x&&kB y)=true/\pcB p=true then kp (fun a b=>jv a b p.toNat false) (fun a b=>jv a b p.toNat true) x y else wI0
theorem i84 (x y:Iv) (hx:RI x) (hy:RI y) (p:Int):Fn 21 G0 [.agg (ivC x),.agg (ivC y),.int .i64 p] (.agg (ivC (zac x y p))) G0:=by
 have h126:=zpc [x,y] (by simp) (by simpa using⟨hx,hy⟩);rw[k2]at h126;have h127:=zzj p;have h25:=i25;rw[e25]at h25;have hR:zac x y p=if(kB x&&kB y)=true/\pcB p=true then kp (fun a b=>jv a b p.toNat false) (fun a b=>jv a b p.toNat true) x y else wI0:=rfl
 generalize zac x y p=R at*;by_cases hk:(kB x&&kB y)=true
 ·rw[hk]at h126;by_cases hp:pcB p=true
  ·rw[hp]at h127;rw[if_pos ⟨hk,hp⟩]at hR;rw[Bool.and_eq_true]at hk;have kx:=(zp hx).1 hk.1;have ky:=(zp hy).1 hk.2;obtain⟨q,rfl,hq⟩:=kg.1 hp;rw[q5]at hR;have n1:=i131m kx ky q hq;rw[←hR]at n1;clear hR hk kx ky hx hy;refine fnT hT6 hmx Tryz.func21 rfl rfl (ex:= []) ?_;conv=>whnf
   refine gZn h126 ?_;conv=>whnf
   refine gZn h127 ?_;conv=>whnf
   refine gZc n1 ?_;conv=>whnf
   exact⟨lr rfl,leG⟩
  ·rw[if_neg fun c=>hp c.2]at hR;rw[show pcB p=false by simpa using hp]at h127;subst hR;clear hk hx hy;refine fnT hT6 hmx Tryz.func21 rfl rfl (ex:= []) ?_;conv=>whnf
   refine gZn h126 ?_;conv=>whnf
   refine gZn h127 ?_;conv=>whnf
   refine gZn h25 ?_;conv=>whnf
   exact⟨lr rfl,leG⟩
 ·rw[if_neg fun c=>hk c.1]at hR;rw[show(kB x&&kB y)=false by simpa using hk]at h126;subst hR;clear hk hx hy;refine fnT hT6 hmx Tryz.func21 rfl rfl (ex:= []) ?_;conv=>whnf
  refine gZn h126 ?_;conv=>whnf
  refine gZn h25 ?_;conv=>whnf
  exact⟨lr rfl,leG⟩
def ym (x y:Iv) (p:Int):Iv:=if(kB x&&kB y)=true/\pcB p=true/\zmu y≠0 then kp (fun a b=>kq a b p.toNat false) (fun a b=>kq a b p.toNat true) x y else wI0
theorem i85 (x y:Iv) (hx:RI x) (hy:RI y) (p:Int):Fn 210 G0 [.agg (ivC x),.agg (ivC y),.int .i64 p] (.agg (ivC (ym x y p))) G0:=by
 have h126:=zpc [x,y] (by simp) (by simpa using⟨hx,hy⟩);rw[k2]at h126;have h127:=zzj p;have h25:=i25;have h134:=i134 y hy;rw[e25]at h25;have hR:ym x y p=if(kB x&&kB y)=true/\pcB p=true/\zmu y≠0 then kp (fun a b=>kq a b p.toNat false) (fun a b=>kq a b p.toNat true) x y else wI0:=rfl
 generalize ym x y p=R at*;generalize zmu y=S at*;by_cases hk:(kB x&&kB y)=true
 ·rw[hk]at h126;by_cases hp:pcB p=true
  ·rw[hp]at h127;by_cases hs:S=0
   ·rw[if_neg fun c=>c.2.2 hs]at hR;subst hR hs;clear hk hx hy;refine fnT hT6 hmx Tryz.func210 rfl rfl (ex:= []) ?_;conv=>whnf
    refine gZn h126 ?_;conv=>whnf
    refine gZn h127 ?_;conv=>whnf
    refine gZn h134 ?_;conv=>whnf
    refine gZn h25 ?_;conv=>whnf
    exact⟨lr rfl,leG⟩
   rw[if_pos ⟨hk,hp,hs⟩]at hR;rw[Bool.and_eq_true]at hk;have kx:=(zp hx).1 hk.1;have ky:=(zp hy).1 hk.2;obtain⟨q,rfl,hq⟩:=kg.1 hp;rw[q5]at hR;have n1:=i131d kx ky q hq;rw[←hR]at n1;clear hR hk kx ky hx hy;refine fnT hT6 hmx Tryz.func210 rfl rfl (ex:= []) ?_;conv=>whnf
   refine gZn h126 ?_;conv=>whnf
   refine gZn h127 ?_;conv=>whnf
   refine gZn h134 ?_;conv=>whnf
   refine brI (fun k1=>?_) (fun k1=>?_)
   ·have k1:S=0:=by simpa using k1
    exact absurd k1 hs
   conv=>whnf
   refine gZc n1 ?_;conv=>whnf
   exact⟨lr rfl,leG⟩
  ·rw[if_neg fun c=>hp c.2.1]at hR;rw[show pcB p=false by simpa using hp]at h127;subst hR;clear hk hx hy h134;refine fnT hT6 hmx Tryz.func210 rfl rfl (ex:= []) ?_;conv=>whnf
   refine gZn h126 ?_;conv=>whnf
   refine gZn h127 ?_;conv=>whnf
   refine gZn h25 ?_;conv=>whnf
   exact⟨lr rfl,leG⟩
 ·rw[if_neg fun c=>hk c.1]at hR;rw[show(kB x&&kB y)=false by simpa using hk]at h126;subst hR;clear hk hx hy h134;refine fnT hT6 hmx Tryz.func210 rfl rfl (ex:= []) ?_;conv=>whnf
  refine gZn h126 ?_;conv=>whnf
  refine gZn h25 ?_;conv=>whnf
  exact⟨lr rfl,leG⟩
def CI (x:Iv):Prop:=x=wI0\/(x.all=false/\VD x.lo/\VD x.hi)
theorem CI.ri {x:Iv} (h:CI x):RI x:=by
 rcases h with rfl|⟨_,h1,h2⟩
 ·exact zn1
 ·exact⟨h1.lb,h2.lb,by have:=h1.len;omega,by have:=h2.len;omega⟩
theorem zh0:CI wI0:= .inl rfl
theorem kw {a b:Dy×Int} (ha:VD a.1) (hb:VD b.1):CI (wa a b):=by
 unfold wa;split
 ·exact zh0
 ·exact .inr ⟨rfl,ha,hb⟩
theorem qr {p:Int} (h:pcB p=true):8<=p.toNat/\p.toNat<=512:=by
 obtain⟨q,rfl,hq⟩:=kg.1 h;exact hq
theorem zfa (x y:Iv) (p:Int):CI (uk x y p):=by
 unfold uk;split
 ·rename_i h;exact kw (zvu _ _ _ _ (qr h.2)) (zvu _ _ _ _ (qr h.2))
 ·exact zh0
theorem qde {dn up:Dy×Int} {o:Iv} {K:Iv->Iv} (h1:VD dn.1) (h2:VD up.1) (h3:VD o.lo) (h4:VD o.hi) (hK: ∀o,o.all=false->VD o.lo->VD o.hi->CI (K o)):CI (stI dn up o K):=by
 unfold stI;split
 ·exact zh0
 ·refine hK _ rfl ?_ ?_
  ·simp only;split<;>assumption
  ·simp only;split<;>assumption
theorem zpl (dn up:Dy->Dy->Dy×Int) (x y:Iv):kp dn up x y=s0I (dn x.lo y.lo) (up x.lo y.lo) (fun o=>stI (dn x.lo y.hi) (up x.lo y.hi) o (fun o=>stI (dn x.hi y.lo) (up x.hi y.lo) o (fun o=>stI (dn x.hi y.hi) (up x.hi y.hi) o (fun o=>o)))):=by
 unfold kp;rw[f4I]
theorem zv1 {dn up:Dy->Dy->Dy×Int} (h1: ∀a b,VD (dn a b).1) (h2: ∀a b,VD (up a b).1) (x y:Iv):CI (kp dn up x y):=by
 rw[zpl];unfold s0I;split
 ·exact zh0
 ·refine qde (h1 _ _) (h2 _ _) (h1 _ _) (h2 _ _) fun o _ a b=>?_
  refine qde (h1 _ _) (h2 _ _) a b fun o _ a b=>?_
  refine qde (h1 _ _) (h2 _ _) a b fun o c a b=>?_
  exact .inr ⟨c,a,b⟩
theorem zv0 (x y:Iv) (p:Int):CI (zac x y p):=by
 unfold zac;split
 ·rename_i h;exact zv1 (fun a b=>kb _ _ _ _ (qr h.2)) (fun a b=>kb _ _ _ _ (qr h.2)) x y
 ·exact zh0
theorem zz6 (x y:Iv) (p:Int):CI (ym x y p):=by
 unfold ym;split
 ·rename_i h;exact zv1 (fun a b=>xy _ _ _ _ (qr h.2.1)) (fun a b=>xy _ _ _ _ (qr h.2.1)) x y
 ·exact zh0
theorem qht {x:Iv} (h:RI x):CI (zff x):=by
 unfold zff;split
 ·rename_i hk;have k:=(zp h).1 hk;exact .inr ⟨rfl,xo k.hi,xo k.lo⟩
 ·exact zh0
theorem zz5 (x:Iv) (n p:Int):CI (zkk x n p):=by
 unfold zkk;split
 ·rename_i h;split
  ·exact .inr ⟨rfl,ju 1 (by decide),ju 1 (by decide)⟩
  ·exact kw (zzz _ _ _ _ (qr h.2.1)) (zzz _ _ _ _ (qr h.2.1))
 ·exact zh0
theorem zvz (x:Iv) (p:Int):CI (zcz x p):=by
 unfold zcz;split
 ·rename_i h;exact kw (zvs _ _ _ (qr h.2.1)) (zvs _ _ _ (qr h.2.1))
 ·exact zh0
def zuz (r:Rt) (p:Int):Iv:=if rOk r=true then wa (kq (wx r.n) (wx r.d) p.toNat false) (kq (wx r.n) (wx r.d) p.toNat true)else wI0
theorem qhz (r:Rt) {p:Int} (hp:pcB p=true):CI (zuz r p):=by
 unfold zuz;split
 ·exact kw (xy _ _ _ _ (qr hp)) (xy _ _ _ _ (qr hp))
 ·exact zh0
theorem i50 (r:Rt) (p:Int) (hp:pcB p=true):Fn 176 G0 [.agg [.int .i64 r.n,.int .i64 r.d],.int .i64 p] (.agg (ivC (zuz r p))) G0:=by
 have h15:=f54 r.n r.d;have hR:zuz r p=if rOk r=true then wa (kq (wx r.n) (wx r.d) p.toNat false) (kq (wx r.n) (wx r.d) p.toNat true)else wI0:=rfl
 have hr:rOk ⟨r.n,r.d⟩=rOk r:=rfl;rw[hr]at h15;generalize zuz r p=R at*;by_cases h:rOk r=true
 ·rw[if_pos h]at hR;rw[h]at h15;obtain⟨q,rfl,hq⟩:=kg.1 hp;rw[q5]at hR;have hb:=zcr h;unfold rIn at hb;have n1:=v77 r.n (by omega);have n2:=v77 r.d (by omega);have vn:=ju r.n (by omega);have vd:=ju r.d (by omega);have n3:=v76 vn vd q hq;have n4:=v78 vn vd q hq;generalize kq (wx r.n) (wx r.d) q false=A at*;generalize kq (wx r.n) (wx r.d) q true=B at*;generalize wx r.n=N at*;generalize wx r.d=D at*;clear vn vd;obtain⟨⟨a1,a2,a3⟩,e⟩:=A;obtain⟨⟨b1,b2,b3⟩,f⟩:=B;unfold wa at hR;simp only at hR;refine fnT hT6 hmx Tryz.func176 rfl rfl (ex:= []) ?_;conv=>whnf
  refine gZn h15 ?_;conv=>whnf
  refine gZc n1 ?_;conv=>whnf
  refine gZc n2 ?_;conv=>whnf
  refine gZc n3 ?_;conv=>whnf
  (refine⟨by kernel_rfl,by kernel_rfl,?_⟩;(conv=>whnf))
  refine gZc n1 ?_;conv=>whnf
  refine gZc n2 ?_;conv=>whnf
  refine gZc n4 ?_;conv=>whnf
  (refine⟨by kernel_rfl,by kernel_rfl,?_⟩;(conv=>whnf))
  refine brI (fun k1=>?_) (fun k1=>?_)
  ·have k1:e≠0:=by simpa using k1
   rw[if_pos (.inl k1)]at hR;subst hR;conv=>whnf
   exact⟨leW,leG⟩
  have k1:e=0:=by simpa using k1
  conv=>whnf
  refine brI (fun k2=>?_) (fun k2=>?_)
  ·have k2:f≠0:=by simpa using k2
   rw[if_pos (.inr k2)]at hR;subst hR;conv=>whnf
   exact⟨leW,leG⟩
  have k2:f=0:=by simpa using k2
  rw[if_neg (by simp[k1,k2])]at hR;subst hR;conv=>whnf
  exact⟨lr rfl,leG⟩
 ·rw[if_neg h]at hR;rw[show rOk r=false by simpa using h]at h15;subst hR;refine fnT hT6 hmx Tryz.func176 rfl rfl (ex:= []) ?_;conv=>whnf
  refine gZn h15 ?_;conv=>whnf
  exact⟨leW,leG⟩
def apI (fx:Int->Iv->Int->Iv) (k n:Int) (x y:Iv) (p:Int):Iv:=
 if k=3 then uk x y p else if k=4 then qdm x y p else if k=5 then zac x y p else if k=6 then ym x y p else if k=7 then zff x else if k=8 then zkk x n p
 else if k=13 then zcz x p else if 9<=k/\k<=12 then fx k x p else wI0
def Ka (k:Int):Prop:=k=3\/k=4\/k=5\/k=6\/k=7\/k=8\/k=13
theorem CI_ap {fx:Int->Iv->Int->Iv} {k:Int} (hk:Ka k) (n:Int) {x:Iv} (y:Iv) (p:Int) (hx:RI x):CI (apI fx k n x y p):=by
 rcases hk with rfl|rfl|rfl|rfl|rfl|rfl|rfl
 ·exact zfa _ _ _
 ·exact zfa _ _ _
 ·exact zv0 _ _ _
 ·exact zz6 _ _ _
 ·exact qht hx
 ·exact zz5 _ _ _
 ·exact zvz _ _
theorem i52 {fx:Int->Iv->Int->Iv} {k:Int} (hk:Ka k) (n:Int) (x y:Iv) (hx:RI x) (hy:RI y) (p:Int):Fn 177 G0 [.int .i64 k,.int .i64 n,.agg (ivC x),.agg (ivC y),.int .i64 p] (.agg (ivC (apI fx k n x y p))) G0:=by
 have h3:=i82 x y hx hy p;have h4:=i83 x y hx hy p;have h5:=i84 x y hx hy p;have h6:=i85 x y hx hy p;have h7:=i86 x hx;have h8:=i87 x hx n p;have h13:=i92 x hx p;rcases hk with rfl|rfl|rfl|rfl|rfl|rfl|rfl
 ·have e:apI fx 3 n x y p=uk x y p:=rfl;rw[e];generalize uk x y p=R at*;clear h4 h5 h6 h7 h8 h13 hx hy;refine fnT hT6 hmx Tryz.func177 rfl rfl (ex:= []) ?_;conv=>whnf
  refine gZc h3 ?_;conv=>whnf
  exact⟨lr rfl,leG⟩
 ·have e:apI fx 4 n x y p=qdm x y p:=rfl;rw[e];generalize qdm x y p=R at*;clear h3 h5 h6 h7 h8 h13 hx hy;refine fnT hT6 hmx Tryz.func177 rfl rfl (ex:= []) ?_;conv=>whnf
  refine gZc h4 ?_;conv=>whnf
  exact⟨lr rfl,leG⟩
 ·have e:apI fx 5 n x y p=zac x y p:=rfl;rw[e];generalize zac x y p=R at*;clear h3 h4 h6 h7 h8 h13 hx hy;refine fnT hT6 hmx Tryz.func177 rfl rfl (ex:= []) ?_;conv=>whnf
  refine gZc h5 ?_;conv=>whnf
  exact⟨lr rfl,leG⟩
 ·have e:apI fx 6 n x y p=ym x y p:=rfl;rw[e];generalize ym x y p=R at*;clear h3 h4 h5 h7 h8 h13 hx hy;refine fnT hT6 hmx Tryz.func177 rfl rfl (ex:= []) ?_;conv=>whnf
  refine gZc h6 ?_;conv=>whnf
  exact⟨lr rfl,leG⟩
 ·have e:apI fx 7 n x y p=zff x:=rfl;rw[e];generalize zff x=R at*;clear h3 h4 h5 h6 h8 h13 hx hy;refine fnT hT6 hmx Tryz.func177 rfl rfl (ex:= []) ?_;conv=>whnf
  refine gZn h7 ?_;conv=>whnf
  exact⟨lr rfl,leG⟩
 ·have e:apI fx 8 n x y p=zkk x n p:=rfl;rw[e];generalize zkk x n p=R at*;clear h3 h4 h5 h6 h7 h13 hx hy;refine fnT hT6 hmx Tryz.func177 rfl rfl (ex:= []) ?_;conv=>whnf
  refine gZc h8 ?_;conv=>whnf
  exact⟨lr rfl,leG⟩
 ·have e:apI fx 13 n x y p=zcz x p:=rfl;rw[e];generalize zcz x p=R at*;clear h3 h4 h5 h6 h7 h8 hx hy;refine fnT hT6 hmx Tryz.func177 rfl rfl (ex:= []) ?_;conv=>whnf
  refine gZc h13 ?_;conv=>whnf
  exact⟨lr rfl,leG⟩
abbrev za5:=List (ze×Iv)
def zI:Iv:=⟨d0,d0,false⟩
theorem qab:RI zI:=⟨qf.lb,qf.lb,by decide,by decide⟩
def okI (x:Iv):Iv:=if viB x=true then x else wI0
mutual
def evE (fx:Int->Iv->Int->Iv) (p:Int) (es:za5):Ex->Iv×Bool
 | .mk k q s n l=>if k=1 then(zuz q p,true)else if k=2 then(okI (zb4 .str s zI es),zc3 .str s es)else evL fx p es k n l []
def evL (fx:Int->Iv->Int->Iv) (p:Int) (es:za5) (k n:Int):List Ex->List Iv->Iv×Bool
 | [],acc=>(apI fx k n (acc[0]?.getD zI) (acc[1]?.getD zI) p,true)
 |x::l,acc=>if(evE fx p es x).2=true then evL fx p es k n l (acc++ [(evE fx p es x).1])else((evE fx p es x).1,false)
end
theorem zl0 (fx:Int->Iv->Int->Iv) (p:Int) (es:za5) (r:Rt):evE fx p es (zhs r)=(zuz r p,true):=by simp[zhs,evE]
theorem ziw (fx:Int->Iv->Int->Iv) (p:Int) (es:za5) (s:ze):evE fx p es (zi5 s)=(okI (zb4 .str s zI es),zc3 .str s es):=by simp[zi5,evE]
theorem za2 (fx:Int->Iv->Int->Iv) (p:Int) (es:za5) (k n:Int) (a:Ex) (h:k≠1/\k≠2):evE fx p es (opE k n [a])=if(evE fx p es a).2=true then(apI fx k n (evE fx p es a).1 zI p,true)else((evE fx p es a).1,false):=by
 simp[opE,evE,evL,h.1,h.2]
theorem zix (fx:Int->Iv->Int->Iv) (p:Int) (es:za5) (k n:Int) (a b:Ex) (h:k≠1/\k≠2):evE fx p es (opE k n [a,b])=if(evE fx p es a).2=true then(if(evE fx p es b).2=true then(apI fx k n (evE fx p es a).1 (evE fx p es b).1 p,true)else((evE fx p es b).1,false))else((evE fx p es a).1,false):=by
 simp[opE,evE,evL,h.1,h.2]
inductive VK (K:Int->Prop):Ex->Prop
 |num (r:Rt):rOk r=true->VK K (zhs r)
 |var (s:ze):zht s=true->VK K (zi5 s)
 |un (k:Int) (a:Ex):K k->K1 k->VK K a->VK K (opE k 0 [a])
 |pow (n:Int) (a:Ex):K 8->0<=n->n<=16->VK K a->VK K (opE 8 n [a])
 |bin (k:Int) (a b:Ex):K k->K2 k->VK K a->VK K b->VK K (opE k 0 [a,b])
abbrev HvE (es:za5):Hp:= [(qu,.gst JT),(1000001,.map .str .iv es)]
theorem zlj {h h':Hp} {es:za5}:leH h h' (HvE es) (HvE es):=lh1 (bg0 rfl) (lh1 (bm0 rfl) lh0)
abbrev ioV (r:Iv×Bool):AV:= .tup [.agg (ivC r.1),.bool r.2]
def ApK (fx:Int->Iv->Int->Iv) (K:Int->Prop) (p:Int):Prop:=
 ∀k n x y,K k->RI x->RI y->Fn 177 G0 [.int .i64 k,.int .i64 n,.agg (ivC x),.agg (ivC y),.int .i64 p] (.agg (ivC (apI fx k n x y p))) G0/\CI (apI fx k n x y p)
def REs (es:za5):Prop:= ∀q∈es,RI q.2
theorem zm5 {s:ze} {es:za5} (h:REs es):RI (zb4 .str s zI es):=by
 induction es with
 |nil=>exact qab
 |cons q es ih=>
  obtain⟨y,v⟩:=q;simp only[zb4]
  cases zig .str s y with
  |true=>exact h (y,v) q4
  |false=>exact ih fun q hq=>h q (q2 _ hq)
theorem zy8 {x:Iv} (h:RI x):VI (okI x):=by
 unfold okI;split
 ·rename_i hv;exact(zcx h).1 hv
 ·exact .inr rfl
theorem i26v (fx:Int->Iv->Int->Iv) (p:Int) (es:za5) (hes:REs es) (s:ze):Fn 96 (HvE es) [.agg (exC (zi5 s)),.mp 1000001,.int .i64 p] (ioV (evE fx p es (zi5 s))) (HvE es):=by
 rw[ziw];have h51:=i51 _ (zm5 (s:=s) hes);have h25:=i25;rw[e25]at h25;have hok:okI (zb4 .str s zI es)=if viB (zb4 .str s zI es)=true then zb4 .str s zI es else wI0:=rfl
 generalize okI (zb4 .str s zI es)=O at*;generalize viB (zb4 .str s zI es)=V at*;refine fnT hT6 hmx Tryz.func96 rfl rfl (ex:= []) ?_;conv=>whnf
 refine cbI [] V h51 (fun h1=>?_) (fun h1=>?_)
 ·rw[if_pos h1]at hok;subst hok;conv=>whnf
  exact⟨lr rfl,zlj⟩
 ·rw[if_neg (by rw[h1];simp)]at hok;subst hok;conv=>whnf
  refine gZn h25 ?_;conv=>whnf
  exact⟨lr rfl,zlj⟩
theorem i26n (fx:Int->Iv->Int->Iv) (p:Int) (hp:pcB p=true) (es:za5) (r:Rt):Fn 96 (HvE es) [.agg (exC (zhs r)),.mp 1000001,.int .i64 p] (ioV (evE fx p es (zhs r))) (HvE es):=by
 rw[zl0];have h50:=i50 r p hp;generalize zuz r p=R at*;refine fnT hT6 hmx Tryz.func96 rfl rfl (ex:= []) ?_;conv=>whnf
 refine gZc h50 ?_;conv=>whnf
 exact⟨lr rfl,zlj⟩
abbrev z7:List AV:= [.bool false,.sl .u32 [],.int .i64 0,.bool false,.sl .u32 [],.int .i64 0,.bool false]
theorem i26u (p:Int) (es:za5) (k n:Int) (hk:k≠1/\k≠2) (a:Ex) (A C:Iv) (ok:Bool) (ha:Fn 96 (HvE es) [.agg (exC a),.mp 1000001,.int .i64 p] (.tup [.agg (ivC A),.bool ok]) (HvE es))
 (hc:Fn 177 G0 [.int .i64 k,.int .i64 n,.agg (ivC A),.agg (ivC zI),.int .i64 p] (.agg (ivC C)) G0):
 Fn 96 (HvE es) [.agg (exC (opE k n [a])),.mp 1000001,.int .i64 p] (ioV (if ok=true then(C,true)else(A,false))) (HvE es):=by
 obtain⟨⟨a1,a2,a3⟩,⟨a4,a5,a6⟩,a7⟩:=A;obtain⟨⟨c1,c2,c3⟩,⟨c4,c5,c6⟩,c7⟩:=C;have hc:Fn 177 G0 [.int .i64 k,.int .i64 n,.agg [.bool a1,.sl .u32 a2,.int .i64 a3,.bool a4,.sl .u32 a5,.int .i64 a6,.bool a7],.agg z7,.int .i64 p] (.agg [.bool c1,.sl .u32 c2,.int .i64 c3,.bool c4,.sl .u32 c5,.int .i64 c6,.bool c7]) G0:=hc;have hk1:(k==1)=false:=by simpa using hk.1
 have hk2:(k==2)=false:=by simpa using hk.2
 refine fnT hT6 hmx Tryz.func96 rfl rfl (ex:= []) ?_;conv=>whnf
 refine brI (fun h1=>?_) (fun h1=>?_)
 ·have h1:(k==1)=true:=h1;rw[hk1]at h1;cases h1
 conv=>whnf
 refine brI (fun h1=>?_) (fun h1=>?_)
 ·have h1:(k==2)=true:=h1;rw[hk2]at h1;cases h1
 conv=>whnf
 refine⟨Nat,fun i=>i<=1/\(i=1->ok=true),fun i=> [(41,.int .i64 i)],fun i=> [(10,.cells (match i with
  |0=>z7++z7
  | _=> [.bool a1,.sl .u32 a2,.int .i64 a3,.bool a4,.sl .u32 a5,.int .i64 a6,.bool a7]++z7))],fun i=>1-i,0,⟨by simp,by simp⟩,?_,fun i hi=>?_⟩
 ·((conv=>whnf);refine q3 ?_ ?_;repeat' first|refine lc ?_ ?_|exact la0|exact lr rfl|exact ln0|refine lh1 ?_ ?_|exact lh0|exact bf0|exact bd0|refine bc0 ?_|exact bm0 rfl|exact bb0 rfl|exact bg0 rfl|exact li0 rfl|refine lg0 ?_|refine lt0 ?_|fail)
 obtain⟨hi1,hi2⟩:=hi;obtain rfl|rfl:i=0\/i=1:=by omega
 ·(refine⟨by kernel_rfl,?_⟩;(conv=>whnf))
  refine ix0 ?_;conv=>whnf
  refine⟨[.gst JT,.map .str .iv es],_,ha,?_⟩;conv=>whnf
  cases ok with
  |true=>
   conv=>whnf
   refine⟨⟨by omega,by omega⟩,?_⟩;conv=>whnf
   refine⟨1,⟨by decide,fun _=>rfl⟩,by decide,?_⟩
   ((conv=>whnf);refine q3 ?_ ?_;repeat' first|refine lc ?_ ?_|exact la0|exact lr rfl|exact ln0|refine lh1 ?_ ?_|exact lh0|exact bf0|exact bd0|refine bc0 ?_|exact bm0 rfl|exact bb0 rfl|exact bg0 rfl|exact li0 rfl|refine lg0 ?_|refine lt0 ?_|fail)
  |false=>
   conv=>whnf
   exact⟨lr rfl,zlj⟩
 ·have hok:=hi2 rfl;subst hok
  (refine⟨by kernel_rfl,?_⟩;(conv=>whnf))
  refine⟨⟨by omega,by omega⟩,?_⟩;conv=>whnf
  refine⟨⟨by omega,by omega⟩,?_⟩;conv=>whnf
  refine gZc hc ?_;conv=>whnf
  exact⟨lr rfl,zlj⟩
theorem i26b (p:Int) (es:za5) (k n:Int) (hk:k≠1/\k≠2) (a b:Ex) (A B C:Iv) (ok ok2:Bool) (ha:Fn 96 (HvE es) [.agg (exC a),.mp 1000001,.int .i64 p] (.tup [.agg (ivC A),.bool ok]) (HvE es))
 (hb:Fn 96 (HvE es) [.agg (exC b),.mp 1000001,.int .i64 p] (.tup [.agg (ivC B),.bool ok2]) (HvE es))
 (hc:Fn 177 G0 [.int .i64 k,.int .i64 n,.agg (ivC A),.agg (ivC B),.int .i64 p] (.agg (ivC C)) G0):
 Fn 96 (HvE es) [.agg (exC (opE k n [a,b])),.mp 1000001,.int .i64 p] (ioV (if ok=true then(if ok2=true then(C,true)else(B,false))else(A,false))) (HvE es):=by
 obtain⟨⟨a1,a2,a3⟩,⟨a4,a5,a6⟩,a7⟩:=A;obtain⟨⟨b1,b2,b3⟩,⟨b4,b5,b6⟩,b7⟩:=B;obtain⟨⟨c1,c2,c3⟩,⟨c4,c5,c6⟩,c7⟩:=C;have hc:Fn 177 G0 [.int .i64 k,.int .i64 n,.agg [.bool a1,.sl .u32 a2,.int .i64 a3,.bool a4,.sl .u32 a5,.int .i64 a6,.bool a7],.agg [.bool b1,.sl .u32 b2,.int .i64 b3,.bool b4,.sl .u32 b5,.int .i64 b6,.bool b7],.int .i64 p] (.agg [.bool c1,.sl .u32 c2,.int .i64 c3,.bool c4,.sl .u32 c5,.int .i64 c6,.bool c7]) G0:=hc;have hk1:(k==1)=false:=by simpa using hk.1
 have hk2:(k==2)=false:=by simpa using hk.2
 refine fnT hT6 hmx Tryz.func96 rfl rfl (ex:= []) ?_;conv=>whnf
 refine brI (fun h1=>?_) (fun h1=>?_)
 ·have h1:(k==1)=true:=h1;rw[hk1]at h1;cases h1
 conv=>whnf
 refine brI (fun h1=>?_) (fun h1=>?_)
 ·have h1:(k==2)=true:=h1;rw[hk2]at h1;cases h1
 conv=>whnf
 refine⟨Nat,fun i=>i<=2/\(1<=i->ok=true)/\(i=2->ok2=true),fun i=> [(41,.int .i64 i)],fun i=> [(10,.cells (match i with
  |0=>z7++z7
  |1=> [.bool a1,.sl .u32 a2,.int .i64 a3,.bool a4,.sl .u32 a5,.int .i64 a6,.bool a7]++z7
  | _=> [.bool a1,.sl .u32 a2,.int .i64 a3,.bool a4,.sl .u32 a5,.int .i64 a6,.bool a7,.bool b1,.sl .u32 b2,.int .i64 b3,.bool b4,.sl .u32 b5,.int .i64 b6,.bool b7]))],fun i=>2-i,0,⟨by simp,by simp,by simp⟩,?_,fun i hi=>?_⟩
 ·((conv=>whnf);refine q3 ?_ ?_;repeat' first|refine lc ?_ ?_|exact la0|exact lr rfl|exact ln0|refine lh1 ?_ ?_|exact lh0|exact bf0|exact bd0|refine bc0 ?_|exact bm0 rfl|exact bb0 rfl|exact bg0 rfl|exact li0 rfl|refine lg0 ?_|refine lt0 ?_|fail)
 obtain⟨hi1,hi2,hi3⟩:=hi;obtain rfl|rfl|rfl:i=0\/i=1\/i=2:=by omega
 ·(refine⟨by kernel_rfl,?_⟩;(conv=>whnf))
  refine ix0 ?_;conv=>whnf
  refine⟨[.gst JT,.map .str .iv es],_,ha,?_⟩;conv=>whnf
  cases ok with
  |true=>
   conv=>whnf
   refine⟨⟨by omega,by omega⟩,?_⟩;conv=>whnf
   refine⟨1,⟨by decide,fun _=>rfl,fun h=>by cases h⟩,by decide,?_⟩
   ((conv=>whnf);refine q3 ?_ ?_;repeat' first|refine lc ?_ ?_|exact la0|exact lr rfl|exact ln0|refine lh1 ?_ ?_|exact lh0|exact bf0|exact bd0|refine bc0 ?_|exact bm0 rfl|exact bb0 rfl|exact bg0 rfl|exact li0 rfl|refine lg0 ?_|refine lt0 ?_|fail)
  |false=>
   conv=>whnf
   exact⟨lr rfl,zlj⟩
 ·have hok:=hi2 (by decide);subst hok
  (refine⟨by kernel_rfl,?_⟩;(conv=>whnf))
  refine ix1 ?_;conv=>whnf
  refine⟨[.gst JT,.map .str .iv es],_,hb,?_⟩;conv=>whnf
  cases ok2 with
  |true=>
   conv=>whnf
   refine⟨⟨by omega,by omega⟩,?_⟩;conv=>whnf
   refine⟨2,⟨by decide,fun _=>rfl,fun _=>rfl⟩,by decide,?_⟩
   ((conv=>whnf);refine q3 ?_ ?_;repeat' first|refine lc ?_ ?_|exact la0|exact lr rfl|exact ln0|refine lh1 ?_ ?_|exact lh0|exact bf0|exact bd0|refine bc0 ?_|exact bm0 rfl|exact bb0 rfl|exact bg0 rfl|exact li0 rfl|refine lg0 ?_|refine lt0 ?_|fail)
  |false=>
   conv=>whnf
   exact⟨lr rfl,zlj⟩
 ·have hok:=hi2 (by decide);have hok2:=hi3 rfl;subst hok hok2
  (refine⟨by kernel_rfl,?_⟩;(conv=>whnf))
  refine⟨⟨by omega,by omega⟩,?_⟩;conv=>whnf
  refine⟨⟨by omega,by omega⟩,?_⟩;conv=>whnf
  refine gZc hc ?_;conv=>whnf
  exact⟨lr rfl,zlj⟩
theorem i26 {fx:Int->Iv->Int->Iv} {K:Int->Prop} {p:Int} (hp:pcB p=true) (hA:ApK fx K p) {es:za5} (hes:REs es) {e:Ex} (he:VK K e):
 Fn 96 (HvE es) [.agg (exC e),.mp 1000001,.int .i64 p] (ioV (evE fx p es e)) (HvE es)/\RI (evE fx p es e).1:=by
 induction he with
 |num r hr=>exact⟨i26n fx p hp es r,by rw[zl0];exact(qhz r hp).ri⟩
 |var s hs=>exact⟨i26v fx p es hes s,by rw[ziw];exact(zy8 (zm5 hes)).ri⟩
 |un k a hk h1 _ ih=>
  have hne:k≠1/\k≠2:=by unfold K1 at h1;omega
  obtain⟨c1,c2⟩:=hA k 0 _ zI hk ih.2 qab;rw[za2 fx p es k 0 a hne];refine⟨i26u p es k 0 hne a _ _ _ ih.1 c1,?_⟩;split
  ·exact c2.ri
  ·exact ih.2
 |pow n a hk h1 h2 _ ih=>
  obtain⟨c1,c2⟩:=hA 8 n _ zI hk ih.2 qab;rw[za2 fx p es 8 n a (by decide)];refine⟨i26u p es 8 n (by decide) a _ _ _ ih.1 c1,?_⟩;split
  ·exact c2.ri
  ·exact ih.2
 |bin k a b hk h1 _ _ ih1 ih2=>
  have hne:k≠1/\k≠2:=by unfold K2 at h1;omega
  obtain⟨c1,c2⟩:=hA k 0 _ _ hk ih1.2 ih2.2;rw[zix fx p es k 0 a b hne];refine⟨i26b p es k 0 hne a b _ _ _ _ _ ih1.1 ih2.1 c1,?_⟩;split
  ·split
   ·exact c2.ri
   ·exact ih2.2
  ·exact ih1.2
def yk:List ze->List Iv->za5->za5
 |n::ns,r::rs,es=>yk ns rs (zba .str n r es)
 | _,_,es=>es
theorem qf5 (ns:List ze) (rs:List Iv) (h: ¬(ns.length=rs.length/\ns.length<=200)) (h1:ns.length<9223372036854775808) (h2:rs.length<9223372036854775808):
 Fn 94 [] [.sl .str ns,.sl .iv rs] (.tup [.any,.bool false]) [(2000000,.dead)]:=by
 refine fnT hT6 hmx Tryz.func94 rfl rfl (ex:= [21]) ?_;conv=>whnf
 refine brI (fun h3=>?_) (fun h3=>?_)
 ·conv=>whnf
  exact⟨lt0 (lc la0 (lc (lr rfl) ln0)),lh1 bd0 lh0⟩
 ·conv=>whnf
  refine brI (fun h4=>?_) (fun h4=>?_)
  ·conv=>whnf
   exact⟨lt0 (lc la0 (lc (lr rfl) ln0)),lh1 bd0 lh0⟩
  ·refine absurd ⟨?_,?_⟩ h
   ·have h3:((ns.length:Int) != (rs.length:Int))=false:=h3;simp only[bne_eq_false_iff_eq]at h3;omega
   ·simp only[decide_eq_false_iff_not]at h4;omega
theorem zut {ns:List ze} {rs:List Iv} {i:Nat} {n:ze} {r:Iv} (es:za5) (h1:ns[i]? =some n) (h2:rs[i]? =some r):yk (ns.drop i) (rs.drop i) es=yk (ns.drop (i+1)) (rs.drop (i+1)) (zba .str n r es):=by
 rw[wq h1,wq h2];rfl
theorem zdv (n:ze) (r:Iv): ∀es:za5,(zba .str n r es).length <=es.length+1
 | []=>by simp[zba]
 |(y,v)::l=>by
  have:=zdv n r l;simp only[zba];cases zig .str n y
  ·simp only[cond_false,q7];omega
  ·simp only[cond_true,q7];omega
theorem i23 (ns:List ze) (rs:List Iv) (h:ns.length=rs.length/\ns.length<=200):
 Fn 94 [] [.sl .str ns,.sl .iv rs] (.tup [.mp 2000000,.bool (decide ((yk ns rs []).length =rs.length))]) [(2000000,.map .str .iv (yk ns rs []))]:=by
 refine fnT hT6 hmx Tryz.func94 rfl rfl (ex:= [21]) ?_;conv=>whnf
 refine brI (fun h0=>?_) (fun h0=>?_)
 ·have h0:((ns.length:Int) != (rs.length:Int))=true:=h0;refine absurd h.1 (fun e=>?_);rw[e]at h0;simp at h0
 conv=>whnf
 refine brI (fun h0=>absurd h.2 (by simp only[decide_eq_true_eq]at h0;omega)) (fun _=>?_);conv=>whnf
 refine⟨Nat×za5,fun x=>x.1<=ns.length/\yk (ns.drop x.1) (rs.drop x.1) x.2=yk ns rs []/\x.2.length<=x.1,fun x=> [(24,.int .i64 x.1)],fun x=> [(21,.map .str .iv x.2)],fun x=>ns.length-x.1,(0,[]),⟨by simp,rfl,by simp⟩,?_,fun x hx=>?_⟩
 ·((conv=>whnf);refine q3 ?_ ?_;repeat' first|refine lc ?_ ?_|exact la0|exact lr rfl|exact ln0|refine lh1 ?_ ?_|exact lh0|exact bf0|exact bd0|refine bc0 ?_|exact bm0 rfl|exact bg0 rfl|exact li0 rfl|refine lg0 ?_|refine lt0 ?_|fail)
 (refine⟨by kernel_rfl,?_⟩;(conv=>whnf))
 obtain⟨i,es⟩:=x;obtain⟨hx1,hx2,hx3⟩:=hx;simp only at hx1 hx2 hx3;refine brI (fun h3=>?_) (fun h3=>?_)
 ·conv=>whnf
  have h3:i<ns.length:=by simp only[decide_eq_true_eq]at h3;omega
  refine⟨⟨by omega,by omega⟩,fun n hn=>?_⟩;have hn:ns[i]? =some n:=by simpa using hn
  conv=>whnf
  refine⟨⟨by omega,by simp only;omega⟩,fun r hr=>?_⟩;have hr:rs[i]? =some r:=by simpa using hr
  rw[zut es hn hr]at hx2;conv=>whnf
  refine⟨(i+1,zba .str n r es),⟨by simp only;omega,hx2,by have:=zdv n r es;simp only;omega⟩,by show ns.length-(i+1)<ns.length-i;omega,?_⟩
  ((conv=>whnf);refine q3 ?_ ?_;repeat' first|refine lc ?_ ?_|exact la0|exact lr rfl|exact ln0|refine lh1 ?_ ?_|exact lh0|exact bf0|exact bd0|refine bc0 ?_|exact bm0 rfl|exact bg0 rfl|exact li0 rfl|refine lg0 ?_|refine lt0 ?_|fail)
  exact ai0 (by rw[wI (by simp only;omega)];simp only;omega)
 ·conv=>whnf
  have h3: ¬i<ns.length:=by simp only[decide_eq_false_iff_not]at h3;omega
  rw[q6 (by omega),q6 (by omega)]at hx2;have hx2:es=yk ns rs []:=hx2;rw[←hx2];refine⟨lt0 (lc (lr rfl) (lc (ab0 ?_) ln0)),lh1 (bm0 rfl) lh0⟩;rw[Bool.eq_iff_iff,decide_eq_true_eq];constructor
  ·intro h;have h:((es.length:Int)==(rs.length:Int))=true:=h;simp only[beq_iff_eq]at h;omega
  ·intro h;show((es.length:Int)==(rs.length:Int))=true;simp only[beq_iff_eq];omega
theorem zo3 {n:ze} {r:Iv} (hr:RI r): ∀ {es:za5},REs es->REs (zba .str n r es)
 | [],_=>by
   intro q hq;simp only[zba,List.mem_singleton]at hq;subst hq;exact hr
 |(y,v)::l,h=>by
  have ih:=zo3 (n:=n) hr (es:=l) fun q hq=>h q (q2 _ hq)
  intro q hq;simp only[zba]at hq
  cases hk:zig .str n y with
  |true=>
   rw[hk,cond_true]at hq;rcases q9.1 hq with rfl|hq
   ·exact hr
   ·exact h q (q2 _ hq)
  |false=>
   rw[hk,cond_false]at hq;rcases q9.1 hq with rfl|hq
   ·exact h _ q4
   ·exact ih q hq
theorem zfz: ∀(ns:List ze) (rs:List Iv) (es:za5),(∀r∈rs,RI r)->REs es->REs (yk ns rs es)
 | [],_,es,_,h=>by cases ‹List Iv› <;>exact h
 | _::_,[],es,_,h=>h
 |n::ns,r::rs,es,hr,h=>zfz ns rs _ (fun x hx=>hr x (q2 _ hx)) (zo3 (hr r q4) h)
def enB (ns:List ze) (xs:List Iv):Bool:=decide (ns.length=xs.length/\ns.length<=200/\(yk ns xs []).length =xs.length)
def zfo (fx:Int->Iv->Int->Iv) (e:Ex) (ns:List ze) (xs:List Iv) (p:Int):Iv:=
 if(enB ns xs=true/\okT e=true/\pcB p=true)/\(evE fx p (yk ns xs []) e).2=true then(evE fx p (yk ns xs []) e).1 else wI0
theorem i8 {fx:Int->Iv->Int->Iv} {K:Int->Prop} (hA: ∀p,pcB p=true->ApK fx K p) (e:Ex) (he:Sm e) (hK:okT e=true->VK K e) (ns:List ze) (xs:List Iv) (hx: ∀x∈xs,RI x) (h1:ns.length<9223372036854775808) (h2:xs.length<9223372036854775808) (p:Int):
 Fn 32 G0 [.agg (exC e),.sl .str ns,.sl .iv xs,.int .i64 p] (.agg (ivC (zfo fx e ns xs p))) G0:=by
 have h24:=f17 e he;have h25:=i25;rw[e25]at h25;have hR:zfo fx e ns xs p=if(enB ns xs=true/\okT e=true/\pcB p=true)/\(evE fx p (yk ns xs []) e).2=true then(evE fx p (yk ns xs []) e).1 else wI0:=rfl
 generalize zfo fx e ns xs p=R at*;by_cases hl:ns.length=xs.length/\ns.length<=200
 rotate_left
 ·rw[if_neg fun c=>hl (by have:=c.1.1;unfold enB at this;have:=of_decide_eq_true this;exact⟨this.1,this.2.1⟩)]at hR;subst hR;have h23:=qf5 ns xs hl h1 h2;refine fnT hT6 hmx Tryz.func32 rfl rfl (ex:= []) ?_;conv=>whnf
  refine⟨[],[.dead],_,h23,?_⟩;conv=>whnf
  refine gZn h25 ?_;conv=>whnf
  exact⟨lr rfl,leG⟩
 have h23:=i23 ns xs hl;by_cases hen:(yk ns xs []).length =xs.length
 rotate_left
 ·rw[if_neg fun c=>hen (by have:=c.1.1;unfold enB at this;have:=of_decide_eq_true this;exact this.2.2)]at hR;subst hR;rw[decide_eq_false hen]at h23;refine fnT hT6 hmx Tryz.func32 rfl rfl (ex:= []) ?_;conv=>whnf
  refine⟨[],[.map .str .iv (yk ns xs [])],_,h23,?_⟩;conv=>whnf
  refine gZn h25 ?_;conv=>whnf
  exact⟨lr rfl,leG⟩
 have hE:enB ns xs=true:=by unfold enB;exact decide_eq_true ⟨hl.1,hl.2,hen⟩
 rw[decide_eq_true hen]at h23;by_cases hok:okT e=true
 rotate_left
 ·rw[if_neg fun c=>hok c.1.2.1]at hR;subst hR;rw[show okT e=false by simpa using hok]at h24;refine fnT hT6 hmx Tryz.func32 rfl rfl (ex:= []) ?_;conv=>whnf
  refine⟨[],[.map .str .iv (yk ns xs [])],_,h23,?_⟩;conv=>whnf
  refine gZn h24 ?_;conv=>whnf
  refine gZn h25 ?_;conv=>whnf
  exact⟨lr rfl,leG⟩
 rw[hok]at h24;by_cases hp:pcB p=true
 rotate_left
 ·rw[if_neg fun c=>hp c.1.2.2]at hR;subst hR;have hp: ¬(8<=p/\p<=512):=fun c=>hp (by unfold pcB;simp;omega)
  refine fnT hT6 hmx Tryz.func32 rfl rfl (ex:= []) ?_;conv=>whnf
  refine⟨[],[.map .str .iv (yk ns xs [])],_,h23,?_⟩;conv=>whnf
  refine gZn h24 ?_;conv=>whnf
  refine brI (fun k1=>?_) (fun k1=>?_)
  ·conv=>whnf
   refine gZn h25 ?_;conv=>whnf
   exact⟨lr rfl,leG⟩
  have k1: ¬p<8:=of_decide_eq_false k1;conv=>whnf
  refine brI (fun k2=>?_) (fun k2=>?_)
  ·conv=>whnf
   refine gZn h25 ?_;conv=>whnf
   exact⟨lr rfl,leG⟩
  have k2: ¬512<p:=of_decide_eq_false k2;omega
 have hp2:8<=p/\p<=512:=by unfold pcB at hp;simpa using hp
 obtain⟨h26,_⟩:=i26 hp (hA p hp) (zfz ns xs [] hx fun q hq=>by cases hq) (hK hok);obtain⟨V,hV⟩: ∃V,evE fx p (yk ns xs []) e=V:=⟨_,rfl⟩;rw[hV]at hR h26;obtain⟨⟨⟨v1,v2,v3⟩,⟨v4,v5,v6⟩,v7⟩,ok⟩:=V;have h26:Fn 96 (HvE (yk ns xs [])) [.agg (exC e),.mp 1000001,.int .i64 p] (.tup [.agg [.bool v1,.sl .u32 v2,.int .i64 v3,.bool v4,.sl .u32 v5,.int .i64 v6,.bool v7],.bool ok]) (HvE (yk ns xs [])):=h26;simp only at hR
 cases ok with
 |true=>
  rw[if_pos ⟨⟨hE,hok,hp⟩,rfl⟩]at hR;subst hR;refine fnT hT6 hmx Tryz.func32 rfl rfl (ex:= []) ?_;conv=>whnf
  refine⟨[],[.map .str .iv (yk ns xs [])],_,h23,?_⟩;conv=>whnf
  refine gZn h24 ?_;conv=>whnf
  refine brI (fun k1=>?_) (fun k1=>?_)
  ·have k1:=of_decide_eq_true k1;omega
  conv=>whnf
  refine brI (fun k2=>?_) (fun k2=>?_)
  ·have k2:=of_decide_eq_true k2;omega
  conv=>whnf
  refine⟨[.gst JT,.map .str .iv (yk ns xs [])],_,h26.sw [(15,1000001)] rfl,?_⟩;conv=>whnf
  exact⟨lr rfl,leG⟩
 |false=>
  rw[if_neg fun c=>by cases c.2]at hR;subst hR;refine fnT hT6 hmx Tryz.func32 rfl rfl (ex:= []) ?_;conv=>whnf
  refine⟨[],[.map .str .iv (yk ns xs [])],_,h23,?_⟩;conv=>whnf
  refine gZn h24 ?_;conv=>whnf
  refine brI (fun k1=>?_) (fun k1=>?_)
  ·have k1:=of_decide_eq_true k1;omega
  conv=>whnf
  refine brI (fun k2=>?_) (fun k2=>?_)
  ·have k2:=of_decide_eq_true k2;omega
  conv=>whnf
  refine⟨[.gst JT,.map .str .iv (yk ns xs [])],_,h26.sw [(15,1000001)] rfl,?_⟩;conv=>whnf
  refine gZn h25 ?_;conv=>whnf
  exact⟨lr rfl,leG⟩
end Go.Proofs.YtbolipecnhlnnaaGreatDoor
