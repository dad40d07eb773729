/- Intervals: products, quotients, squares, Meet, Width. -/
import Derived.Test.YtbolipecnhlnnaaGreatDoorVYy
import Derived.Test.YtbolipecnhlnnaaGreatDoorVYXb
import Derived.Test.YtbolipecnhlnnaaGreatDoorVVa
set_option linter.all false
open Int renaming toNat_natCast->q2
open List renaming mem_cons_of_mem->q0,mem_cons_self->q1,drop_of_length_le->q3,length_cons->q4,mem_cons->q5
namespace Go.Proofs.YtbolipecnhlnnaaGreatDoor
open Go Go.Sx
set_option maxRecDepth 100000
set_option maxHeartbeats 8000000
def zax(x y:Iv)(p:Int):Iv:=if(kB x&&kB y)=true/\pcB p=true then jy (fun a b=>wz a b p.toNat false) (fun a b=>wz a b p.toNat true) x y else wI0
theorem i84(x y:Iv)(hx:RI x)(hy:RI y)(p:Int):Fn 21 G0 [.agg (ivC x),.agg (ivC y),.int .i64 p] (.agg (ivC (zax x y p))) G0:=by
 have h126:=zrk [x,y] OC (by simpa using⟨hx,hy⟩);rw[k2]at h126;have h127:=qc3 p;have h25:=i25;rw[e25]at h25;have hR:zax x y p=if(kB x&&kB y)=true/\pcB p=true then jy (fun a b=>wz a b p.toNat false) (fun a b=>wz a b p.toNat true) x y else wI0:=rfl
 generalize zax x y p=R at*;by_cases hk:(kB x&&kB y)=true
 .rw[hk]at h126;by_cases hp:pcB p=true
  .rw[hp]at h127;rw[Z4 ⟨hk,hp⟩]at hR;rw[Bool.and_eq_true]at hk;have kx:=(zp hx).1 hk.1;have ky:=(zp hy).1 hk.2;obtain⟨q,rfl,hq⟩:=jx.1 hp;rw[q2]at hR;have n1:=i131m kx ky q hq;rw[<-hR]at n1;clear hR hk kx ky hx hy;refine fY6 Tryz.func21 rfl ?_;refine gYn h126 ?_;refine gYn h127 ?_;refine gYc n1 ?_;exact⟨lr rfl,leG⟩
  .rw[Z5 fun c=>hp c.2]at hR;rw[show pcB p=false by simpa using hp]at h127;subst hR;clear hk hx hy;refine fY6 Tryz.func21 rfl ?_;refine gYn h126 ?_;refine gYn h127 ?_;refine gYn h25 ?_;exact⟨lr rfl,leG⟩
 .rw[Z5 fun c=>hk c.1]at hR;rw[show(kB x&&kB y)=false by simpa using hk]at h126;subst hR;clear hk hx hy;refine fY6 Tryz.func21 rfl ?_;refine gYn h126 ?_;refine gYn h25 ?_;exact⟨lr rfl,leG⟩
def xr(x y:Iv)(p:Int):Iv:=if(kB x&&kB y)=true/\pcB p=true/\zdr y≠0 then jy (fun a b=>ui a b p.toNat false) (fun a b=>ui a b p.toNat true) x y else wI0
theorem i85(x y:Iv)(hx:RI x)(hy:RI y)(p:Int):Fn 210 G0 [.agg (ivC x),.agg (ivC y),.int .i64 p] (.agg (ivC (xr x y p))) G0:=by
 have h126:=zrk [x,y] OC (by simpa using⟨hx,hy⟩);rw[k2]at h126;have h127:=qc3 p;have h25:=i25;have h134:=i134 y hy;rw[e25]at h25;have hR:xr x y p=if(kB x&&kB y)=true/\pcB p=true/\zdr y≠0 then jy (fun a b=>ui a b p.toNat false) (fun a b=>ui a b p.toNat true) x y else wI0:=rfl
 generalize xr x y p=R at*;generalize zdr y=S at*;by_cases hk:(kB x&&kB y)=true
 .rw[hk]at h126;by_cases hp:pcB p=true
  .rw[hp]at h127;by_cases hs:S=0
   .rw[Z5 fun c=>c.2.2 hs]at hR;subst hR hs;clear hk hx hy;refine fY6 Tryz.func210 rfl ?_;refine gYn h126 ?_;refine gYn h127 ?_;refine gYn h134 ?_;refine gYn h25 ?_;exact⟨lr rfl,leG⟩
   rw[Z4 ⟨hk,hp,hs⟩]at hR;rw[Bool.and_eq_true]at hk;have kx:=(zp hx).1 hk.1;have ky:=(zp hy).1 hk.2;obtain⟨q,rfl,hq⟩:=jx.1 hp;rw[q2]at hR;have n1:=i131d kx ky q hq;rw[<-hR]at n1;clear hR hk kx ky hx hy;refine fY6 Tryz.func210 rfl ?_;refine gYn h126 ?_;refine gYn h127 ?_;refine gYn h134 ?_;refine brI (fun k1=>?_) (fun k1=>?_)
   .have k1:S=0:=by simpa using k1
    exact absurd k1 hs
   conv=>whnf
   refine gYc n1 ?_;exact⟨lr rfl,leG⟩
  .rw[Z5 fun c=>hp c.2.1]at hR;rw[show pcB p=false by simpa using hp]at h127;subst hR;clear hk hx hy h134;refine fY6 Tryz.func210 rfl ?_;refine gYn h126 ?_;refine gYn h127 ?_;refine gYn h25 ?_;exact⟨lr rfl,leG⟩
 .rw[Z5 fun c=>hk c.1]at hR;rw[show(kB x&&kB y)=false by simpa using hk]at h126;subst hR;clear hk hx hy h134;refine fY6 Tryz.func210 rfl ?_;refine gYn h126 ?_;refine gYn h25 ?_;exact⟨lr rfl,leG⟩
def CI(x:Iv):Prop:=x=wI0\/(x.all=false/\VD x.lo/\VD x.hi)
theorem CI.ri{x:Iv}(h:CI x):RI x:=by
 rcases h with rfl|⟨_,h1,h2⟩
 .exact zp5
 .exact⟨h1.lb,h2.lb,by have:=h1.len;omega,by have:=h2.len;omega⟩
theorem zjm:CI wI0:=.inl rfl
theorem uw{a b:Dy×Int}(ha:VD a.1)(hb:VD b.1):CI (vh a b):=by
 unfold vh;split
 .exact zjm
 .exact .inr ⟨rfl,ha,hb⟩
theorem qk{p:Int}(h:pcB p=true):8<=p.toNat/\p.toNat<=512:=by
 obtain⟨q,rfl,hq⟩:=jx.1 h;exact hq
theorem zgr(x y:Iv)(p:Int):CI (yi x y p):=by
 unfold yi;split
 .rename_i h;exact uw (zok _ _ _ _ (qk h.2)) (zok _ _ _ _ (qk h.2))
 .exact zjm
theorem qhl{dn up:Dy×Int}{o:Iv}{K:Iv->Iv}(h1:VD dn.1)(h2:VD up.1)(h3:VD o.lo)(h4:VD o.hi)(hK:∀o,o.all=false->VD o.lo->VD o.hi->CI (K o)):CI (stI dn up o K):=by
 unfold stI;split
 .exact zjm
 .refine hK _ rfl ?_ ?_
  .simp only;split<;>assumption
  .simp only;split<;>assumption
theorem zhk(dn up:Dy->Dy->Dy×Int)(x y:Iv):jy dn up x y=s0I (dn x.lo y.lo) (up x.lo y.lo) (fun o=>stI (dn x.lo y.hi) (up x.lo y.hi) o (fun o=>stI (dn x.hi y.lo) (up x.hi y.lo) o (fun o=>stI (dn x.hi y.hi) (up x.hi y.hi) o (fun o=>o)))):=by
 unfold jy;rw[f4I]
theorem zyr{dn up:Dy->Dy->Dy×Int}(h1:∀a b,VD (dn a b).1)(h2:∀a b,VD (up a b).1)(x y:Iv):CI (jy dn up x y):=by
 rw[zhk];unfold s0I;split
 .exact zjm
 .refine qhl (h1 _ _) (h2 _ _) (h1 _ _) (h2 _ _) fun o _ a b=>?_
  refine qhl (h1 _ _) (h2 _ _) a b fun o _ a b=>?_
  refine qhl (h1 _ _) (h2 _ _) a b fun o c a b=>?_
  exact .inr ⟨c,a,b⟩
theorem zyq(x y:Iv)(p:Int):CI (zax x y p):=by
 unfold zax;split
 .rename_i h;exact zyr (fun a b=>kj _ _ _ _ (qk h.2)) (fun a b=>kj _ _ _ _ (qk h.2)) x y
 .exact zjm
theorem qdw(x y:Iv)(p:Int):CI (xr x y p):=by
 unfold xr;split
 .rename_i h;exact zyr (fun a b=>yj _ _ _ _ (qk h.2.1)) (fun a b=>yj _ _ _ _ (qk h.2.1)) x y
 .exact zjm
theorem qdu{x:Iv}(h:RI x):CI (zd1 x):=by
 unfold zd1;split
 .rename_i hk;have k:=(zp h).1 hk;exact .inr ⟨rfl,ua k.hi,ua k.lo⟩
 .exact zjm
theorem qdt(x:Iv)(n p:Int):CI (zje x n p):=by
 unfold zje;split
 .rename_i h;split
  .exact .inr ⟨rfl,jl 1 OA,jl 1 OA⟩
  .exact uw (qdn _ _ _ _ (qk h.2.1)) (qdn _ _ _ _ (qk h.2.1))
 .exact zjm
theorem zyp(x:Iv)(p:Int):CI (zbw x p):=by
 unfold zbw;split
 .rename_i h;exact uw (zyg _ _ _ (qk h.2.1)) (zyg _ _ _ (qk h.2.1))
 .exact zjm
def zkr(r:Rt)(p:Int):Iv:=if rOk r=true then vh (ui (wl r.n) (wl r.d) p.toNat false) (ui (wl r.n) (wl r.d) p.toNat true)else wI0
theorem qdv(r:Rt){p:Int}(hp:pcB p=true):CI (zkr r p):=by
 unfold zkr;split
 .exact uw (yj _ _ _ _ (qk hp)) (yj _ _ _ _ (qk hp))
 .exact zjm
theorem i50(r:Rt)(p:Int)(hp:pcB p=true):Fn 176 G0 [.agg [.int .i64 r.n,.int .i64 r.d],.int .i64 p] (.agg (ivC (zkr r p))) G0:=by
 have h15:=f54 r.n r.d;have hR:zkr r p=if rOk r=true then vh (ui (wl r.n) (wl r.d) p.toNat false) (ui (wl r.n) (wl r.d) p.toNat true)else wI0:=rfl
 have hr:rOk ⟨r.n,r.d⟩=rOk r:=rfl;rw[hr]at h15;generalize zkr r p=R at*;by_cases h:rOk r=true
 .rw[Z4 h]at hR;rw[h]at h15;obtain⟨q,rfl,hq⟩:=jx.1 hp;rw[q2]at hR;have hb:=zb9 h;unfold rIn at hb;have n1:=v77 r.n O;have n2:=v77 r.d O;have vn:=jl r.n O;have vd:=jl r.d O;have n3:=v76 vn vd q hq;have n4:=v78 vn vd q hq;generalize ui (wl r.n) (wl r.d) q false=A at*;generalize ui (wl r.n) (wl r.d) q true=B at*;generalize wl r.n=N at*;generalize wl r.d=D at*;clear vn vd;obtain⟨⟨a1,a2,a3⟩,e⟩:=A;obtain⟨⟨b1,b2,b3⟩,f⟩:=B;unfold vh at hR;simp only at hR;refine fY6 Tryz.func176 rfl ?_;refine gYn h15 ?_;refine gYc n1 ?_;refine gYc n2 ?_;refine gYc n3 ?_;refine gYd ?_;refine gYc n1 ?_;refine gYc n2 ?_;refine gYc n4 ?_;refine gYd ?_;refine brI (fun k1=>?_) (fun k1=>?_)
  .have k1:e≠0:=by simpa using k1
   rw[Z4 (.inl k1)]at hR;subst hR;conv=>whnf
   exact⟨leW,leG⟩
  have k1:e=0:=by simpa using k1
  conv=>whnf
  refine brI (fun k2=>?_) (fun k2=>?_)
  .have k2:f≠0:=by simpa using k2
   rw[Z4 (.inr k2)]at hR;subst hR;conv=>whnf
   exact⟨leW,leG⟩
  have k2:f=0:=by simpa using k2
  rw[Z5 (by simp[k1,k2])]at hR;subst hR;conv=>whnf
  exact⟨lr rfl,leG⟩
 .rw[Z5 h]at hR;rw[show rOk r=false by simpa using h]at h15;subst hR;refine fY6 Tryz.func176 rfl ?_;refine gYn h15 ?_;exact⟨leW,leG⟩
def apI(fx:Int->Iv->Int->Iv)(k n:Int)(x y:Iv)(p:Int):Iv:=
 if k=3 then yi x y p else if k=4 then zzf x y p else if k=5 then zax x y p else if k=6 then xr x y p else if k=7 then zd1 x else if k=8 then zje x n p
 else if k=13 then zbw x p else if 9<=k/\k<=12 then fx k x p else wI0
def Ka(k:Int):Prop:=k=3\/k=4\/k=5\/k=6\/k=7\/k=8\/k=13
theorem qb2{fx:Int->Iv->Int->Iv}{k:Int}(hk:Ka k)(n:Int){x:Iv}(y:Iv)(p:Int)(hx:RI x):CI (apI fx k n x y p):=by
 rcases hk with rfl|rfl|rfl|rfl|rfl|rfl|rfl
 .exact zgr _ _ _
 .exact zgr _ _ _
 .exact zyq _ _ _
 .exact qdw _ _ _
 .exact qdu hx
 .exact qdt _ _ _
 .exact zyp _ _
theorem i52{fx:Int->Iv->Int->Iv}{k:Int}(hk:Ka k)(n:Int)(x y:Iv)(hx:RI x)(hy:RI y)(p:Int):Fn 177 G0 [.int .i64 k,.int .i64 n,.agg (ivC x),.agg (ivC y),.int .i64 p] (.agg (ivC (apI fx k n x y p))) G0:=by
 have h3:=i82 x y hx hy p;have h4:=i83 x y hx hy p;have h5:=i84 x y hx hy p;have h6:=i85 x y hx hy p;have h7:=i86 x hx;have h8:=i87 x hx n p;have h13:=i92 x hx p;rcases hk with rfl|rfl|rfl|rfl|rfl|rfl|rfl
 .have e:apI fx 3 n x y p=yi x y p:=rfl;rw[e];generalize yi x y p=R at*;clear h4 h5 h6 h7 h8 h13 hx hy;refine fY6 Tryz.func177 rfl ?_;refine gYc h3 ?_;exact⟨lr rfl,leG⟩
 .have e:apI fx 4 n x y p=zzf x y p:=rfl;rw[e];generalize zzf x y p=R at*;clear h3 h5 h6 h7 h8 h13 hx hy;refine fY6 Tryz.func177 rfl ?_;refine gYc h4 ?_;exact⟨lr rfl,leG⟩
 .have e:apI fx 5 n x y p=zax x y p:=rfl;rw[e];generalize zax x y p=R at*;clear h3 h4 h6 h7 h8 h13 hx hy;refine fY6 Tryz.func177 rfl ?_;refine gYc h5 ?_;exact⟨lr rfl,leG⟩
 .have e:apI fx 6 n x y p=xr x y p:=rfl;rw[e];generalize xr x y p=R at*;clear h3 h4 h5 h7 h8 h13 hx hy;refine fY6 Tryz.func177 rfl ?_;refine gYc h6 ?_;exact⟨lr rfl,leG⟩
 .have e:apI fx 7 n x y p=zd1 x:=rfl;rw[e];generalize zd1 x=R at*;clear h3 h4 h5 h6 h8 h13 hx hy;refine fY6 Tryz.func177 rfl ?_;refine gYn h7 ?_;exact⟨lr rfl,leG⟩
 .have e:apI fx 8 n x y p=zje x n p:=rfl;rw[e];generalize zje x n p=R at*;clear h3 h4 h5 h6 h7 h13 hx hy;refine fY6 Tryz.func177 rfl ?_;refine gYc h8 ?_;exact⟨lr rfl,leG⟩
 .have e:apI fx 13 n x y p=zbw x p:=rfl;rw[e];generalize zbw x p=R at*;clear h3 h4 h5 h6 h7 h8 hx hy;refine fY6 Tryz.func177 rfl ?_;refine gYc h13 ?_;exact⟨lr rfl,leG⟩
abbrev zdx:=List (zg×Iv)
def zI:Iv:=⟨d0,d0,false⟩
theorem qd2:RI zI:=⟨qg.lb,qg.lb,OA,OA⟩
def okI(x:Iv):Iv:=if viB x=true then x else wI0
mutual
def evE(fx:Int->Iv->Int->Iv)(p:Int)(es:zdx):Ex->Iv×Bool
 |.mk k q s n l=>if k=1 then(zkr q p,true)else if k=2 then(okI (zgz .str s zI es),zds .str s es)else evL fx p es k n l []
def evL(fx:Int->Iv->Int->Iv)(p:Int)(es:zdx)(k n:Int):List Ex->List Iv->Iv×Bool
 | [],acc=>(apI fx k n (acc[0]?.getD zI) (acc[1]?.getD zI) p,true)
 |x::l,acc=>if(evE fx p es x).2=true then evL fx p es k n l (acc++ [(evE fx p es x).1])else((evE fx p es x).1,false)
end
theorem zn4(fx:Int->Iv->Int->Iv)(p:Int)(es:zdx)(r:Rt):evE fx p es (zge r)=(zkr r p,true):=by simp[zge,evE]
theorem zkq(fx:Int->Iv->Int->Iv)(p:Int)(es:zdx)(s:zg):evE fx p es (zjn s)=(okI (zgz .str s zI es),zds .str s es):=by simp[zjn,evE]
theorem zd4(fx:Int->Iv->Int->Iv)(p:Int)(es:zdx)(k n:Int)(a:Ex)(h:k≠1/\k≠2):evE fx p es (opE k n [a])=if(evE fx p es a).2=true then(apI fx k n (evE fx p es a).1 zI p,true)else((evE fx p es a).1,false):=by
 simp[opE,evE,evL,h.1,h.2]
theorem zn3(fx:Int->Iv->Int->Iv)(p:Int)(es:zdx)(k n:Int)(a b:Ex)(h:k≠1/\k≠2):evE fx p es (opE k n [a,b])=if(evE fx p es a).2=true then(if(evE fx p es b).2=true then(apI fx k n (evE fx p es a).1 (evE fx p es b).1 p,true)else((evE fx p es b).1,false))else((evE fx p es a).1,false):=by
 simp[opE,evE,evL,h.1,h.2]
inductive VK(K:Int->Prop):Ex->Prop
 |num (r:Rt):rOk r=true->VK K (zge r)
 |var (s:zg):zia s=true->VK K (zjn s)
 |un (k:Int) (a:Ex):K k->K1 k->VK K a->VK K (opE k 0 [a])
 |pow (n:Int) (a:Ex):K 8->0<=n->n<=16->VK K a->VK K (opE 8 n [a])
 |bin (k:Int) (a b:Ex):K k->K2 k->VK K a->VK K b->VK K (opE k 0 [a,b])
abbrev HvE(es:zdx):Hp:= [(vu,.gst JT),(1000001,.map .str .iv es)]
theorem znm{h h':Hp}{es:zdx}:leH h h' (HvE es) (HvE es):=lh1 (bg0 rfl) (lh1 (bm0 rfl) lh0)
abbrev ioV(r:Iv×Bool):AV:=.tup [.agg (ivC r.1),.bool r.2]
def ApK(fx:Int->Iv->Int->Iv)(K:Int->Prop)(p:Int):Prop:=
 ∀k n x y,K k->RI x->RI y->Fn 177 G0 [.int .i64 k,.int .i64 n,.agg (ivC x),.agg (ivC y),.int .i64 p] (.agg (ivC (apI fx k n x y p))) G0/\CI (apI fx k n x y p)
def REs(es:zdx):Prop:=∀q∈es,RI q.2
theorem zo4{s:zg}{es:zdx}(h:REs es):RI (zgz .str s zI es):=by
 induction es with
 |nil=>exact qd2
 |cons q es ih=>
  obtain⟨y,v⟩:=q;simp only[zgz]
  cases zl0 .str s y with
  |true=>exact h (y,v) q1
  |false=>exact ih fun q hq=>h q (q0 _ hq)
theorem zv2{x:Iv}(h:RI x):VI (okI x):=by
 unfold okI;split
 .rename_i hv;exact(zd6 h).1 hv
 .exact .inr rfl
theorem i26v(fx:Int->Iv->Int->Iv)(p:Int)(es:zdx)(hes:REs es)(s:zg):Fn 96 (HvE es) [.agg (exC (zjn s)),.mp 1000001,.int .i64 p] (ioV (evE fx p es (zjn s))) (HvE es):=by
 rw[zkq];have h51:=i51 _ (zo4 (s:=s) hes);have h25:=i25;rw[e25]at h25;have hok:okI (zgz .str s zI es)=if viB (zgz .str s zI es)=true then zgz .str s zI es else wI0:=rfl
 generalize okI (zgz .str s zI es)=Oq at*;generalize viB (zgz .str s zI es)=V at*;refine fY6 Tryz.func96 rfl ?_;refine cbI [] V h51 (fun h1=>?_) (fun h1=>?_)
 .rw[Z4 h1]at hok;subst hok;conv=>whnf
  exact⟨lr rfl,znm⟩
 .rw[Z5 (by rw[h1];simp)]at hok;subst hok;conv=>whnf
  refine gYn h25 ?_;exact⟨lr rfl,znm⟩
theorem i26n(fx:Int->Iv->Int->Iv)(p:Int)(hp:pcB p=true)(es:zdx)(r:Rt):Fn 96 (HvE es) [.agg (exC (zge r)),.mp 1000001,.int .i64 p] (ioV (evE fx p es (zge r))) (HvE es):=by
 rw[zn4];have h50:=i50 r p hp;generalize zkr r p=R at*;refine fY6 Tryz.func96 rfl ?_;refine gYc h50 ?_;exact⟨lr rfl,znm⟩
abbrev z7:List AV:= [.bool false,.sl .u32 [],.int .i64 0,.bool false,.sl .u32 [],.int .i64 0,.bool false]
theorem i26u(p:Int)(es:zdx)(k n:Int)(hk:k≠1/\k≠2)(a:Ex)(A C:Iv)(ok:Bool)(ha:Fn 96 (HvE es) [.agg (exC a),.mp 1000001,.int .i64 p] (.tup [.agg (ivC A),.bool ok]) (HvE es))
 (hc:Fn 177 G0 [.int .i64 k,.int .i64 n,.agg (ivC A),.agg (ivC zI),.int .i64 p] (.agg (ivC C)) G0):
 Fn 96 (HvE es) [.agg (exC (opE k n [a])),.mp 1000001,.int .i64 p] (ioV (if ok=true then(C,true)else(A,false))) (HvE es):=by
 obtain⟨⟨a1,a2,a3⟩,⟨a4,a5,a6⟩,a7⟩:=A;obtain⟨⟨c1,c2,c3⟩,⟨c4,c5,c6⟩,c7⟩:=C;have hc:Fn 177 G0 [.int .i64 k,.int .i64 n,.agg [.bool a1,.sl .u32 a2,.int .i64 a3,.bool a4,.sl .u32 a5,.int .i64 a6,.bool a7],.agg z7,.int .i64 p] (.agg [.bool c1,.sl .u32 c2,.int .i64 c3,.bool c4,.sl .u32 c5,.int .i64 c6,.bool c7]) G0:=hc;have hk1:(k==1)=false:=by simpa using hk.1
 have hk2:(k==2)=false:=by simpa using hk.2
 refine fY6 Tryz.func96 rfl ?_;refine brI (fun h1=>?_) (fun h1=>?_)
 .have h1:(k==1)=true:=h1;rw[hk1]at h1;cases h1
 conv=>whnf
 refine brI (fun h1=>?_) (fun h1=>?_)
 .have h1:(k==2)=true:=h1;rw[hk2]at h1;cases h1
 conv=>whnf
 refine⟨Nat,fun i=>i<=1/\(i=1->ok=true),fun i=> [(41,.int .i64 i)],fun i=> [(10,.cells (match i with
  |0=>z7++z7
  | _=> [.bool a1,.sl .u32 a2,.int .i64 a3,.bool a4,.sl .u32 a5,.int .i64 a6,.bool a7]++z7))],fun i=>1-i,0,⟨OC,OC⟩,?_,fun i hi=>?_⟩
 .exact KZ0
 obtain⟨hi1,hi2⟩:=hi;obtain rfl|rfl:i=0\/i=1:=O
 .refine gYe ?_;refine ix0 ?_;conv=>whnf
  refine⟨[.gst JT,.map .str .iv es],_,ha,?_⟩;conv=>whnf
  cases ok with
  |true=>
   conv=>whnf
   refine⟨⟨O,O⟩,?_⟩;conv=>whnf
   refine⟨1,⟨OA,fun _=>rfl⟩,OA,?_⟩;exact KZ0
  |false=>
   conv=>whnf
   exact⟨lr rfl,znm⟩
 .have hok:=hi2 rfl;subst hok;refine gYe ?_;refine⟨⟨O,O⟩,?_⟩;conv=>whnf
  refine⟨⟨O,O⟩,?_⟩;conv=>whnf
  refine gYc hc ?_;exact⟨lr rfl,znm⟩
theorem i26b(p:Int)(es:zdx)(k n:Int)(hk:k≠1/\k≠2)(a b:Ex)(A B C:Iv)(ok ok2:Bool)(ha:Fn 96 (HvE es) [.agg (exC a),.mp 1000001,.int .i64 p] (.tup [.agg (ivC A),.bool ok]) (HvE es))
 (hb:Fn 96 (HvE es) [.agg (exC b),.mp 1000001,.int .i64 p] (.tup [.agg (ivC B),.bool ok2]) (HvE es))
 (hc:Fn 177 G0 [.int .i64 k,.int .i64 n,.agg (ivC A),.agg (ivC B),.int .i64 p] (.agg (ivC C)) G0):
 Fn 96 (HvE es) [.agg (exC (opE k n [a,b])),.mp 1000001,.int .i64 p] (ioV (if ok=true then(if ok2=true then(C,true)else(B,false))else(A,false))) (HvE es):=by
 obtain⟨⟨a1,a2,a3⟩,⟨a4,a5,a6⟩,a7⟩:=A;obtain⟨⟨b1,b2,b3⟩,⟨b4,b5,b6⟩,b7⟩:=B;obtain⟨⟨c1,c2,c3⟩,⟨c4,c5,c6⟩,c7⟩:=C;have hc:Fn 177 G0 [.int .i64 k,.int .i64 n,.agg [.bool a1,.sl .u32 a2,.int .i64 a3,.bool a4,.sl .u32 a5,.int .i64 a6,.bool a7],.agg [.bool b1,.sl .u32 b2,.int .i64 b3,.bool b4,.sl .u32 b5,.int .i64 b6,.bool b7],.int .i64 p] (.agg [.bool c1,.sl .u32 c2,.int .i64 c3,.bool c4,.sl .u32 c5,.int .i64 c6,.bool c7]) G0:=hc;have hk1:(k==1)=false:=by simpa using hk.1
 have hk2:(k==2)=false:=by simpa using hk.2
 refine fY6 Tryz.func96 rfl ?_;refine brI (fun h1=>?_) (fun h1=>?_)
 .have h1:(k==1)=true:=h1;rw[hk1]at h1;cases h1
 conv=>whnf
 refine brI (fun h1=>?_) (fun h1=>?_)
 .have h1:(k==2)=true:=h1;rw[hk2]at h1;cases h1
 conv=>whnf
 refine⟨Nat,fun i=>i<=2/\(1<=i->ok=true)/\(i=2->ok2=true),fun i=> [(41,.int .i64 i)],fun i=> [(10,.cells (match i with
  |0=>z7++z7
  |1=> [.bool a1,.sl .u32 a2,.int .i64 a3,.bool a4,.sl .u32 a5,.int .i64 a6,.bool a7]++z7
  | _=> [.bool a1,.sl .u32 a2,.int .i64 a3,.bool a4,.sl .u32 a5,.int .i64 a6,.bool a7,.bool b1,.sl .u32 b2,.int .i64 b3,.bool b4,.sl .u32 b5,.int .i64 b6,.bool b7]))],fun i=>2-i,0,⟨OC,OC,OC⟩,?_,fun i hi=>?_⟩
 .exact KZ0
 obtain⟨hi1,hi2,hi3⟩:=hi;obtain rfl|rfl|rfl:i=0\/i=1\/i=2:=O
 .refine gYe ?_;refine ix0 ?_;conv=>whnf
  refine⟨[.gst JT,.map .str .iv es],_,ha,?_⟩;conv=>whnf
  cases ok with
  |true=>
   conv=>whnf
   refine⟨⟨O,O⟩,?_⟩;conv=>whnf
   refine⟨1,⟨OA,fun _=>rfl,fun h=>by cases h⟩,OA,?_⟩;exact KZ0
  |false=>
   conv=>whnf
   exact⟨lr rfl,znm⟩
 .have hok:=hi2 OA;subst hok;refine gYe ?_;refine ix1 ?_;conv=>whnf
  refine⟨[.gst JT,.map .str .iv es],_,hb,?_⟩;conv=>whnf
  cases ok2 with
  |true=>
   conv=>whnf
   refine⟨⟨O,O⟩,?_⟩;conv=>whnf
   refine⟨2,⟨OA,fun _=>rfl,fun _=>rfl⟩,OA,?_⟩;exact KZ0
  |false=>
   conv=>whnf
   exact⟨lr rfl,znm⟩
 .have hok:=hi2 OA;have hok2:=hi3 rfl;subst hok hok2;refine gYe ?_;refine⟨⟨O,O⟩,?_⟩;conv=>whnf
  refine⟨⟨O,O⟩,?_⟩;conv=>whnf
  refine gYc hc ?_;exact⟨lr rfl,znm⟩
theorem i26{fx:Int->Iv->Int->Iv}{K:Int->Prop}{p:Int}(hp:pcB p=true)(hA:ApK fx K p){es:zdx}(hes:REs es){e:Ex}(he:VK K e):
 Fn 96 (HvE es) [.agg (exC e),.mp 1000001,.int .i64 p] (ioV (evE fx p es e)) (HvE es)/\RI (evE fx p es e).1:=by
 induction he with
 |num r hr=>exact⟨i26n fx p hp es r,by rw[zn4];exact(qdv r hp).ri⟩
 |var s hs=>exact⟨i26v fx p es hes s,by rw[zkq];exact(zv2 (zo4 hes)).ri⟩
 |un k a hk h1 _ ih=>
  have hne:k≠1/\k≠2:=by unfold K1 at h1;omega
  obtain⟨c1,c2⟩:=hA k 0 _ zI hk ih.2 qd2;rw[zd4 fx p es k 0 a hne];refine⟨i26u p es k 0 hne a _ _ _ ih.1 c1,?_⟩;split
  .exact c2.ri
  .exact ih.2
 |pow n a hk h1 h2 _ ih=>
  obtain⟨c1,c2⟩:=hA 8 n _ zI hk ih.2 qd2;rw[zd4 fx p es 8 n a OA];refine⟨i26u p es 8 n OA a _ _ _ ih.1 c1,?_⟩;split
  .exact c2.ri
  .exact ih.2
 |bin k a b hk h1 _ _ ih1 ih2=>
  have hne:k≠1/\k≠2:=by unfold K2 at h1;omega
  obtain⟨c1,c2⟩:=hA k 0 _ _ hk ih1.2 ih2.2;rw[zn3 fx p es k 0 a b hne];refine⟨i26b p es k 0 hne a b _ _ _ _ _ ih1.1 ih2.1 c1,?_⟩;split
  .split
   .exact c2.ri
   .exact ih2.2
  .exact ih1.2
def xk:List zg->List Iv->zdx->zdx
 |n::ns,r::rs,es=>xk ns rs (zby .str n r es)
 | _,_,es=>es
theorem qko(ns:List zg)(rs:List Iv)(h:¬(ns.length=rs.length/\ns.length<=200))(h1:ns.length<9223372036854775808)(h2:rs.length<9223372036854775808):
 Fn 94 [] [.sl .str ns,.sl .iv rs] (.tup [.any,.bool false]) [(2000000,.dead)]:=by
 refine fnT hT6 hmx Tryz.func94 rfl rfl (ex:= [21]) ?_;conv=>whnf
 refine brI (fun h3=>?_) (fun h3=>?_)
 .conv=>whnf
  exact⟨lt0 (lc la0 (lc (lr rfl) ln0)),lh1 bd0 lh0⟩
 .conv=>whnf
  refine brI (fun h4=>?_) (fun h4=>?_)
  .conv=>whnf
   exact⟨lt0 (lc la0 (lc (lr rfl) ln0)),lh1 bd0 lh0⟩
  .refine absurd ⟨?_,?_⟩ h
   .have h3:((ns.length:Int) != (rs.length:Int))=false:=h3;simp only[bne_eq_false_iff_eq]at h3;omega
   .simp only[Z3]at h4;omega
theorem zxa{ns:List zg}{rs:List Iv}{i:Nat}{n:zg}{r:Iv}(es:zdx)(h1:ns[i]? =some n)(h2:rs[i]? =some r):xk (ns.drop i) (rs.drop i) es=xk (ns.drop (i+1)) (rs.drop (i+1)) (zby .str n r es):=by
 rw[qe h1,qe h2];rfl
theorem zfb(n:zg)(r:Iv):∀es:zdx,(zby .str n r es).length <=es.length+1
 | []=>by simp[zby]
 |(y,v)::l=>by
  have:=zfb n r l;simp only[zby];cases zl0 .str n y
  .simp only[cond_false,q4];omega
  .simp only[cond_true,q4];omega
theorem i23(ns:List zg)(rs:List Iv)(h:ns.length=rs.length/\ns.length<=200):
 Fn 94 [] [.sl .str ns,.sl .iv rs] (.tup [.mp 2000000,.bool (decide ((xk ns rs []).length =rs.length))]) [(2000000,.map .str .iv (xk ns rs []))]:=by
 refine fnT hT6 hmx Tryz.func94 rfl rfl (ex:= [21]) ?_;conv=>whnf
 refine brI (fun h0=>?_) (fun h0=>?_)
 .have h0:((ns.length:Int) != (rs.length:Int))=true:=h0;refine absurd h.1 (fun e=>?_);rw[e]at h0;simp at h0
 conv=>whnf
 refine brI (fun h0=>absurd h.2 (by simp only[Z2]at h0;omega)) (fun _=>?_);conv=>whnf
 refine⟨Nat×zdx,fun x=>x.1<=ns.length/\xk (ns.drop x.1) (rs.drop x.1) x.2=xk ns rs []/\x.2.length<=x.1,fun x=> [(24,.int .i64 x.1)],fun x=> [(21,.map .str .iv x.2)],fun x=>ns.length-x.1,(0,[]),⟨OC,rfl,OC⟩,?_,fun x hx=>?_⟩
 .exact KZ0
 refine gYe ?_;obtain⟨i,es⟩:=x;obtain⟨hx1,hx2,hx3⟩:=hx;simp only at hx1 hx2 hx3;refine brI (fun h3=>?_) (fun h3=>?_)
 .conv=>whnf
  have h3:i<ns.length:=by simp only[Z2]at h3;omega
  refine⟨⟨O,O⟩,fun n hn=>?_⟩;have hn:ns[i]? =some n:=by simpa using hn
  conv=>whnf
  refine⟨⟨O,OD⟩,fun r hr=>?_⟩;have hr:rs[i]? =some r:=by simpa using hr
  rw[zxa es hn hr]at hx2;conv=>whnf
  refine⟨(i+1,zby .str n r es),⟨OD,hx2,by have:=zfb n r es;simp only;omega⟩,by show ns.length-(i+1)<ns.length-i;omega,?_⟩;exact KZ0
 .conv=>whnf
  have h3:¬i<ns.length:=by simp only[Z3]at h3;omega
  rw[q3 O,q3 O]at hx2;have hx2:es=xk ns rs []:=hx2;rw[<-hx2];refine⟨lt0 (lc (lr rfl) (lc (ab0 ?_) ln0)),lh1 (bm0 rfl) lh0⟩;rw[Bool.eq_iff_iff,Z2];constructor
  .intro h;have h:((es.length:Int)==(rs.length:Int))=true:=h;simp only[beq_iff_eq]at h;omega
  .intro h;show((es.length:Int)==(rs.length:Int))=true;simp only[beq_iff_eq];omega
theorem zrb{n:zg}{r:Iv}(hr:RI r):∀ {es:zdx},REs es->REs (zby .str n r es)
 | [],_=>by
   intro q hq;simp only[zby,List.mem_singleton]at hq;subst hq;exact hr
 |(y,v)::l,h=>by
  have ih:=zrb (n:=n) hr (es:=l) fun q hq=>h q (q0 _ hq)
  intro q hq;simp only[zby]at hq
  cases hk:zl0 .str n y with
  |true=>
   rw[hk,cond_true]at hq;rcases q5.1 hq with rfl|hq
   .exact hr
   .exact h q (q0 _ hq)
  |false=>
   rw[hk,cond_false]at hq;rcases q5.1 hq with rfl|hq
   .exact h _ q1
   .exact ih q hq
theorem zhl:∀(ns:List zg)(rs:List Iv)(es:zdx),(∀r∈rs,RI r)->REs es->REs (xk ns rs es)
 | [],_,es,_,h=>by cases ‹List Iv› <;>exact h
 | _::_,[],es,_,h=>h
 |n::ns,r::rs,es,hr,h=>zhl ns rs _ (fun x hx=>hr x (q0 _ hx)) (zrb (hr r q1) h)
def enB(ns:List zg)(xs:List Iv):Bool:=decide (ns.length=xs.length/\ns.length<=200/\(xk ns xs []).length =xs.length)
def zjb(fx:Int->Iv->Int->Iv)(e:Ex)(ns:List zg)(xs:List Iv)(p:Int):Iv:=
 if(enB ns xs=true/\okT e=true/\pcB p=true)/\(evE fx p (xk ns xs []) e).2=true then(evE fx p (xk ns xs []) e).1 else wI0
theorem i8{fx:Int->Iv->Int->Iv}{K:Int->Prop}(hA:∀p,pcB p=true->ApK fx K p)(e:Ex)(he:Sm e)(hK:okT e=true->VK K e)(ns:List zg)(xs:List Iv)(hx:∀x∈xs,RI x)(h1:ns.length<9223372036854775808)(h2:xs.length<9223372036854775808)(p:Int):
 Fn 32 G0 [.agg (exC e),.sl .str ns,.sl .iv xs,.int .i64 p] (.agg (ivC (zjb fx e ns xs p))) G0:=by
 have h24:=f17 e he;have h25:=i25;rw[e25]at h25;have hR:zjb fx e ns xs p=if(enB ns xs=true/\okT e=true/\pcB p=true)/\(evE fx p (xk ns xs []) e).2=true then(evE fx p (xk ns xs []) e).1 else wI0:=rfl
 generalize zjb fx e ns xs p=R at*;by_cases hl:ns.length=xs.length/\ns.length<=200
 rotate_left
 .rw[Z5 fun c=>hl (by have:=c.1.1;unfold enB at this;have:=Z0 this;exact⟨this.1,this.2.1⟩)]at hR;subst hR;have h23:=qko ns xs hl h1 h2;refine fY6 Tryz.func32 rfl ?_;refine⟨[],[.dead],_,h23,?_⟩;conv=>whnf
  refine gYn h25 ?_;exact⟨lr rfl,leG⟩
 have h23:=i23 ns xs hl;by_cases hen:(xk ns xs []).length =xs.length
 rotate_left
 .rw[Z5 fun c=>hen (by have:=c.1.1;unfold enB at this;have:=Z0 this;exact this.2.2)]at hR;subst hR;rw[Z7 hen]at h23;refine fY6 Tryz.func32 rfl ?_;refine⟨[],[.map .str .iv (xk ns xs [])],_,h23,?_⟩;conv=>whnf
  refine gYn h25 ?_;exact⟨lr rfl,leG⟩
 have hE:enB ns xs=true:=by unfold enB;exact Z6 ⟨hl.1,hl.2,hen⟩
 rw[Z6 hen]at h23;by_cases hok:okT e=true
 rotate_left
 .rw[Z5 fun c=>hok c.1.2.1]at hR;subst hR;rw[show okT e=false by simpa using hok]at h24;refine fY6 Tryz.func32 rfl ?_;refine⟨[],[.map .str .iv (xk ns xs [])],_,h23,?_⟩;conv=>whnf
  refine gYn h24 ?_;refine gYn h25 ?_;exact⟨lr rfl,leG⟩
 rw[hok]at h24;by_cases hp:pcB p=true
 rotate_left
 .rw[Z5 fun c=>hp c.1.2.2]at hR;subst hR;have hp:¬(8<=p/\p<=512):=fun c=>hp (by unfold pcB;simp;omega)
  refine fY6 Tryz.func32 rfl ?_;refine⟨[],[.map .str .iv (xk ns xs [])],_,h23,?_⟩;conv=>whnf
  refine gYn h24 ?_;refine brI (fun k1=>?_) (fun k1=>?_)
  .conv=>whnf
   refine gYn h25 ?_;exact⟨lr rfl,leG⟩
  have k1:¬p<8:=Z1 k1;conv=>whnf
  refine brI (fun k2=>?_) (fun k2=>?_)
  .conv=>whnf
   refine gYn h25 ?_;exact⟨lr rfl,leG⟩
  have k2:¬512<p:=Z1 k2;omega
 have hp2:8<=p/\p<=512:=by unfold pcB at hp;simpa using hp
 obtain⟨h26,_⟩:=i26 hp (hA p hp) (zhl ns xs [] hx fun q hq=>by cases hq) (hK hok);obtain⟨V,hV⟩:∃V,evE fx p (xk ns xs []) e=V:=⟨_,rfl⟩;rw[hV]at hR h26;obtain⟨⟨⟨v1,v2,v3⟩,⟨v4,v5,v6⟩,v7⟩,ok⟩:=V;have h26:Fn 96 (HvE (xk ns xs [])) [.agg (exC e),.mp 1000001,.int .i64 p] (.tup [.agg [.bool v1,.sl .u32 v2,.int .i64 v3,.bool v4,.sl .u32 v5,.int .i64 v6,.bool v7],.bool ok]) (HvE (xk ns xs [])):=h26;simp only at hR
 cases ok with
 |true=>
  rw[Z4 ⟨⟨hE,hok,hp⟩,rfl⟩]at hR;subst hR;refine fY6 Tryz.func32 rfl ?_;refine⟨[],[.map .str .iv (xk ns xs [])],_,h23,?_⟩;conv=>whnf
  refine gYn h24 ?_;refine brI (fun k1=>?_) (fun k1=>?_)
  .have k1:=Z0 k1;omega
  conv=>whnf
  refine brI (fun k2=>?_) (fun k2=>?_)
  .have k2:=Z0 k2;omega
  conv=>whnf
  refine⟨[.gst JT,.map .str .iv (xk ns xs [])],_,h26.sw [(15,1000001)] rfl,?_⟩;conv=>whnf
  exact⟨lr rfl,leG⟩
 |false=>
  rw[Z5 fun c=>by cases c.2]at hR;subst hR;refine fY6 Tryz.func32 rfl ?_;refine⟨[],[.map .str .iv (xk ns xs [])],_,h23,?_⟩;conv=>whnf
  refine gYn h24 ?_;refine brI (fun k1=>?_) (fun k1=>?_)
  .have k1:=Z0 k1;omega
  conv=>whnf
  refine brI (fun k2=>?_) (fun k2=>?_)
  .have k2:=Z0 k2;omega
  conv=>whnf
  refine⟨[.gst JT,.map .str .iv (xk ns xs [])],_,h26.sw [(15,1000001)] rfl,?_⟩;conv=>whnf
  refine gYn h25 ?_;exact⟨lr rfl,leG⟩
