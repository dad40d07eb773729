/- Intervals: products, quotients, squares, Meet, Width. -/
import Derived.Test.YthbgbmdmimejiaaGreatDoorMYy
import Derived.Test.YthbgbmdmimejiaaGreatDoorMYXb
import Derived.Test.YthbgbmdmimejiaaGreatDoorMVa
set_option linter.all false
open Int renaming toNat_natCast->q4
open List renaming mem_cons_of_mem->q2,mem_cons_self->q3,drop_of_length_le->q5,length_cons->q6,mem_cons->q7
namespace Go.Proofs.YthbgbmdmimejiaaGreatDoor
open Go Go.Sx
set_option maxRecDepth 100000
set_option maxHeartbeats 8000000
def za9(x y:Iv)(p:Int):Iv:=if(kB x&&kB y)=true/\pcB p=true then ur (fun a b=>kf a b p.toNat false) (fun a b=>kf a b p.toNat true) x y else wI0
theorem i84(x y:Iv)(hx:RI x)(hy:RI y)(p:Int):Fn 98 G0 [.agg (ivC x),.agg (ivC y),.int .i64 p] (.agg (ivC (za9 x y p))) G0:=by
 have h126:=zra [x,y] OC (by simpa using⟨hx,hy⟩);rw[k2]at h126;have h127:=qcw p;have h25:=i25;rw[e25]at h25;have hR:za9 x y p=if(kB x&&kB y)=true/\pcB p=true then ur (fun a b=>kf a b p.toNat false) (fun a b=>kf a b p.toNat true) x y else wI0:=rfl
 generalize za9 x y p=R at*;by_cases hk:(kB x&&kB y)=true
 .rw[hk]at h126;by_cases hp:pcB p=true
  .rw[hp]at h127;rw[Z4 ⟨hk,hp⟩]at hR;rw[Bool.and_eq_true]at hk;have kx:=(zq hx).1 hk.1;have ky:=(zq hy).1 hk.2;obtain⟨q,rfl,hq⟩:=kq.1 hp;rw[q4]at hR;have n1:=i131m kx ky q hq;rw[<-hR]at n1;clear hR hk kx ky hx hy;refine fY6 Tryz.func98 rfl ?_;refine gYn h126 ?_;refine gYn h127 ?_;refine gYc n1 ?_;exact⟨lr rfl,leG⟩
  .rw[Z5 fun c=>hp c.2]at hR;rw[show pcB p=false by simpa using hp]at h127;subst hR;clear hk hx hy;refine fY6 Tryz.func98 rfl ?_;refine gYn h126 ?_;refine gYn h127 ?_;refine gYn h25 ?_;exact⟨lr rfl,leG⟩
 .rw[Z5 fun c=>hk c.1]at hR;rw[show(kB x&&kB y)=false by simpa using hk]at h126;subst hR;clear hk hx hy;refine fY6 Tryz.func98 rfl ?_;refine gYn h126 ?_;refine gYn h25 ?_;exact⟨lr rfl,leG⟩
def xt(x y:Iv)(p:Int):Iv:=if(kB x&&kB y)=true/\pcB p=true/\zoo y≠0 then ur (fun a b=>ut a b p.toNat false) (fun a b=>ut a b p.toNat true) x y else wI0
theorem i85(x y:Iv)(hx:RI x)(hy:RI y)(p:Int):Fn 99 G0 [.agg (ivC x),.agg (ivC y),.int .i64 p] (.agg (ivC (xt x y p))) G0:=by
 have h126:=zra [x,y] OC (by simpa using⟨hx,hy⟩);rw[k2]at h126;have h127:=qcw p;have h25:=i25;have h134:=i134 y hy;rw[e25]at h25;have hR:xt x y p=if(kB x&&kB y)=true/\pcB p=true/\zoo y≠0 then ur (fun a b=>ut a b p.toNat false) (fun a b=>ut a b p.toNat true) x y else wI0:=rfl
 generalize xt x y p=R at*;generalize zoo y=S at*;by_cases hk:(kB x&&kB y)=true
 .rw[hk]at h126;by_cases hp:pcB p=true
  .rw[hp]at h127;by_cases hs:S=0
   .rw[Z5 fun c=>c.2.2 hs]at hR;subst hR hs;clear hk hx hy;refine fY6 Tryz.func99 rfl ?_;refine gYn h126 ?_;refine gYn h127 ?_;refine gYn h134 ?_;refine gYn h25 ?_;exact⟨lr rfl,leG⟩
   rw[Z4 ⟨hk,hp,hs⟩]at hR;rw[Bool.and_eq_true]at hk;have kx:=(zq hx).1 hk.1;have ky:=(zq hy).1 hk.2;obtain⟨q,rfl,hq⟩:=kq.1 hp;rw[q4]at hR;have n1:=i131d kx ky q hq;rw[<-hR]at n1;clear hR hk kx ky hx hy;refine fY6 Tryz.func99 rfl ?_;refine gYn h126 ?_;refine gYn h127 ?_;refine gYn h134 ?_;refine brI (fun k1=>?_) (fun k1=>?_)
   .have k1:S=0:=by simpa using k1
    exact absurd k1 hs
   conv=>whnf
   refine gYc n1 ?_;exact⟨lr rfl,leG⟩
  .rw[Z5 fun c=>hp c.2.1]at hR;rw[show pcB p=false by simpa using hp]at h127;subst hR;clear hk hx hy h134;refine fY6 Tryz.func99 rfl ?_;refine gYn h126 ?_;refine gYn h127 ?_;refine gYn h25 ?_;exact⟨lr rfl,leG⟩
 .rw[Z5 fun c=>hk c.1]at hR;rw[show(kB x&&kB y)=false by simpa using hk]at h126;subst hR;clear hk hx hy h134;refine fY6 Tryz.func99 rfl ?_;refine gYn h126 ?_;refine gYn h25 ?_;exact⟨lr rfl,leG⟩
def CI(x:Iv):Prop:=x=wI0\/(x.all=false/\VD x.lo/\VD x.hi)
theorem CI.ri{x:Iv}(h:CI x):RI x:=by
 rcases h with rfl|⟨_,h1,h2⟩
 .exact zps
 .exact⟨h1.lb,h2.lb,by have:=h1.len;omega,by have:=h2.len;omega⟩
theorem zji:CI wI0:=.inl rfl
theorem uz{a b:Dy×Int}(ha:VD a.1)(hb:VD b.1):CI (ve a b):=by
 unfold ve;split
 .exact zji
 .exact .inr ⟨rfl,ha,hb⟩
theorem qe{p:Int}(h:pcB p=true):8<=p.toNat/\p.toNat<=512:=by
 obtain⟨q,rfl,hq⟩:=kq.1 h;exact hq
theorem zgo(x y:Iv)(p:Int):CI (ym x y p):=by
 unfold ym;split
 .rename_i h;exact uz (zyo _ _ _ _ (qe h.2)) (zyo _ _ _ _ (qe h.2))
 .exact zji
theorem qhc{dn up:Dy×Int}{o:Iv}{K:Iv->Iv}(h1:VD dn.1)(h2:VD up.1)(h3:VD o.lo)(h4:VD o.hi)(hK:∀o,o.all=false->VD o.lo->VD o.hi->CI (K o)):CI (stI dn up o K):=by
 unfold stI;split
 .exact zji
 .refine hK _ rfl ?_ ?_
  .simp only;split<;>assumption
  .simp only;split<;>assumption
theorem zrh(dn up:Dy->Dy->Dy×Int)(x y:Iv):ur dn up x y=s0I (dn x.lo y.lo) (up x.lo y.lo) (fun o=>stI (dn x.lo y.hi) (up x.lo y.hi) o (fun o=>stI (dn x.hi y.lo) (up x.hi y.lo) o (fun o=>stI (dn x.hi y.hi) (up x.hi y.hi) o (fun o=>o)))):=by
 unfold ur;rw[f4I]
theorem zyx{dn up:Dy->Dy->Dy×Int}(h1:∀a b,VD (dn a b).1)(h2:∀a b,VD (up a b).1)(x y:Iv):CI (ur dn up x y):=by
 rw[zrh];unfold s0I;split
 .exact zji
 .refine qhc (h1 _ _) (h2 _ _) (h1 _ _) (h2 _ _) fun o _ a b=>?_
  refine qhc (h1 _ _) (h2 _ _) a b fun o _ a b=>?_
  refine qhc (h1 _ _) (h2 _ _) a b fun o c a b=>?_
  exact .inr ⟨c,a,b⟩
theorem zyw(x y:Iv)(p:Int):CI (za9 x y p):=by
 unfold za9;split
 .rename_i h;exact zyx (fun a b=>uc _ _ _ _ (qe h.2)) (fun a b=>uc _ _ _ _ (qe h.2)) x y
 .exact zji
theorem qdq(x y:Iv)(p:Int):CI (xt x y p):=by
 unfold xt;split
 .rename_i h;exact zyx (fun a b=>za4 _ _ _ _ (qe h.2.1)) (fun a b=>za4 _ _ _ _ (qe h.2.1)) x y
 .exact zji
theorem qmi{x:Iv}(h:RI x):CI (zge x):=by
 unfold zge;split
 .rename_i hk;have k:=(zq h).1 hk;exact .inr ⟨rfl,zaq k.hi,zaq k.lo⟩
 .exact zji
theorem qdp(x:Iv)(n p:Int):CI (zl7 x n p):=by
 unfold zl7;split
 .rename_i h;split
  .exact .inr ⟨rfl,jo 1 OA,jo 1 OA⟩
  .exact uz (qdl _ _ _ _ (qe h.2.1)) (qdl _ _ _ _ (qe h.2.1))
 .exact zji
theorem zyv(x:Iv)(p:Int):CI (xw x p):=by
 unfold xw;split
 .rename_i h;exact uz (zym _ _ _ (qe h.2.1)) (zym _ _ _ (qe h.2.1))
 .exact zji
def zxo(r:Rt)(p:Int):Iv:=if rOk r=true then ve (ut (wx r.n) (wx r.d) p.toNat false) (ut (wx r.n) (wx r.d) p.toNat true)else wI0
theorem qmo(r:Rt){p:Int}(hp:pcB p=true):CI (zxo r p):=by
 unfold zxo;split
 .exact uz (za4 _ _ _ _ (qe hp)) (za4 _ _ _ _ (qe hp))
 .exact zji
theorem i50(r:Rt)(p:Int)(hp:pcB p=true):Fn 60 G0 [.agg [.int .i64 r.n,.int .i64 r.d],.int .i64 p] (.agg (ivC (zxo r p))) G0:=by
 have h15:=f54 r.n r.d;have hR:zxo r p=if rOk r=true then ve (ut (wx r.n) (wx r.d) p.toNat false) (ut (wx r.n) (wx r.d) p.toNat true)else wI0:=rfl
 have hr:rOk ⟨r.n,r.d⟩=rOk r:=rfl;rw[hr]at h15;generalize zxo r p=R at*;by_cases h:rOk r=true
 .rw[Z4 h]at hR;rw[h]at h15;obtain⟨q,rfl,hq⟩:=kq.1 hp;rw[q4]at hR;have hb:=zcm h;unfold rIn at hb;have n1:=v77 r.n O;have n2:=v77 r.d O;have vn:=jo r.n O;have vd:=jo r.d O;have n3:=v76 vn vd q hq;have n4:=v78 vn vd q hq;generalize ut (wx r.n) (wx r.d) q false=A at*;generalize ut (wx r.n) (wx r.d) q true=B at*;generalize wx r.n=N at*;generalize wx r.d=D at*;clear vn vd;obtain⟨⟨a1,a2,a3⟩,e⟩:=A;obtain⟨⟨b1,b2,b3⟩,f⟩:=B;unfold ve at hR;simp only at hR;refine fY6 Tryz.func60 rfl ?_;refine gYn h15 ?_;refine gYc n1 ?_;refine gYc n2 ?_;refine gYc n3 ?_;refine gYd ?_;refine gYc n1 ?_;refine gYc n2 ?_;refine gYc n4 ?_;refine gYd ?_;refine brI (fun k1=>?_) (fun k1=>?_)
  .have k1:e≠0:=by simpa using k1
   rw[Z4 (.inl k1)]at hR;subst hR;conv=>whnf
   exact⟨leW,leG⟩
  have k1:e=0:=by simpa using k1
  conv=>whnf
  refine brI (fun k2=>?_) (fun k2=>?_)
  .have k2:f≠0:=by simpa using k2
   rw[Z4 (.inr k2)]at hR;subst hR;conv=>whnf
   exact⟨leW,leG⟩
  have k2:f=0:=by simpa using k2
  rw[Z5 (by simp[k1,k2])]at hR;subst hR;conv=>whnf
  exact⟨lr rfl,leG⟩
 .rw[Z5 h]at hR;rw[show rOk r=false by simpa using h]at h15;subst hR;refine fY6 Tryz.func60 rfl ?_;refine gYn h15 ?_;exact⟨leW,leG⟩
def apI(fx:Int->Iv->Int->Iv)(k n:Int)(x y:Iv)(p:Int):Iv:=
 if k=3 then ym x y p else if k=4 then qef x y p else if k=5 then za9 x y p else if k=6 then xt x y p else if k=7 then zge x else if k=8 then zl7 x n p
 else if k=13 then xw x p else if 9<=k/\k<=12 then fx k x p else wI0
def Ka(k:Int):Prop:=k=3\/k=4\/k=5\/k=6\/k=7\/k=8\/k=13
theorem CI_ap{fx:Int->Iv->Int->Iv}{k:Int}(hk:Ka k)(n:Int){x:Iv}(y:Iv)(p:Int)(hx:RI x):CI (apI fx k n x y p):=by
 rcases hk with rfl|rfl|rfl|rfl|rfl|rfl|rfl
 .exact zgo _ _ _
 .exact zgo _ _ _
 .exact zyw _ _ _
 .exact qdq _ _ _
 .exact qmi hx
 .exact qdp _ _ _
 .exact zyv _ _
theorem i52{fx:Int->Iv->Int->Iv}{k:Int}(hk:Ka k)(n:Int)(x y:Iv)(hx:RI x)(hy:RI y)(p:Int):Fn 61 G0 [.int .i64 k,.int .i64 n,.agg (ivC x),.agg (ivC y),.int .i64 p] (.agg (ivC (apI fx k n x y p))) G0:=by
 have h3:=i82 x y hx hy p;have h4:=i83 x y hx hy p;have h5:=i84 x y hx hy p;have h6:=i85 x y hx hy p;have h7:=i86 x hx;have h8:=i87 x hx n p;have h13:=i92 x hx p;rcases hk with rfl|rfl|rfl|rfl|rfl|rfl|rfl
 .have e:apI fx 3 n x y p=ym x y p:=rfl;rw[e];generalize ym x y p=R at*;clear h4 h5 h6 h7 h8 h13 hx hy;refine fY6 Tryz.func61 rfl ?_;refine gYc h3 ?_;exact⟨lr rfl,leG⟩
 .have e:apI fx 4 n x y p=qef x y p:=rfl;rw[e];generalize qef x y p=R at*;clear h3 h5 h6 h7 h8 h13 hx hy;refine fY6 Tryz.func61 rfl ?_;refine gYc h4 ?_;exact⟨lr rfl,leG⟩
 .have e:apI fx 5 n x y p=za9 x y p:=rfl;rw[e];generalize za9 x y p=R at*;clear h3 h4 h6 h7 h8 h13 hx hy;refine fY6 Tryz.func61 rfl ?_;refine gYc h5 ?_;exact⟨lr rfl,leG⟩
 .have e:apI fx 6 n x y p=xt x y p:=rfl;rw[e];generalize xt x y p=R at*;clear h3 h4 h5 h7 h8 h13 hx hy;refine fY6 Tryz.func61 rfl ?_;refine gYc h6 ?_;exact⟨lr rfl,leG⟩
 .have e:apI fx 7 n x y p=zge x:=rfl;rw[e];generalize zge x=R at*;clear h3 h4 h5 h6 h8 h13 hx hy;refine fY6 Tryz.func61 rfl ?_;refine gYn h7 ?_;exact⟨lr rfl,leG⟩
 .have e:apI fx 8 n x y p=zl7 x n p:=rfl;rw[e];generalize zl7 x n p=R at*;clear h3 h4 h5 h6 h7 h13 hx hy;refine fY6 Tryz.func61 rfl ?_;refine gYc h8 ?_;exact⟨lr rfl,leG⟩
 .have e:apI fx 13 n x y p=xw x p:=rfl;rw[e];generalize xw x p=R at*;clear h3 h4 h5 h6 h7 h8 hx hy;refine fY6 Tryz.func61 rfl ?_;refine gYc h13 ?_;exact⟨lr rfl,leG⟩
abbrev zdm:=List (zn×Iv)
def zI:Iv:=⟨d0,d0,false⟩
theorem qdv:RI zI:=⟨qg.lb,qg.lb,OA,OA⟩
def okI(x:Iv):Iv:=if viB x=true then x else wI0
mutual
def evE(fx:Int->Iv->Int->Iv)(p:Int)(es:zdm):Ex->Iv×Bool
 |.mk k q s n l=>if k=1 then(zxo q p,true)else if k=2 then(okI (zob .str s zI es),zlh .str s es)else evL fx p es k n l []
def evL(fx:Int->Iv->Int->Iv)(p:Int)(es:zdm)(k n:Int):List Ex->List Iv->Iv×Bool
 | [],acc=>(apI fx k n (acc[0]?.getD zI) (acc[1]?.getD zI) p,true)
 |x::l,acc=>if(evE fx p es x).2=true then evL fx p es k n l (acc++ [(evE fx p es x).1])else((evE fx p es x).1,false)
end
theorem zkd(fx:Int->Iv->Int->Iv)(p:Int)(es:zdm)(r:Rt):evE fx p es (xq r)=(zxo r p,true):=by simp[xq,evE]
theorem zns(fx:Int->Iv->Int->Iv)(p:Int)(es:zdm)(s:zn):evE fx p es (zcg s)=(okI (zob .str s zI es),zlh .str s es):=by simp[zcg,evE]
theorem zdw(fx:Int->Iv->Int->Iv)(p:Int)(es:zdm)(k n:Int)(a:Ex)(h:k≠1/\k≠2):evE fx p es (opE k n [a])=if(evE fx p es a).2=true then(apI fx k n (evE fx p es a).1 zI p,true)else((evE fx p es a).1,false):=by
 simp[opE,evE,evL,h.1,h.2]
theorem znt(fx:Int->Iv->Int->Iv)(p:Int)(es:zdm)(k n:Int)(a b:Ex)(h:k≠1/\k≠2):evE fx p es (opE k n [a,b])=if(evE fx p es a).2=true then(if(evE fx p es b).2=true then(apI fx k n (evE fx p es a).1 (evE fx p es b).1 p,true)else((evE fx p es b).1,false))else((evE fx p es a).1,false):=by
 simp[opE,evE,evL,h.1,h.2]
inductive VK(K:Int->Prop):Ex->Prop
 |num (r:Rt):rOk r=true->VK K (xq r)
 |var (s:zn):zat s=true->VK K (zcg s)
 |un (k:Int) (a:Ex):K k->K1 k->VK K a->VK K (opE k 0 [a])
 |pow (n:Int) (a:Ex):K 8->0<=n->n<=16->VK K a->VK K (opE 8 n [a])
 |bin (k:Int) (a b:Ex):K k->K2 k->VK K a->VK K b->VK K (opE k 0 [a,b])
abbrev HvE(es:zdm):Hp:= [(jh,.gst JT),(1000001,.map .str .iv es)]
theorem znc{h h':Hp}{es:zdm}:leH h h' (HvE es) (HvE es):=lh1 (bg0 rfl) (lh1 (bm0 rfl) lh0)
abbrev ioV(r:Iv×Bool):AV:=.tup [.agg (ivC r.1),.bool r.2]
def ApK(fx:Int->Iv->Int->Iv)(K:Int->Prop)(p:Int):Prop:=
 ∀k n x y,K k->RI x->RI y->Fn 61 G0 [.int .i64 k,.int .i64 n,.agg (ivC x),.agg (ivC y),.int .i64 p] (.agg (ivC (apI fx k n x y p))) G0/\CI (apI fx k n x y p)
def REs(es:zdm):Prop:=∀q∈es,RI q.2
theorem zo0{s:zn}{es:zdm}(h:REs es):RI (zob .str s zI es):=by
 induction es with
 |nil=>exact qdv
 |cons q es ih=>
  obtain⟨y,v⟩:=q;simp only[zob]
  cases ztu .str s y with
  |true=>exact h (y,v) q3
  |false=>exact ih fun q hq=>h q (q2 _ hq)
theorem qck{x:Iv}(h:RI x):VI (okI x):=by
 unfold okI;split
 .rename_i hv;exact(zcf h).1 hv
 .exact .inr rfl
theorem i26v(fx:Int->Iv->Int->Iv)(p:Int)(es:zdm)(hes:REs es)(s:zn):Fn 27 (HvE es) [.agg (exC (zcg s)),.mp 1000001,.int .i64 p] (ioV (evE fx p es (zcg s))) (HvE es):=by
 rw[zns];have h51:=i51 _ (zo0 (s:=s) hes);have h25:=i25;rw[e25]at h25;have hok:okI (zob .str s zI es)=if viB (zob .str s zI es)=true then zob .str s zI es else wI0:=rfl
 generalize okI (zob .str s zI es)=Oq at*;generalize viB (zob .str s zI es)=V at*;refine fY6 Tryz.func27 rfl ?_;refine cbI [] V h51 (fun h1=>?_) (fun h1=>?_)
 .rw[Z4 h1]at hok;subst hok;conv=>whnf
  exact⟨lr rfl,znc⟩
 .rw[Z5 (by rw[h1];simp)]at hok;subst hok;conv=>whnf
  refine gYn h25 ?_;exact⟨lr rfl,znc⟩
theorem i26n(fx:Int->Iv->Int->Iv)(p:Int)(hp:pcB p=true)(es:zdm)(r:Rt):Fn 27 (HvE es) [.agg (exC (xq r)),.mp 1000001,.int .i64 p] (ioV (evE fx p es (xq r))) (HvE es):=by
 rw[zkd];have h50:=i50 r p hp;generalize zxo r p=R at*;refine fY6 Tryz.func27 rfl ?_;refine gYc h50 ?_;exact⟨lr rfl,znc⟩
abbrev z7:List AV:= [.bool false,.sl .u32 [],.int .i64 0,.bool false,.sl .u32 [],.int .i64 0,.bool false]
theorem i26u(p:Int)(es:zdm)(k n:Int)(hk:k≠1/\k≠2)(a:Ex)(A C:Iv)(ok:Bool)(ha:Fn 27 (HvE es) [.agg (exC a),.mp 1000001,.int .i64 p] (.tup [.agg (ivC A),.bool ok]) (HvE es))
 (hc:Fn 61 G0 [.int .i64 k,.int .i64 n,.agg (ivC A),.agg (ivC zI),.int .i64 p] (.agg (ivC C)) G0):
 Fn 27 (HvE es) [.agg (exC (opE k n [a])),.mp 1000001,.int .i64 p] (ioV (if ok=true then(C,true)else(A,false))) (HvE es):=by
 obtain⟨⟨a1,a2,a3⟩,⟨a4,a5,a6⟩,a7⟩:=A;obtain⟨⟨c1,c2,c3⟩,⟨c4,c5,c6⟩,c7⟩:=C;have hc:Fn 61 G0 [.int .i64 k,.int .i64 n,.agg [.bool a1,.sl .u32 a2,.int .i64 a3,.bool a4,.sl .u32 a5,.int .i64 a6,.bool a7],.agg z7,.int .i64 p] (.agg [.bool c1,.sl .u32 c2,.int .i64 c3,.bool c4,.sl .u32 c5,.int .i64 c6,.bool c7]) G0:=hc;have hk1:(k==1)=false:=by simpa using hk.1
 have hk2:(k==2)=false:=by simpa using hk.2
 refine fY6 Tryz.func27 rfl ?_;refine brI (fun h1=>?_) (fun h1=>?_)
 .have h1:(k==1)=true:=h1;rw[hk1]at h1;cases h1
 conv=>whnf
 refine brI (fun h1=>?_) (fun h1=>?_)
 .have h1:(k==2)=true:=h1;rw[hk2]at h1;cases h1
 conv=>whnf
 refine⟨Nat,fun i=>i<=1/\(i=1->ok=true),fun i=> [(41,.int .i64 i)],fun i=> [(10,.cells (match i with
  |0=>z7++z7
  | _=> [.bool a1,.sl .u32 a2,.int .i64 a3,.bool a4,.sl .u32 a5,.int .i64 a6,.bool a7]++z7))],fun i=>1-i,0,⟨OC,OC⟩,?_,fun i hi=>?_⟩
 .exact KZ0
 obtain⟨hi1,hi2⟩:=hi;obtain rfl|rfl:i=0\/i=1:=O
 .refine gYe ?_;refine ix0 ?_;conv=>whnf
  refine⟨[.gst JT,.map .str .iv es],_,ha,?_⟩;conv=>whnf
  cases ok with
  |true=>
   conv=>whnf
   refine⟨⟨O,O⟩,?_⟩;conv=>whnf
   refine⟨1,⟨OA,fun _=>rfl⟩,OA,?_⟩;exact KZ0
  |false=>
   conv=>whnf
   exact⟨lr rfl,znc⟩
 .have hok:=hi2 rfl;subst hok;refine gYe ?_;refine⟨⟨O,O⟩,?_⟩;conv=>whnf
  refine⟨⟨O,O⟩,?_⟩;conv=>whnf
  refine gYc hc ?_;exact⟨lr rfl,znc⟩
theorem i26b(p:Int)(es:zdm)(k n:Int)(hk:k≠1/\k≠2)(a b:Ex)(A B C:Iv)(ok ok2:Bool)(ha:Fn 27 (HvE es) [.agg (exC a),.mp 1000001,.int .i64 p] (.tup [.agg (ivC A),.bool ok]) (HvE es))
 (hb:Fn 27 (HvE es) [.agg (exC b),.mp 1000001,.int .i64 p] (.tup [.agg (ivC B),.bool ok2]) (HvE es))
 (hc:Fn 61 G0 [.int .i64 k,.int .i64 n,.agg (ivC A),.agg (ivC B),.int .i64 p] (.agg (ivC C)) G0):
 Fn 27 (HvE es) [.agg (exC (opE k n [a,b])),.mp 1000001,.int .i64 p] (ioV (if ok=true then(if ok2=true then(C,true)else(B,false))else(A,false))) (HvE es):=by
 obtain⟨⟨a1,a2,a3⟩,⟨a4,a5,a6⟩,a7⟩:=A;obtain⟨⟨b1,b2,b3⟩,⟨b4,b5,b6⟩,b7⟩:=B;obtain⟨⟨c1,c2,c3⟩,⟨c4,c5,c6⟩,c7⟩:=C;have hc:Fn 61 G0 [.int .i64 k,.int .i64 n,.agg [.bool a1,.sl .u32 a2,.int .i64 a3,.bool a4,.sl .u32 a5,.int .i64 a6,.bool a7],.agg [.bool b1,.sl .u32 b2,.int .i64 b3,.bool b4,.sl .u32 b5,.int .i64 b6,.bool b7],.int .i64 p] (.agg [.bool c1,.sl .u32 c2,.int .i64 c3,.bool c4,.sl .u32 c5,.int .i64 c6,.bool c7]) G0:=hc;have hk1:(k==1)=false:=by simpa using hk.1
 have hk2:(k==2)=false:=by simpa using hk.2
 refine fY6 Tryz.func27 rfl ?_;refine brI (fun h1=>?_) (fun h1=>?_)
 .have h1:(k==1)=true:=h1;rw[hk1]at h1;cases h1
 conv=>whnf
 refine brI (fun h1=>?_) (fun h1=>?_)
 .have h1:(k==2)=true:=h1;rw[hk2]at h1;cases h1
 conv=>whnf
 refine⟨Nat,fun i=>i<=2/\(1<=i->ok=true)/\(i=2->ok2=true),fun i=> [(41,.int .i64 i)],fun i=> [(10,.cells (match i with
  |0=>z7++z7
  |1=> [.bool a1,.sl .u32 a2,.int .i64 a3,.bool a4,.sl .u32 a5,.int .i64 a6,.bool a7]++z7
  | _=> [.bool a1,.sl .u32 a2,.int .i64 a3,.bool a4,.sl .u32 a5,.int .i64 a6,.bool a7,.bool b1,.sl .u32 b2,.int .i64 b3,.bool b4,.sl .u32 b5,.int .i64 b6,.bool b7]))],fun i=>2-i,0,⟨OC,OC,OC⟩,?_,fun i hi=>?_⟩
 .exact KZ0
 obtain⟨hi1,hi2,hi3⟩:=hi;obtain rfl|rfl|rfl:i=0\/i=1\/i=2:=O
 .refine gYe ?_;refine ix0 ?_;conv=>whnf
  refine⟨[.gst JT,.map .str .iv es],_,ha,?_⟩;conv=>whnf
  cases ok with
  |true=>
   conv=>whnf
   refine⟨⟨O,O⟩,?_⟩;conv=>whnf
   refine⟨1,⟨OA,fun _=>rfl,fun h=>by cases h⟩,OA,?_⟩;exact KZ0
  |false=>
   conv=>whnf
   exact⟨lr rfl,znc⟩
 .have hok:=hi2 OA;subst hok;refine gYe ?_;refine ix1 ?_;conv=>whnf
  refine⟨[.gst JT,.map .str .iv es],_,hb,?_⟩;conv=>whnf
  cases ok2 with
  |true=>
   conv=>whnf
   refine⟨⟨O,O⟩,?_⟩;conv=>whnf
   refine⟨2,⟨OA,fun _=>rfl,fun _=>rfl⟩,OA,?_⟩;exact KZ0
  |false=>
   conv=>whnf
   exact⟨lr rfl,znc⟩
 .have hok:=hi2 OA;have hok2:=hi3 rfl;subst hok hok2;refine gYe ?_;refine⟨⟨O,O⟩,?_⟩;conv=>whnf
  refine⟨⟨O,O⟩,?_⟩;conv=>whnf
  refine gYc hc ?_;exact⟨lr rfl,znc⟩
theorem i26{fx:Int->Iv->Int->Iv}{K:Int->Prop}{p:Int}(hp:pcB p=true)(hA:ApK fx K p){es:zdm}(hes:REs es){e:Ex}(he:VK K e):
 Fn 27 (HvE es) [.agg (exC e),.mp 1000001,.int .i64 p] (ioV (evE fx p es e)) (HvE es)/\RI (evE fx p es e).1:=by
 induction he with
 |num r hr=>exact⟨i26n fx p hp es r,by rw[zkd];exact(qmo r hp).ri⟩
 |var s hs=>exact⟨i26v fx p es hes s,by rw[zns];exact(qck (zo0 hes)).ri⟩
 |un k a hk h1 _ ih=>
  have hne:k≠1/\k≠2:=by unfold K1 at h1;omega
  obtain⟨c1,c2⟩:=hA k 0 _ zI hk ih.2 qdv;rw[zdw fx p es k 0 a hne];refine⟨i26u p es k 0 hne a _ _ _ ih.1 c1,?_⟩;split
  .exact c2.ri
  .exact ih.2
 |pow n a hk h1 h2 _ ih=>
  obtain⟨c1,c2⟩:=hA 8 n _ zI hk ih.2 qdv;rw[zdw fx p es 8 n a OA];refine⟨i26u p es 8 n OA a _ _ _ ih.1 c1,?_⟩;split
  .exact c2.ri
  .exact ih.2
 |bin k a b hk h1 _ _ ih1 ih2=>
  have hne:k≠1/\k≠2:=by unfold K2 at h1;omega
  obtain⟨c1,c2⟩:=hA k 0 _ _ hk ih1.2 ih2.2;rw[znt fx p es k 0 a b hne];refine⟨i26b p es k 0 hne a b _ _ _ _ _ ih1.1 ih2.1 c1,?_⟩;split
  .split
   .exact c2.ri
   .exact ih2.2
  .exact ih1.2
def zdp:List zn->List Iv->zdm->zdm
 |n::ns,r::rs,es=>zdp ns rs (zm7 .str n r es)
 | _,_,es=>es
theorem qky(ns:List zn)(rs:List Iv)(h:¬(ns.length=rs.length/\ns.length<=200))(h1:ns.length<9223372036854775808)(h2:rs.length<9223372036854775808):
 Fn 25 [] [.sl .str ns,.sl .iv rs] (.tup [.any,.bool false]) [(2000000,.dead)]:=by
 refine fnT hT6 hmx Tryz.func25 rfl rfl (ex:= [21]) ?_;conv=>whnf
 refine brI (fun h3=>?_) (fun h3=>?_)
 .conv=>whnf
  exact⟨lt0 (lc la0 (lc (lr rfl) ln0)),lh1 bd0 lh0⟩
 .conv=>whnf
  refine brI (fun h4=>?_) (fun h4=>?_)
  .conv=>whnf
   exact⟨lt0 (lc la0 (lc (lr rfl) ln0)),lh1 bd0 lh0⟩
  .refine absurd ⟨?_,?_⟩ h
   .have h3:((ns.length:Int) != (rs.length:Int))=false:=h3;simp only[bne_eq_false_iff_eq]at h3;omega
   .simp only[Z3]at h4;omega
theorem zxj{ns:List zn}{rs:List Iv}{i:Nat}{n:zn}{r:Iv}(es:zdm)(h1:ns[i]? =some n)(h2:rs[i]? =some r):zdp (ns.drop i) (rs.drop i) es=zdp (ns.drop (i+1)) (rs.drop (i+1)) (zm7 .str n r es):=by
 rw[wv h1,wv h2];rfl
theorem zm6(n:zn)(r:Iv):∀es:zdm,(zm7 .str n r es).length <=es.length+1
 | []=>by simp[zm7]
 |(y,v)::l=>by
  have:=zm6 n r l;simp only[zm7];cases ztu .str n y
  .simp only[cond_false,q6];omega
  .simp only[cond_true,q6];omega
theorem i23(ns:List zn)(rs:List Iv)(h:ns.length=rs.length/\ns.length<=200):
 Fn 25 [] [.sl .str ns,.sl .iv rs] (.tup [.mp 2000000,.bool (decide ((zdp ns rs []).length =rs.length))]) [(2000000,.map .str .iv (zdp ns rs []))]:=by
 refine fnT hT6 hmx Tryz.func25 rfl rfl (ex:= [21]) ?_;conv=>whnf
 refine brI (fun h0=>?_) (fun h0=>?_)
 .have h0:((ns.length:Int) != (rs.length:Int))=true:=h0;refine absurd h.1 (fun e=>?_);rw[e]at h0;simp at h0
 conv=>whnf
 refine brI (fun h0=>absurd h.2 (by simp only[Z2]at h0;omega)) (fun _=>?_);conv=>whnf
 refine⟨Nat×zdm,fun x=>x.1<=ns.length/\zdp (ns.drop x.1) (rs.drop x.1) x.2=zdp ns rs []/\x.2.length<=x.1,fun x=> [(24,.int .i64 x.1)],fun x=> [(21,.map .str .iv x.2)],fun x=>ns.length-x.1,(0,[]),⟨OC,rfl,OC⟩,?_,fun x hx=>?_⟩
 .exact KZ0
 refine gYe ?_;obtain⟨i,es⟩:=x;obtain⟨hx1,hx2,hx3⟩:=hx;simp only at hx1 hx2 hx3;refine brI (fun h3=>?_) (fun h3=>?_)
 .conv=>whnf
  have h3:i<ns.length:=by simp only[Z2]at h3;omega
  refine⟨⟨O,O⟩,fun n hn=>?_⟩;have hn:ns[i]? =some n:=by simpa using hn
  conv=>whnf
  refine⟨⟨O,OD⟩,fun r hr=>?_⟩;have hr:rs[i]? =some r:=by simpa using hr
  rw[zxj es hn hr]at hx2;conv=>whnf
  refine⟨(i+1,zm7 .str n r es),⟨OD,hx2,by have:=zm6 n r es;simp only;omega⟩,by show ns.length-(i+1)<ns.length-i;omega,?_⟩;exact KZ0
 .conv=>whnf
  have h3:¬i<ns.length:=by simp only[Z3]at h3;omega
  rw[q5 O,q5 O]at hx2;have hx2:es=zdp ns rs []:=hx2;rw[<-hx2];refine⟨lt0 (lc (lr rfl) (lc (ab0 ?_) ln0)),lh1 (bm0 rfl) lh0⟩;rw[Bool.eq_iff_iff,Z2];constructor
  .intro h;have h:((es.length:Int)==(rs.length:Int))=true:=h;simp only[beq_iff_eq]at h;omega
  .intro h;show((es.length:Int)==(rs.length:Int))=true;simp only[beq_iff_eq];omega
theorem zq1{n:zn}{r:Iv}(hr:RI r):∀ {es:zdm},REs es->REs (zm7 .str n r es)
 | [],_=>by
   intro q hq;simp only[zm7,List.mem_singleton]at hq;subst hq;exact hr
 |(y,v)::l,h=>by
  have ih:=zq1 (n:=n) hr (es:=l) fun q hq=>h q (q2 _ hq)
  intro q hq;simp only[zm7]at hq
  cases hk:ztu .str n y with
  |true=>
   rw[hk,cond_true]at hq;rcases q7.1 hq with rfl|hq
   .exact hr
   .exact h q (q2 _ hq)
  |false=>
   rw[hk,cond_false]at hq;rcases q7.1 hq with rfl|hq
   .exact h _ q3
   .exact ih q hq
theorem zhc:∀(ns:List zn)(rs:List Iv)(es:zdm),(∀r∈rs,RI r)->REs es->REs (zdp ns rs es)
 | [],_,es,_,h=>by cases ‹List Iv› <;>exact h
 | _::_,[],es,_,h=>h
 |n::ns,r::rs,es,hr,h=>zhc ns rs _ (fun x hx=>hr x (q2 _ hx)) (zq1 (hr r q3) h)
def enB(ns:List zn)(xs:List Iv):Bool:=decide (ns.length=xs.length/\ns.length<=200/\(zdp ns xs []).length =xs.length)
def zmc(fx:Int->Iv->Int->Iv)(e:Ex)(ns:List zn)(xs:List Iv)(p:Int):Iv:=
 if(enB ns xs=true/\okT e=true/\pcB p=true)/\(evE fx p (zdp ns xs []) e).2=true then(evE fx p (zdp ns xs []) e).1 else wI0
theorem i8{fx:Int->Iv->Int->Iv}{K:Int->Prop}(hA:∀p,pcB p=true->ApK fx K p)(e:Ex)(he:Sm e)(hK:okT e=true->VK K e)(ns:List zn)(xs:List Iv)(hx:∀x∈xs,RI x)(h1:ns.length<9223372036854775808)(h2:xs.length<9223372036854775808)(p:Int):
 Fn 7 G0 [.agg (exC e),.sl .str ns,.sl .iv xs,.int .i64 p] (.agg (ivC (zmc fx e ns xs p))) G0:=by
 have h24:=f17 e he;have h25:=i25;rw[e25]at h25;have hR:zmc fx e ns xs p=if(enB ns xs=true/\okT e=true/\pcB p=true)/\(evE fx p (zdp ns xs []) e).2=true then(evE fx p (zdp ns xs []) e).1 else wI0:=rfl
 generalize zmc fx e ns xs p=R at*;by_cases hl:ns.length=xs.length/\ns.length<=200
 rotate_left
 .rw[Z5 fun c=>hl (by have:=c.1.1;unfold enB at this;have:=Z0 this;exact⟨this.1,this.2.1⟩)]at hR;subst hR;have h23:=qky ns xs hl h1 h2;refine fY6 Tryz.func7 rfl ?_;refine⟨[],[.dead],_,h23,?_⟩;conv=>whnf
  refine gYn h25 ?_;exact⟨lr rfl,leG⟩
 have h23:=i23 ns xs hl;by_cases hen:(zdp ns xs []).length =xs.length
 rotate_left
 .rw[Z5 fun c=>hen (by have:=c.1.1;unfold enB at this;have:=Z0 this;exact this.2.2)]at hR;subst hR;rw[Z7 hen]at h23;refine fY6 Tryz.func7 rfl ?_;refine⟨[],[.map .str .iv (zdp ns xs [])],_,h23,?_⟩;conv=>whnf
  refine gYn h25 ?_;exact⟨lr rfl,leG⟩
 have hE:enB ns xs=true:=by unfold enB;exact Z6 ⟨hl.1,hl.2,hen⟩
 rw[Z6 hen]at h23;by_cases hok:okT e=true
 rotate_left
 .rw[Z5 fun c=>hok c.1.2.1]at hR;subst hR;rw[show okT e=false by simpa using hok]at h24;refine fY6 Tryz.func7 rfl ?_;refine⟨[],[.map .str .iv (zdp ns xs [])],_,h23,?_⟩;conv=>whnf
  refine gYn h24 ?_;refine gYn h25 ?_;exact⟨lr rfl,leG⟩
 rw[hok]at h24;by_cases hp:pcB p=true
 rotate_left
 .rw[Z5 fun c=>hp c.1.2.2]at hR;subst hR;have hp:¬(8<=p/\p<=512):=fun c=>hp (by unfold pcB;simp;omega)
  refine fY6 Tryz.func7 rfl ?_;refine⟨[],[.map .str .iv (zdp ns xs [])],_,h23,?_⟩;conv=>whnf
  refine gYn h24 ?_;refine brI (fun k1=>?_) (fun k1=>?_)
  .conv=>whnf
   refine gYn h25 ?_;exact⟨lr rfl,leG⟩
  have k1:¬p<8:=Z1 k1;conv=>whnf
  refine brI (fun k2=>?_) (fun k2=>?_)
  .conv=>whnf
   refine gYn h25 ?_;exact⟨lr rfl,leG⟩
  have k2:¬512<p:=Z1 k2;omega
 have hp2:8<=p/\p<=512:=by unfold pcB at hp;simpa using hp
 obtain⟨h26,_⟩:=i26 hp (hA p hp) (zhc ns xs [] hx fun q hq=>by cases hq) (hK hok);obtain⟨V,hV⟩:∃V,evE fx p (zdp ns xs []) e=V:=⟨_,rfl⟩;rw[hV]at hR h26;obtain⟨⟨⟨v1,v2,v3⟩,⟨v4,v5,v6⟩,v7⟩,ok⟩:=V;have h26:Fn 27 (HvE (zdp ns xs [])) [.agg (exC e),.mp 1000001,.int .i64 p] (.tup [.agg [.bool v1,.sl .u32 v2,.int .i64 v3,.bool v4,.sl .u32 v5,.int .i64 v6,.bool v7],.bool ok]) (HvE (zdp ns xs [])):=h26;simp only at hR
 cases ok with
 |true=>
  rw[Z4 ⟨⟨hE,hok,hp⟩,rfl⟩]at hR;subst hR;refine fY6 Tryz.func7 rfl ?_;refine⟨[],[.map .str .iv (zdp ns xs [])],_,h23,?_⟩;conv=>whnf
  refine gYn h24 ?_;refine brI (fun k1=>?_) (fun k1=>?_)
  .have k1:=Z0 k1;omega
  conv=>whnf
  refine brI (fun k2=>?_) (fun k2=>?_)
  .have k2:=Z0 k2;omega
  conv=>whnf
  refine⟨[.gst JT,.map .str .iv (zdp ns xs [])],_,h26.sw [(15,1000001)] rfl,?_⟩;conv=>whnf
  exact⟨lr rfl,leG⟩
 |false=>
  rw[Z5 fun c=>by cases c.2]at hR;subst hR;refine fY6 Tryz.func7 rfl ?_;refine⟨[],[.map .str .iv (zdp ns xs [])],_,h23,?_⟩;conv=>whnf
  refine gYn h24 ?_;refine brI (fun k1=>?_) (fun k1=>?_)
  .have k1:=Z0 k1;omega
  conv=>whnf
  refine brI (fun k2=>?_) (fun k2=>?_)
  .have k2:=Z0 k2;omega
  conv=>whnf
  refine⟨[.gst JT,.map .str .iv (zdp ns xs [])],_,h26.sw [(15,1000001)] rfl,?_⟩;conv=>whnf
  refine gYn h25 ?_;exact⟨lr rfl,leG⟩
