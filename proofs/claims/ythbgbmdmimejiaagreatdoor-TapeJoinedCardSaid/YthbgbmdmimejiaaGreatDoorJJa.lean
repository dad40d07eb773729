/- Running a tape: plain laws. -/
import Derived.Test.YthbgbmdmimejiaaGreatDoorJTc
import Derived.Test.YthbgbmdmimejiaaGreatDoorJXi
set_option linter.all false
open Bool renaming and_eq_true->q8,not_eq_true'->qE,or_eq_true->qK,true_and->qM
open Int renaming toNat_natCast->qA
open List renaming getElem?_eq_some_iff->q0,mem_of_getElem?->q5,getElem?_append_left->q6,getElem?_eq_getElem->q7,length_append->q9,getElem?_concat_length->qB,map_congr_left->qD,any_eq_false->qF,take_add_one->qG,length_take->qH,length_cons->qI,length_nil->qJ,mem_append->qL
open Nat renaming zero_le->qC
namespace Go.Proofs.YthbgbmdmimejiaaGreatDoor
open Go Go.Sx
set_option maxHeartbeats 2000000
def qby(r:Rt)(p:Int):Iv:=if pcB p=true then qbz r p else wI0
def gI(vs:List Iv)(k:Int):Iv:=(vs[k.toNat]?).getD zI
def stO(p:Int)(o:TOp)(vs:List Iv):Iv:=
 if zeb o.k=0 then qby o.c p else if zeb o.k=1 then apI fxA o.k o.n (gI vs o.a) wI0 p else apI fxA o.k o.n (gI vs o.a) (gI vs o.b) p
def zaq(p:Int):List TOp->List Iv->List Iv
 | [],vs=>vs
 |o::l,vs=>zaq p l (vs++ [stO p o vs])
def zo2(t:Tp)(x:List Iv)(p:Int):List Iv:=if tvB t=true/\(x.length:Int)=t.ins then zaq p t.ops x else []
def zgv(t:Tp)(x:List Iv)(p:Int):List Iv:=if tvB t=true/\(x.length:Int)=t.ins then t.outs.map (gI (zaq p t.ops x))else []
theorem zbj(p:Int):∀(l:List TOp)(vs:List Iv),(zaq p l vs).length =vs.length+l.length
 | [],vs=>by simp[zaq]
 |o::l,vs=>by rw[zaq,zbj p l];simp;omega
theorem zep(p:Int):∀(l l':List TOp)(vs:List Iv),zaq p (l++l') vs=zaq p l' (zaq p l vs)
 | [],_,_=>rfl
 |o::l,l',vs=>by rw[List.cons_append,zaq,zaq,zep p l l']
theorem zif(p:Int):∀(l:List TOp)(vs:List Iv)(i:Nat),i<vs.length->(zaq p l vs)[i]? =vs[i]?
 | [],_,_,_=>rfl
 |o::l,vs,i,h=>by rw[zaq,zif p l _ i OE,q6 h]
theorem zig{p:Int}{l:List TOp}{vs:List Iv}{k:Int}(h:k<vs.length)(h0:0<=k):gI (zaq p l vs) k=gI vs k:=by
 unfold gI;rw[zif p l vs _ O]
theorem zyw{p:Int}{o:TOp}{n:Int}{vs ws:List Iv}(h:tB o n=true)(hv:∀k,0<=k->k<n->gI vs k=gI ws k):stO p o vs=stO p o ws:=by
 unfold stO;rcases ze8 h with h1|⟨h1,h2,h3⟩|⟨h1,⟨h2,h3⟩,h4,h5⟩
 .rw[Z4 h1,Z4 h1]
 .rw[Z5 (by rw[h1];decide),Z4 h1,Z5 (by rw[h1];decide),Z4 h1,hv _ h2 h3]
 .rw[Z5 (by rw[h1];decide),Z5 (by rw[h1];decide),Z5 (by rw[h1];decide),Z5 (by rw[h1];decide),hv _ h2 h3,hv _ h4 h5]
theorem zy9{p:Int}{l:List TOp}{vs:List Iv}{j:Nat}{o:TOp}(h:l[j]? =some o)(hb:zdv l vs.length=true):(zaq p l vs)[vs.length+j]? =some (stO p o (zaq p l vs)):=by
 have hj:=(q0.1 h).1;have e:l=l.take j++o::l.drop (j+1):=by
  rw[<-va h,List.take_append_drop]
 have ht:=zc1 hb h;have hl:(zaq p (l.take j) vs).length =vs.length+j:=by rw[zbj,qH];omega
 rw[e,zep,zaq];generalize zaq p (l.take j) vs=ws at*;rw[zif _ _ _ _ OE,List.getElem?_append_right O,hl];simp only[Nat.sub_self,List.getElem?_cons_zero,Option.some.injEq];refine zyw ht fun k h1 h2=>?_
 rw[zig OE h1];unfold gI;rw[q6 O]
theorem zrp{p:Int}{l:List TOp}{vs:List Iv}{j:Nat}{o:TOp}(h:l[j]? =some o)(hb:zdv l vs.length=true):gI (zaq p l vs) (vs.length+j:Nat)=stO p o (zaq p l vs):=by
 unfold gI;rw[qA,zy9 h hb];rfl
theorem zlp{t:Tp}{xs:List Iv}{p:Int}(h:¬(xs.length:Int)=t.ins):zgv t xs p= []/\zo2 t xs p= []:=by
 unfold zgv zo2;rw[Z5 fun c=>h c.2,Z5 fun c=>h c.2];exact⟨rfl,rfl⟩
def bkS:List TOp->Int->List (TOp×Int)
 | [],_=> []
 |o::l,k=>zed .op o k (bkS l (k+1))
def gA(at':List Int)(k:Int):Int:=(at'[k.toNat]?).getD 0
def rnO(at':List Int)(o:TOp):TOp:=⟨o.k,if 0<zeb o.k then gA at' o.a else o.a,if 1<zeb o.k then gA at' o.b else o.b,o.n,o.c⟩
def jnO(ins:Int):List TOp->List Int->BS->List Int×BS
 | [],at',st=>(at',st)
 |o::l,at',st=>jnO ins l (at'++ [(zdu ins (rnO at' o) st).1]) (zdu ins (rnO at' o) st).2
def atN(n:Nat):List Int:=(List.range n).map fun(i:Nat)=>(i:Int)
def jnS(a b:Tp):List Int×BS:=jnO a.ins b.ops (atN b.ins.toNat) (a.ops,bkS a.ops a.ins)
def jnT(a b:Tp):Tp:=⟨a.ins,(jnS a b).2.1,a.outs++b.outs.map (gA (jnS a b).1)⟩
def jnE(a b:Tp):Tp×Int:=
 if ¬(tvB a=true/\tvB b=true/\a.ins=b.ins)then(tp0,1)else
 if 200<(jnT a b).ops.length \/200<(jnT a b).outs.length then(tp0,5)else(jnT a b,0)
theorem zt4{n i:Nat}(h:i<n):(atN n)[i]? =some (i:Int):=by
 simp[atN,h]
theorem zt0:∀(l:List TOp)(k:Int)(x:TOp),zdo .op x (bkS l k)=true->∃j:Nat,l[j]? =some x/\zjc .op x 0 (bkS l k)=k+j
 | [],_,_,h=>by simp[bkS,zdo]at h
 |o::l,k,x,h=>by
  rw[bkS,zsl]at h;rw[bkS,zz0];by_cases e:x=o
  .subst e;exact⟨0,rfl,OC⟩
  .have h:zdo .op x (bkS l (k+1))=true:=by simpa[e]using h
   obtain⟨j,h1,h2⟩:=zt0 l (k+1) x h;refine⟨j+1,by simpa using h1,?_⟩;rw[Z5 e,h2];omega
theorem ztz:∀(l:List TOp)(k:Int)(x:TOp),x∈l->zdo .op x (bkS l k)=true
 |o::l,k,x,h=>by
  rw[bkS,zsl];rcases List.mem_cons.1 h with h|h
  .simp[h]
  .rw[ztz l (k+1) x h,Bool.or_true]
theorem qe2{ins:Int}{l:List TOp}(h:zdv l ins=true):BInv ins (l,bkS l ins):=⟨h,fun x hx=>zt0 l ins x hx,fun x hx=>ztz l ins x hx⟩
structure JInv(p:Int)(xs:List Iv)(ops0:List TOp)(bv:List Iv)(n:Nat)(at':List Int)(st:BS):Prop where
 inv:BInv xs.length st
 pre:∃tl,st.1=ops0++tl
 len:at'.length=n
 rng:∀(q:Nat)(k:Int),at'[q]? =some k->0<=k/\k<xs.length+st.1.length
 val:∀(q:Nat)(k:Int),at'[q]? =some k->gI (zaq p st.1 xs) k=gI bv q
theorem zid{p:Int}{l tl:List TOp}{xs:List Iv}{k:Int}(h0:0<=k)(h:k<xs.length+l.length):gI (zaq p (l++tl) xs) k=gI (zaq p l xs) k:=by
 rw[zep,zig (by rw[zbj];omega) h0]
theorem rn_tB{at':List Int}{o:TOp}{n m:Int}(h:tB o n=true)(hr:∀k,0<=k->k<n->0<=gA at' k/\gA at' k<m):tB (rnO at' o) m=true:=by
 have hi:∀k,ibO k n=true->ibO (gA at' k) m=true:=fun k hk=>by
  simp only[ibO,q8,Z2]at hk⊢;exact hr k hk.1 hk.2
 unfold tB at h⊢;unfold rnO;simp only;by_cases h1:o.k=1
 .rw[Z4 h1]at h⊢;rw[show zeb o.k=0 by rw[h1];rfl];simpa using h
 rw[Z5 h1]at h⊢;by_cases h2:o.k=3\/o.k=4\/o.k=5\/o.k=6
 .rw[Z4 h2]at h⊢;have e:zeb o.k=2:=by unfold zeb;rw[Z5 h1,Z4 h2]
  rw[e,Z4 OA,Z4 OA];simp only[q8]at h⊢;exact⟨hi _ h.1,hi _ h.2.1,h.2.2⟩
 rw[Z5 h2]at h⊢;by_cases h3:o.k=8
 .rw[Z4 h3]at h⊢;have e:zeb o.k=1:=by rw[h3];rfl
  rw[e,Z4 OA,Z5 OA];simp only[q8]at h⊢;exact⟨hi _ h.1,h.2⟩
 rw[Z5 h3]at h⊢;by_cases h4:o.k=7\/o.k=9\/o.k=10\/o.k=11\/o.k=12\/o.k=13
 .rw[Z4 h4]at h⊢;have e:zeb o.k=1:=by unfold zeb;rw[Z5 h1,Z5 h2,Z4 O]
  rw[e,Z4 OA,Z5 OA];simp only[q8]at h⊢;exact⟨hi _ h.1,h.2⟩
 .rw[Z5 h4]at h;cases h
theorem rn_st{p:Int}{at':List Int}{o:TOp}{n:Int}{vs bv:List Iv}(h:tB o n=true)(hv:∀k,0<=k->k<n->gI vs (gA at' k)=gI bv k):stO p (rnO at' o) vs=stO p o bv:=by
 unfold stO rnO;simp only;rcases ze8 h with h1|⟨h1,h2,h3⟩|⟨h1,⟨h2,h3⟩,h4,h5⟩
 .rw[Z4 h1,Z4 h1]
 .simp[h1];rw[hv _ h2 h3]
 .simp[h1];rw[hv _ h2 h3,hv _ h4 h5]
theorem zxx{p:Int}{xs:List Iv}{ops0:List TOp}{all:List TOp}(hb:zdv all xs.length=true):∀(l:List TOp)(i:Nat)(at':List Int)(st:BS),all.drop i=l->i<=all.length->JInv p xs ops0 (zaq p all xs) (xs.length+i) at' st->
 JInv p xs ops0 (zaq p all xs) (xs.length+all.length) (jnO xs.length l at' st).1 (jnO xs.length l at' st).2
 | [],i,at',st,h,hi,hj=>by
   have:all.length<=i:=by simpa using h
   obtain rfl:i=all.length:=O;exact hj
 |o::l,i,at',st,h,hi,hj=>by
  have ho:all[i]? =some o:=by
   have:=congrArg (fun z=>z[0]?) h;simpa using this
  have hil:=(q0.1 ho).1;have htB:=zc1 hb ho;obtain⟨j1,⟨tl,j2⟩,j3,j4,j5⟩:=hj;have hat:∀k,0<=k->k<(xs.length:Int)+i->at'[k.toNat]? =some (gA at' k):=fun k h0 h1=>by
   unfold gA;rw[q7 O];rfl
  have hx:=rn_tB (at':=at') (m:=xs.length+st.1.length) htB fun k h0 h1=>j4 _ _ (hat k h0 h1)
  obtain⟨q1,⟨tl2,q2⟩,j,q3,q4⟩:=zzf j1 hx;rw[jnO];refine zxx hb l (i+1) _ _ ?_ hil ⟨q1,⟨tl++tl2,by rw[q2,j2,List.append_assoc]⟩,OE,fun q k hk=>?_,fun q k hk=>?_⟩
  .rw[va ho]at h;exact(List.cons.inj h).2
  .by_cases hq:q<at'.length
   .rw[q6 hq]at hk;have:=j4 q k hk;rw[q2,q9];omega
   .have hq2:=(q0.1 hk).1;simp only[q9,qI,qJ]at hq2;obtain rfl:q=at'.length:=O;simp only[qB,Option.some.injEq]at hk;subst hk;have:=(q0.1 q4).1;omega
  .by_cases hq:q<at'.length
   .rw[q6 hq]at hk;have hr:=j4 q k hk;rw[q2,zid hr.1 hr.2];exact j5 q k hk
   .have hq2:=(q0.1 hk).1;simp only[q9,qI,qJ]at hq2;obtain rfl:q=at'.length:=O;simp only[qB,Option.some.injEq]at hk;subst hk;rw[q3,show((xs.length:Int)+(j:Int))=((xs.length+j:Nat):Int) by omega,zrp q4 q1.1,j3,zrp ho hb];refine rn_st htB fun k h0 h1=>?_
    have hk:=hat k h0 h1;have hr:=j4 _ _ hk;rw[q2,zid hr.1 hr.2,j5 _ _ hk];unfold gI;rw[qA]
theorem wv{t:Tp}(h:tvB t=true):(0<=t.ins/\t.ins<=8/\t.ops.length<=200/\t.outs.length<=200)/\zdv t.ops t.ins=true/\∀k∈t.outs,0<=k/\k<t.ins+t.ops.length:=by
 unfold tvB at h;simp only[q8,Z2,qE,qF]at h;refine⟨h.1,h.2.1,fun k hk=>?_⟩;have:=h.2.2 k hk;simp only[zp7,qK,Z2,not_or]at this;omega
theorem zn1{a b:Tp}(ha:tvB a=true)(hb:tvB b=true)(hab:a.ins=b.ins)(xs:List Iv)(p:Int)(hx:(xs.length:Int)=a.ins):JInv p xs a.ops (zaq p b.ops xs) (xs.length+b.ops.length) (jnS a b).1 (jnS a b).2:=by
 obtain⟨⟨a1,a2,a3,a4⟩,a5,a6⟩:=wv ha;obtain⟨⟨b1,b2,b3,b4⟩,b5,b6⟩:=wv hb;unfold jnS;rw[<-hab,<-hx]at b5;rw[<-hx]at a5;rw[<-hab,<-hx,qA];refine zxx b5 b.ops 0 _ _ rfl O ⟨qe2 a5,⟨[],OC⟩,by simp[atN],fun q k hk=>?_,fun q k hk=>?_⟩
 .have hq:=(q0.1 hk).1;have hq:q<xs.length:=by simpa[atN]using hq
  rw[zt4 hq]at hk;cases hk
  omega
 .have hq:=(q0.1 hk).1;have hq:q<xs.length:=by simpa[atN]using hq
  rw[zt4 hq]at hk;cases hk
  rw[zig O O,zig O O]
theorem zhg{a b t:Tp}(h:jnE a b=(t,0)):tvB t=true/\tvB a=true/\tvB b=true/\a.ins=b.ins/\t=jnT a b:=by
 unfold jnE at h;split at h
 .simp at h
 rename_i c1;split at h
 .simp at h
 rename_i c2;simp only[Prod.mk.injEq,and_true]at h;have c1:tvB a=true/\tvB b=true/\a.ins=b.ins:=by
  cases e1:tvB a<;>cases e2:tvB b<;>simp_all
 obtain⟨c1,c3,c4⟩:=c1;obtain⟨⟨a1,a2,a3,a4⟩,a5,a6⟩:=wv c1;obtain⟨⟨b1,b2,b3,b4⟩,b5,b6⟩:=wv c3;have hj:=zn1 c1 c3 c4 (List.replicate a.ins.toNat zI) 0 OE;obtain⟨j1,⟨tl,j2⟩,j3,j4,_⟩:=hj;simp only[List.length_replicate]at j1 j3 j4;have hn:((a.ins.toNat:Nat):Int)=a.ins:=O;rw[hn]at j1 j4;refine⟨?_,c1,c3,c4,h.symm⟩;rw[<-h];unfold tvB;have e:zdv (jnT a b).ops (jnT a b).ins =true:=j1.1;rw[e,Z6 (by refine⟨a1,a2,?_,?_⟩<;>omega),qM,qM,qE,qF];intro k hk;have hlen:(jnT a b).ops.length =a.ops.length+tl.length:=by simp only[jnT];rw[j2,q9]
 have hr:0<=k/\k<a.ins+(jnT a b).ops.length :=by
  rcases qL.1 hk with hk|hk
  .have:=a6 k hk;omega
  .obtain⟨q,hq,rfl⟩:=List.mem_map.1 hk;have hq:=b6 q hq;refine j4 q.toNat _ ?_;unfold gA;rw[q7 O];rfl
 have hi:(jnT a b).ins =a.ins:=rfl;simp only[zp7,qK,Z2,not_or,hi];omega
theorem zpx{a b t:Tp}(h:jnE a b=(t,0))(xs:List Iv)(p:Int):zgv t xs p=zgv a xs p++zgv b xs p:=by
 obtain⟨ht,ha,hb,hab,e⟩:=zhg h;have hti:t.ins=a.ins:=by rw[e];rfl
 by_cases hx:(xs.length:Int)=a.ins
 .obtain⟨⟨a1,a2,a3,a4⟩,a5,a6⟩:=wv ha;obtain⟨⟨b1,b2,b3,b4⟩,b5,b6⟩:=wv hb;obtain⟨j1,⟨tl,j2⟩,j3,j4,j5⟩:=zn1 ha hb hab xs p hx;unfold zgv;rw[Z4 ⟨ht,by rw[hti];exact hx⟩,Z4 ⟨ha,hx⟩,Z4 ⟨hb,by rw[<-hab];exact hx⟩];have e1:t.outs=a.outs++b.outs.map (gA (jnS a b).1):=by rw[e];rfl
  have e2:t.ops=(jnS a b).2.1:=by rw[e];rfl
  rw[e1,e2,List.map_append,List.map_map]
  congr 1
  .refine qD fun k hk=>?_
   have hk:=a6 k hk;rw[j2,zid hk.1 O]
  .refine qD fun k hk=>?_
   have hk:=b6 k hk;have hs:(jnS a b).1[k.toNat]? =some (gA (jnS a b).1 k):=by
    unfold gA;rw[q7 O];rfl
   have:=j5 _ _ hs;rw[Function.comp,this];unfold gI;rw[qA]
 .rw[(zlp (t:=t) (by rw[hti];exact hx)).1,(zlp (t:=a) hx).1,(zlp (t:=b) (by rw[<-hab];exact hx)).1];rfl
theorem zv2{a b:Tp}(h:(jnE a b).2≠0):(jnE a b).1=tp0:=by
 unfold jnE at h⊢;split
 .rfl
 rename_i c1;rw[Z5 c1]at h;split
 .rfl
 rename_i c2;rw[Z5 c2]at h;exact absurd rfl h
set_option maxRecDepth 100000
set_option maxHeartbeats 8000000
def TJ:Tab:= {T8 with gl:=48::14::T8.gl}
theorem hTJ:TabOK Tryz.prog TJ:=ze7 Z Z
theorem j28(l:List Iv)(hl:l.length<=1000000):Fn 84 [] [.sl .iv l] (.own 2000000) [(2000000,.buf 35 .iv l)]:=by
 by_cases h0:l= []
 .subst h0;refine fnT hTJ hmx Tryz.func84 rfl rfl (ex:= [7]) ?_;conv=>whnf
  refine⟨fun h=>?_,fun _=>?_⟩
  .conv=>whnf
   exact⟨trivial,lh1 ⟨rfl,rfl⟩ lh0⟩
  .conv=>whnf
   refine⟨OC,?_⟩;conv=>whnf
   exact⟨lr rfl,lh1 (bb0 OC) lh0⟩
 .exact x13 l hl h0
theorem j119{a b:Dy}(ha:VD a)(hb:VD b)(p:Int)(up:Bool)(hp:¬pcB p=true):Fn 128 G0 [.agg (dyC a),.agg (dyC b),.int .i64 p,.bool up] (dyV (d0,2)) G0:=by
 have h:=y164 p [a,b] (by
  have:=ha.len;have:=hb.len;intro d hd;have hd:d=a\/d=b:=by simpa using hd
  rcases hd with rfl|rfl
  .exact⟨ha.lb,O⟩
  .exact⟨hb.lb,O⟩) OC
 have e:ftD p [a,b]=2:=by
  unfold ftD;rw[Z5 (by simp[(zap ha.lb).2 ha,(zap hb.lb).2 hb]),Z4 (by simpa using hp)]
 rw[e]at h;refine fY6 Tryz.func128 rfl ?_;refine gYn h ?_;exact⟨zqf,leG⟩
theorem j73{a b:Dy}(ha:VD a)(hb:VD b)(p:Int)(hp:¬pcB p=true):Fn 93 G0 [.agg (dyC a),.agg (dyC b),.int .i64 p] (dyV (d0,2)) G0:=by
 have h:=j119 ha hb p false hp;refine fY6 Tryz.func93 rfl ?_;refine gYc h ?_;exact⟨lr rfl,leG⟩
theorem j75{a b:Dy}(ha:VD a)(hb:VD b)(p:Int)(hp:¬pcB p=true):Fn 95 G0 [.agg (dyC a),.agg (dyC b),.int .i64 p] (dyV (d0,2)) G0:=by
 have h:=j119 ha hb p true hp;refine fY6 Tryz.func95 rfl ?_;refine gYc h ?_;exact⟨lr rfl,leG⟩
theorem j30(r:Rt)(p:Int):Fn 60 G0 [.agg [.int .i64 r.n,.int .i64 r.d],.int .i64 p] (.agg (ivC (qby r p))) G0:=by
 by_cases hp:pcB p=true
 .unfold qby;rw[Z4 hp];exact i50 r p hp
 .have h15:=f54 r.n r.d;have hr:rOk ⟨r.n,r.d⟩=rOk r:=rfl;rw[hr]at h15;unfold qby;rw[Z5 hp];by_cases h:rOk r=true
  .rw[h]at h15;have hb:=zxi h;unfold rIn at hb;have n1:=v77 r.n O;have n2:=v77 r.d O;have vn:=kq r.n O;have vd:=kq r.d O;have n3:=j73 vn vd p hp;have n4:=j75 vn vd p hp;generalize kr r.n=N at*;generalize kr r.d=D at*;refine fY6 Tryz.func60 rfl ?_;refine gYn h15 ?_;refine gYc n1 ?_;refine gYc n2 ?_;refine gYc n3 ?_;refine gYd ?_;refine gYc n1 ?_;refine gYc n2 ?_;refine gYc n4 ?_;refine gYd ?_;exact⟨leW,leG⟩
  .rw[show rOk r=false by simpa using h]at h15;refine fY6 Tryz.func60 rfl ?_;refine gYn h15 ?_;exact⟨leW,leG⟩
theorem qbi(r:Rt)(p:Int):CI (qby r p):=by
 unfold qby;split
 .rename_i h;exact qfp r h
 .exact zgr
theorem j79(a:List Int)(ha:a.length<9223372036854775808):Fn 123 [] [.sl .u32 a,.sl .u32 a] (.bool true) []:=by
 refine fnT hTJ hmx Tryz.func123 rfl rfl (ex:= []) ?_;conv=>whnf
 refine brI (fun h1=>?_) (fun _=>?_)
 .have h1:((a.length:Int) != (a.length:Int))=true:=h1;simp at h1
 conv=>whnf
 refine⟨Nat,fun i=>i<=a.length,fun i=> [(13,.int .i64 i)],fun _=> [],fun i=>a.length-i,0,qC _,?_,fun i hi=>?_⟩
 .exact KZ0
 refine gYe ?_;refine brI (fun h1=>?_) (fun h1=>?_)
 .have h1:=Z0 h1;have hi:i<a.length:=O;conv=>whnf
  refine⟨⟨O,O⟩,fun(x:Int)hx=>?_⟩;have hx:a[i]? =some x:=by simpa using hx
  conv=>whnf
  refine⟨⟨O,O⟩,fun(y:Int)hy=>?_⟩;have hy:a[i]? =some y:=by simpa using hy
  obtain rfl:x=y:=by rw[hx]at hy;exact Option.some.inj hy
  conv=>whnf
  refine gYd ?_;refine brI (fun h2=>?_) (fun _=>?_)
  .have h2:(x != x)=true:=h2;simp at h2
  conv=>whnf
  refine⟨i+1,O,by show a.length-(i+1)<a.length-i;omega,?_⟩;exact KZ0
 .conv=>whnf
  exact⟨lr rfl,lh0⟩
theorem j37(d:Dy)(hl:d.m.length<9223372036854775808):Fn 83 [] [.agg (dyC d),.agg (dyC d)] (.bool true) []:=by
 have h:=j79 d.m hl;obtain⟨s,m,e⟩:=d;cases s
 all_goals
  refine fnT hTJ hmx Tryz.func83 rfl rfl (ex:= []) ?_;conv=>whnf
  refine brI (fun _=>?_) (fun c=>?_)
  rotate_left
  .exact absurd (show(e==e)=true by simp) (by rw[show(e==e)=false from c];simp)
  conv=>whnf
  refine gYn h ?_;exact⟨lr rfl,lh0⟩
theorem j12(x:Iv)(h1:x.lo.m.length<9223372036854775808)(h2:x.hi.m.length<9223372036854775808):Fn 47 [] [.agg (ivC x),.agg (ivC x)] (.bool true) []:=by
 have c1:=j37 x.lo h1;have c2:=j37 x.hi h2;obtain⟨a,b,c⟩:=x;cases c
 all_goals
  refine fnT hTJ hmx Tryz.func47 rfl rfl (ex:= []) ?_;conv=>whnf
  refine gYn c1 ?_;refine gYn c2 ?_;exact⟨lr rfl,lh0⟩
theorem j32(l:List Iv)(hl:∀x∈l,RI x)(hlen:l.length<9223372036854775808):Fn 46 [] [.sl .iv l,.sl .iv l,.fn 47 []] (.bool true) []:=by
 refine fnT hTJ hmx Tryz.func46 rfl rfl (ex:= []) ?_;conv=>whnf
 refine brI (fun h1=>?_) (fun _=>?_)
 .have h1:((l.length:Int) != (l.length:Int))=true:=h1;simp at h1
 conv=>whnf
 refine⟨Nat,fun i=>i<=l.length,fun i=> [(17,.int .i64 i)],fun _=> [(8,.free),(9,.free)],fun i=>l.length-i,0,qC _,?_,fun i hi=>?_⟩
 .exact KZ0
 refine gYe ?_;refine brI (fun h1=>?_) (fun h1=>?_)
 .have h1:=Z0 h1;have hi:i<l.length:=O;conv=>whnf
  refine⟨⟨O,O⟩,fun(x:Iv)hx=>?_⟩;have hx:l[i]? =some x:=by simpa using hx
  have hr:=hl x (q5 hx);have h20:=j12 x hr.l1 hr.l2;conv=>whnf
  refine⟨⟨O,O⟩,fun(y:Iv)hy=>?_⟩;have hy:l[i]? =some y:=by simpa using hy
  obtain rfl:x=y:=by rw[hx]at hy;exact Option.some.inj hy
  conv=>whnf
  refine gYn h20 ?_;refine⟨i+1,O,by show l.length-(i+1)<l.length-i;omega,?_⟩;exact KZ0
 .conv=>whnf
  exact⟨lr rfl,lh0⟩
theorem j10(l:List Iv)(hl:∀x∈l,RI x)(hlen:l.length<9223372036854775808):Fn 13 [] [.sl .iv l,.sl .iv l] (.bool true) []:=by
 refine fnT hTJ hmx Tryz.func13 rfl rfl (ex:= []) ?_;conv=>whnf
 refine gYn (j32 l hl hlen) ?_;exact⟨lr rfl,lh0⟩
abbrev wNl:List AV:= [.bool false,.nilsl,.int .i64 0,.bool false,.nilsl,.int .i64 0,.bool true]
theorem R_wNl{ρ:Env}{v:Value}(h:R ρ (.agg wNl) v):R ρ (.agg (ivC wI0)) v:=by
 obtain⟨cs,rfl,h⟩:=h;refine⟨cs,rfl,?_⟩
 match cs.toList,h with
 | [_,_,_,_,_,_,_],⟨a,b,c,d,e,f,g,_⟩=>exact⟨a,qbc b,c,d,qbc e,f,g,trivial⟩
theorem nilw{f:Nat}{H H':Hp}{a b c e r:AV}(h:Fn f H [a,b,c,.agg (ivC wI0),e] r H'):Fn f H [a,b,c,.agg wNl,e] r H':=
 h.arg fun _ vs hv=>match vs,hv with
  | [_,_,_,_,_],⟨h1,h2,h3,h4,h5,h6⟩=>⟨h1,h2,h3,R_wNl h4,h5,h6⟩
theorem zhs{vs:List Iv}{k:Int}(h0:0<=k)(h:k<vs.length):vs[k.toNat]? =some (gI vs k):=by
 unfold gI;rw[q7 O];rfl
theorem znh{k:Int}(h:zeb k=1\/zeb k=2):Kt k:=by
 unfold zeb at h;unfold Kt;split at h
 .omega
 split at h
 .omega
 split at h<;>omega
theorem zjy:∀ {l:List TOp}{n:Int}(i:Nat),zdv l n=true->zdv (l.take i) n=true
 | [],_,i,_=>by simp[zdv]
 |o::l,n,0,_=>rfl
 |o::l,n,i+1,h=>by
  simp only[List.take_succ_cons,zdv,q8]at h⊢;exact⟨h.1,zjy i h.2⟩
theorem RI_st{p:Int}{o:TOp}{n:Int}{vs:List Iv}(ho:tB o n=true)(hv:∀y∈vs,RI y)(hn:n=vs.length):RI (stO p o vs):=by
 have hg:∀k,0<=k->k<n->RI (gI vs k):=fun k h0 h=>hv _ (q5 (zhs h0 O))
 unfold stO;rcases ze8 ho with h1|⟨h1,h2,h3⟩|⟨h1,⟨h2,h3⟩,h4,h5⟩
 .rw[Z4 h1];exact(qbi o.c p).ri
 .rw[Z5 (by rw[h1];decide),Z4 h1];exact(ApKt p o.k o.n (gI vs o.a) wI0 (znh (.inl h1)) (hg _ h2 h3) zjd).2.ri
 .rw[Z5 (by rw[h1];decide),Z5 (by rw[h1];decide)];exact(ApKt p o.k o.n (gI vs o.a) (gI vs o.b) (znh (.inr h1)) (hg _ h2 h3) (hg _ h4 h5)).2.ri
theorem zuh{p:Int}:∀ {l:List TOp}{vs:List Iv},zdv l vs.length=true->(∀y∈vs,RI y)->∀y∈zaq p l vs,RI y
 | [],_,_,hv=>hv
 |o::l,vs,hb,hv=>by
  have hb':tB o vs.length=true/\zdv l (vs.length+1)=true:=by simpa[zdv]using hb
  rw[zaq];refine zuh (by simpa using hb'.2) fun y hy=>?_
  rcases qL.1 hy with hy|hy
  .exact hv y hy
  .rw[List.mem_singleton.1 hy];exact RI_st hb'.1 hv rfl
theorem zvd{p:Int}{l:List TOp}{vs:List Iv}{i:Nat}{o:TOp}(h:l[i]? =some o):zaq p (l.take (i+1)) vs=zaq p (l.take i) vs++ [stO p o (zaq p (l.take i) vs)]:=by
 rw[qG,h,Option.toList_some,zep];rfl
noncomputable def body7:Code:=Tryz.f48.body.getD .skip
theorem j7(t:Tp)(x:List Iv)(p:Int)(h1:t.ops.length<9223372036854775808)(h2:t.outs.length<9223372036854775808)(hx:∀y∈x,RI y)(hxl:x.length<9223372036854775808):
 Fn 48 G0 [.agg (tpC t),.sl .iv x,.int .i64 p] (.sl .iv (zo2 t x p)) G0:=by
 have h21:=f41 t h1 h2;by_cases hv:tvB t=true
 rotate_left
 .have hv:tvB t=false:=by simpa using hv
  rw[hv]at h21;have e:zo2 t x p= []:=by unfold zo2;rw[Z5 (by simp[hv])]
  rw[e];refine fnT hTJ hmx Tryz.func48 rfl rfl (ex:= []) ?_;conv=>whnf
  refine gYn h21 ?_;exact⟨li0 rfl,leG⟩
 rw[hv]at h21;by_cases hl:(x.length:Int)=t.ins
 rotate_left
 .have e:zo2 t x p= []:=by unfold zo2;rw[Z5 (by simp[hl])]
  rw[e];refine fnT hTJ hmx Tryz.func48 rfl rfl (ex:= []) ?_;conv=>whnf
  refine gYn h21 ?_;refine brI (fun _=>?_) (fun c=>?_)
  .conv=>whnf
   exact⟨li0 rfl,leG⟩
  .have c:((x.length:Int) != t.ins)=false:=c;exact absurd (by simpa using c) hl
 have e:zo2 t x p=zaq p t.ops x:=by unfold zo2;rw[Z4 ⟨hv,hl⟩]
 obtain⟨⟨a1,a2,a3,a4⟩,hob,_⟩:=wv hv;rw[<-hl]at hob;have h28:=j28 x O;obtain⟨L,hL⟩:∃L:Nat->List Iv,L=fun i=>zaq p (t.ops.take i) x:=⟨_,rfl⟩
 have L0:x=L 0:=by rw[hL];rfl
 have Ln:L t.ops.length=zo2 t x p:=by rw[hL,e];simp
 have Ls:∀i o,t.ops[i]? =some o->L (i+1)=L i++ [stO p o (L i)]:=fun i o h=>by rw[hL];exact zvd h
 have Ll:∀i,i<=t.ops.length->(L i).length =x.length+i:=fun i h=>by rw[hL];simp only;rw[zbj,qH];omega
 have Lb:∀i o,t.ops[i]? =some o->tB o (L i).length =true:=fun i o h=>by
  rw[Ll i (by have:=(q0.1 h).1;omega)];have:=zc1 hob h;simpa using this
 have Lr:∀i,i<=t.ops.length->∀y∈L i,RI y:=fun i _=>by
  rw[hL];exact zuh (zjy _ hob) hx
 rw[<-Ln];clear hL e Ln;refine vu (code:=body7) hTJ hmx Tryz.func48 rfl rfl (ex:= []) ?_;conv=>whnf
 refine jf hTJ hmx 3 (fun _:Unit=>⟨[.any,.any,.int .i64 p,.ptr 3 0,.any,.any,.any,.own 22]++zbh 67,[(3,.cells (tpC t)),(22,.buf 35 .iv (L 0)),(9,.free),(10,.free),(72,.dead),(100072,.free),(1500072,.free),(qc,.gst JT)]⟩) (fun _=>Z) ?_ (fun _=>?_)
 .conv=>whnf
  refine gYn h21 ?_;refine brI (fun c=>?_) (fun _=>?_)
  .have c:((x.length:Int) != t.ins)=true:=c;rw[hl]at c;simp at c
  conv=>whnf
  refine⟨[],[.buf 35 .iv x],.own 2000000,h28,?_⟩;conv=>whnf
  refine⟨(),?_⟩;exact KZ0
 .refine zae 72 22 Z ?_;conv=>whnf
  refine jt hTJ hmx ?_;conv=>whnf
  refine⟨Nat,fun i=>i<=t.ops.length,fun i=> [(26,.int .i64 i),(7,.own 72)],fun i=> [(9,.free),(10,.free),(72,.buf 35 .iv (L i))],fun i=>t.ops.length-i,0,qC _,?_,fun i hi=>?_⟩
  .exact KZ0
  refine gYe ?_;refine brI (fun c=>?_) (fun c=>?_)
  .have c:=Z0 c;have hi:i<t.ops.length:=O;conv=>whnf
   refine⟨⟨O,O⟩,fun(o:TOp)ho=>?_⟩;have ho:t.ops[i]? =some o:=by simpa using ho
   have hb:=Lb i o ho;have hs:=Ls i o ho;have hr:=Lr i O;have hn:=Ll i O;have h29:=f129 o.k;generalize L i=V at*;obtain⟨V',hV'⟩:∃V',L (i+1)=V':=⟨_,rfl⟩;unfold stO at hs;rcases ze8 hb with k1|⟨k1,k2,k3⟩|⟨k1,⟨k2,k3⟩,k4,k5⟩
   .rw[Z4 k1]at hs;rw[k1]at h29;have h30:=j30 o.c p;conv=>whnf
    refine gYn h29 ?_;refine gYc h30 ?_;refine⟨OE,?_⟩;conv=>whnf
    refine⟨i+1,O,by show t.ops.length-(i+1)<t.ops.length-i;omega,?_⟩;exact KZ0
   .rw[Z5 (by rw[k1];decide),Z4 k1]at hs;rw[k1]at h29;have ga:=zhs k2 k3;have h13:=nilw (ApKt p o.k o.n (gI V o.a) wI0 (znh (.inl k1)) (hr _ (q5 ga)) zjd).1;generalize gI V o.a=A at*;conv=>whnf
    refine gYn h29 ?_;refine⟨⟨O,O⟩,?_⟩;conv=>whnf
    refine⟨O,fun(A':Iv)hA'=>?_⟩;obtain rfl:A=A':=by
     have hA':V[o.a.toNat]? =some A':=hA';rw[ga]at hA';exact Option.some.inj hA'
    conv=>whnf
    refine gYc h13 ?_;refine gYd ?_;refine⟨OE,?_⟩;conv=>whnf
    refine⟨i+1,O,by show t.ops.length-(i+1)<t.ops.length-i;omega,?_⟩;exact KZ0
   .rw[Z5 (by rw[k1];decide),Z5 (by rw[k1];decide)]at hs;rw[k1]at h29;have ga:=zhs k2 k3;have gb:=zhs k4 k5;have h13:=(ApKt p o.k o.n (gI V o.a) (gI V o.b) (znh (.inr k1)) (hr _ (q5 ga)) (hr _ (q5 gb))).1;generalize gI V o.a=A at*;generalize gI V o.b=B at*;conv=>whnf
    refine gYn h29 ?_;refine⟨⟨O,O⟩,?_⟩;conv=>whnf
    refine⟨O,fun(A':Iv)hA'=>?_⟩;obtain rfl:A=A':=by
     have hA':V[o.a.toNat]? =some A':=hA';rw[ga]at hA';exact Option.some.inj hA'
    conv=>whnf
    refine⟨⟨O,O⟩,?_⟩;conv=>whnf
    refine⟨O,fun(B':Iv)hB'=>?_⟩;obtain rfl:B=B':=by
     have hB':V[o.b.toNat]? =some B':=hB';rw[gb]at hB';exact Option.some.inj hB'
    conv=>whnf
    refine gYc h13 ?_;refine gYd ?_;refine⟨OE,?_⟩;conv=>whnf
    refine⟨i+1,O,by show t.ops.length-(i+1)<t.ops.length-i;omega,?_⟩;exact KZ0
  .have c:=Z1 c;obtain rfl:i=t.ops.length:=O;conv=>whnf
   exact⟨lr rfl,leG⟩
theorem j8(t:Tp)(x:List Iv)(p:Int)(h1:t.ops.length<9223372036854775808)(h2:t.outs.length<9223372036854775808)(hx:∀y∈x,RI y)(hxl:x.length<9223372036854775808):
 Fn 14 G0 [.agg (tpC t),.sl .iv x,.int .i64 p] (.sl .iv (zgv t x p)) G0:=by
 have h7:=j7 t x p h1 h2 hx hxl;have h21:=f41 t h1 h2;by_cases hv:tvB t=true/\(x.length:Int)=t.ins
 rotate_left
 .have e:zgv t x p= []:=by unfold zgv;rw[Z5 hv]
  have e2:zo2 t x p= []:=by unfold zo2;rw[Z5 hv]
  rw[e];rw[e2]at h7;obtain⟨b,hb⟩:∃b,tvB t=b:=⟨_,rfl⟩;rw[hb]at hv h21;refine fnT hTJ hmx Tryz.func14 rfl rfl (ex:= []) ?_;conv=>whnf
  refine gYc h7 ?_;refine brI (fun _=>?_) (fun _=>?_)
  .conv=>whnf
   exact⟨li0 rfl,leG⟩
  conv=>whnf
  refine brI (fun _=>?_) (fun c=>?_)
  .conv=>whnf
   exact⟨li0 rfl,leG⟩
  have c:((x.length:Int) != t.ins)=false:=c;have c:(x.length:Int)=t.ins:=by simpa using c
  cases b with
  |true=>exact absurd ⟨rfl,c⟩ hv
  |false=>
   conv=>whnf
   refine gYn h21 ?_;exact⟨li0 rfl,leG⟩
 rw[hv.1]at h21;have e:zgv t x p=t.outs.map (gI (zaq p t.ops x)):=by unfold zgv;rw[Z4 hv]
 have e2:zo2 t x p=zaq p t.ops x:=by unfold zo2;rw[Z4 hv]
 obtain⟨⟨a1,a2,a3,a4⟩,hob,hout⟩:=wv hv.1;have hLl:(zaq p t.ops x).length =x.length+t.ops.length:=zbj _ _ _;rw[e2]at h7;rw[e];have hl:=hv.2;generalize zaq p t.ops x=L at*;obtain⟨M,hM⟩:∃M,t.outs.map (gI L)=M:=⟨_,rfl⟩;have hMl:M.length=t.outs.length:=by rw[<-hM];simp
 have hMs:∀i k,t.outs[i]? =some k->M.take (i+1)=M.take i++ [gI L k]:=fun i k h=>by
  rw[qG,<-hM,List.getElem?_map,h];rfl
 rw[hM];clear hM e e2 hob;refine fnT hTJ hmx Tryz.func14 rfl rfl (ex:= []) ?_;conv=>whnf
 refine gYc h7 ?_;refine brI (fun c=>?_) (fun _=>?_)
 .have c:=Z0 c;rw[wI O]at c;omega
 conv=>whnf
 refine brI (fun c=>?_) (fun _=>?_)
 .have c:((x.length:Int) != t.ins)=true:=c;rw[hl]at c;simp at c
 conv=>whnf
 refine gYn h21 ?_;refine⟨Nat,fun i=>i<=t.outs.length,fun i=> [(39,.int .i64 i),(8,.own 49)],fun i=> [(49,.buf 35 .iv (M.take i))],fun i=>t.outs.length-i,0,qC _,?_,fun i hi=>?_⟩
 .exact KZ0
 refine gYe ?_;refine brI (fun c=>?_) (fun c=>?_)
 .have c:=Z0 c;have hi:i<t.outs.length:=O;conv=>whnf
  refine⟨⟨O,O⟩,fun(k:Int)hk=>?_⟩;have hk:t.outs[i]? =some k:=by simpa using hk
  have hs:=hMs i k hk;obtain⟨k1,k2⟩:=hout k (q5 hk);have gk:=zhs (vs:=L) k1 O;generalize gI L k=A at*;conv=>whnf
  refine⟨⟨O,O⟩,fun(A':Iv)hA'=>?_⟩;obtain rfl:A=A':=by
   have hA':L[k.toNat]? =some A':=hA';rw[gk]at hA';exact Option.some.inj hA'
  conv=>whnf
  refine⟨OE,?_⟩;conv=>whnf
  refine⟨i+1,O,by show t.outs.length-(i+1)<t.outs.length-i;omega,?_⟩;exact KZ0
 .have c:=Z1 c;conv=>whnf
  exact⟨xi (by rw[List.take_of_length_le O]),leG⟩
