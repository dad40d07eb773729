/- The contract of a function; calls; every operation. -/
import Derived.Test.YtlbmkjbgfkgcmaaGreatDoorTSxU
set_option linter.all false
open Bool renaming false_eq_true->q4
open List renaming mem_cons->q0,mem_append->q2,cons_append->q3,nodup_cons->qA,length_append->qB,length_map->qD
open Nat renaming le_of_ble_eq_true->q1,le_trans->qC,ble->qE
namespace Go.Sx
open Go
def zfa(hp:Hp)(w:World)(M:Nat->Prop)(pt:Nat->Option Nat)(ow:Nat->Option Value)(pt':Nat->Option Nat)(ow':Nat->Option Value):Prop:=
 ∀i l b cs T,hget hp i=.cells l->pt i=some b->w.heap[b]? =some (.cells cs T (0,0))->Rs ⟨zo w M,pt',ow'⟩ l cs.toList
def Ent(P:Program)(f:Nat):Prop:=∃fn,P.funcs[f]? =some fn/\fn.body.isNone=false/\(fn.name== "runtime.NumGoroutine")=false
def vbl(h:Value):Option Nat:=match h with
 |.slice (some a) _ _=>some a.block
 | _=>none
structure Left(w w':World)(M M':Nat->Prop)(pt:Nat->Option Nat)(ow:Nat->Option Value)(S:Nat->Prop)(pt':Nat->Option Nat)(ow':Nat->Option Value)(S':Nat->Prop):Prop where
 os:w'.os=w.os
 tape:w'.tape=w.tape
 output:w'.output=w.output
 size:w.heap.size<=w'.heap.size
 same:∀b,b<w.heap.size->(∀i,bl pt ow i≠some b)->¬S b->w'.heap[b]? =w.heap[b]?
 mm:∀b,M b->M' b
 mn:∀b,M' b->M b\/w.heap.size<=b
 sn:∀b,S' b->S b\/w.heap.size<=b
 lept:∀i b,pt' i=some b->pt i=some b\/(w.heap.size<=b/\2000000<=i)
 leow:∀i h,ow' i=some h->ow i=some h\/((∀b,vbl h=some b->w.heap.size<=b\/∃j,bl pt ow j=some b)/\2000000<=i)
def Ans(w:World)(M:Nat->Prop)(pt:Nat->Option Nat)(ow:Nat->Option Value)(S:Nat->Prop)(r:AV)(H':Hp)(e:Ending)(w':World):Prop:=
 ∃v M' pt' ow' S',e=.returned v/\Core M' pt' ow' S' H' w'/\zfa H' w' M' pt' ow' pt' ow'/\R ⟨zo w' M',pt',ow'⟩ r v/\Left w w' M M' pt ow S pt' ow' S'
def zh8(P:Program)(f:Nat):CT:=fun H A r H'=>
 Ent P f/\∀(w:World)(M:Nat->Prop)(pt:Nat->Option Nat)(ow:Nat->Option Value)(S:Nat->Prop)(vs:List Value),Core M pt ow S H w->zfa H w M pt ow pt ow->Rs ⟨zo w M,pt,ow⟩ A vs->
  Calls P f vs.toArray w (Ans w M pt ow S r H')
def CbOK(P:Program)(l:Nat):CT:=fun H A r H'=>
 ∀(w:World)(M:Nat->Prop)(pt:Nat->Option Nat)(ow:Nat->Option Value)(S:Nat->Prop)(vs:List Value),Core M pt ow S H w->zfa H w M pt ow pt ow->Rs ⟨zo w M,pt,ow⟩ A vs->
  YieldAt Fence.wide 0 P l vs.toArray w (Ans w M pt ow S r H')
def CN(P:Program):Con:=⟨zh8 P,CbOK P⟩
theorem wy:∀(l:List Nat)(i:Nat),zev i l=true<->i∈l
 | [],i=>by simp[zev]
 |j::l,i=>by
  simp only[zev];split
  .rename_i e;simp[(zd _ _).1 e]
  .rename_i e;rw[wy l i];have:=(zt _ _).1 e;simp[this]
theorem zbo:∀(l:List Nat)(i:Nat),i∈nub l<->i∈l
 | [],i=>by simp[nub]
 |j::l,i=>by
  simp only[nub];split
  .rename_i e;rw[zbo l i];have:=(wy l j).1 e;constructor
   .exact fun h=>by simp[h]
   .intro h;rcases q0.1 h with rfl|h
    .exact this
    .exact h
  .rw[q0,zbo l i,q0]
theorem zam:∀(l:List Nat),(nub l).Nodup
 | []=>by simp[nub]
 |j::l=>by
  simp only[nub];split
  .exact zam l
  .rename_i e;rw[qA];refine⟨fun h=>?_,zam l⟩;have:=(zbo l j).1 h;rw[<-wy]at this;rw[this]at e;cases e
theorem xz:∀(l m:List Nat),zvr l m=true->∀i∈l,i∈m
 | [],_,_,i,hi=>by simp at hi
 |j::l,m,h,i,hi=>by
  simp only[zvr]at h;split at h
  .rename_i e;rcases q0.1 hi with rfl|hi
   .exact(wy _ _).1 e
   .exact xz l m h i hi
  .cases h
theorem jy:∀ {ids:List Nat}{bs:List Blk}{i:Nat},i∉ids->hget (wh ids bs) i=.dead
 | [],_,_,_=>rfl
 | _::_,[],_,_=>rfl
 |j::ids,b::bs,i,h=>by
  simp only[q0,not_or]at h;simp only[wh];rw[zf,Z7 (fun e=>h.1 e.symm),jy h.2]
theorem wq(hp:Hp):∀ {ids:List Nat}{i:Nat},i∈ids->hget (wh ids (qj hp ids)) i=hget hp i
 | [],_,h=>by simp at h
 |j::ids,i,h=>by
  simp only[qj,wh];rw[zf];by_cases e:j=i
  .rw[Z6 e,e]
  .rw[Z7 e];exact wq hp ((q0.1 h).resolve_left fun h=>e h.symm)
theorem uy:∀ {ids:List Nat}{bs:List Blk}{hp:Hp}{i:Nat},ids.Nodup->zck ids bs=true->uh hp i->hget (qq hp ids bs) i=if i∈ids then hget (wh ids bs) i else hget hp i
 | [],bs,hp,i,_,_,_=>by simp[qq]
 |j::ids,[],hp,i,_,h,_=>by simp[zck]at h
 |j::ids,b::bs,hp,i,hn,hl,hk=>by
  simp only[qq,zck]at hl⊢;rw[qA]at hn;rw[uy hn.2 hl (zf1.2 hk)];simp only[wh];rw[zf];by_cases e:j=i
  .subst e;rw[Z7 hn.1,Z6 OC,Z6 rfl];exact qb hk
  .rw[Z7 e];by_cases hi:i∈ids
   .rw[Z6 hi,Z6 (by simp[hi])]
   .rw[Z7 hi,Z7 (by simp[hi];exact fun h=>e h.symm)];exact zx fun h=>e h.symm
theorem yo:∀ {ids:List Nat}{bs:List Blk}{hp:Hp}{i:Nat},¬uh hp i->hget (qq hp ids bs) i=.dead
 | [],bs,hp,i,hk=>by
   simp only[qq];cases h:hget hp i<;>first|rfl|exact absurd (zr (by rw[h];simp)) hk
 |j::ids,[],hp,i,hk=>by
  simp only[qq];cases h:hget hp i<;>first|rfl|exact absurd (zr (by rw[h];simp)) hk
 |j::ids,b::bs,hp,i,hk=>by
  simp only[qq];exact yo fun h=>hk (zf1.1 h)
theorem jv:∀ {h:Hp}{i:Nat}{l:List AV},hget h i=.cells l->∀j∈wk l,j∈zc4 h
 | [],i,l,h,_,_=>by simp[hget]at h
 |(a,b)::r,i,l,h,j,hj=>by
  rw[zf]at h;simp only[zc4];split at h
  .subst h;simp[hj]
  .have:=jv h j hj;simp[this]
theorem zao:∀ {ids:List Nat}{bs:List Blk}{i:Nat},yf bs=true->(hget (wh ids bs) i).isFree =false
 | [],_,_,_=>rfl
 | _::_,[],_,_=>rfl
 |j::ids,b::bs,i,h=>by
  simp only[wh];rw[zf];split
  .cases b<;>simp[yf]at h<;>rfl
  .exact zao (by cases b<;>simp[yf]at h<;>exact h)
theorem jr:∀(l m:List Nat),zde l m=true<->∀i∈l,i∉m
 | [],m=>by simp[zde]
 |i::l,m=>by
  simp only[zde]
  cases e:zev i m with
  |true=>
   have:=(wy _ _).1 e;simp[this]
  |false=>
   have:i∉m:=fun h=>by rw[<-wy]at h;rw[h]at e;cases e
   simp[jr l m,this]
theorem zex:∀ {l:List Nat},ltB l=true->∀i∈l,i<2000000
 | [],_,i,hi=>by simp at hi
 |j::l,h,i,hi=>by
  simp only[ltB]at h;split at h
  .rename_i e;rcases q0.1 hi with rfl|hi
   .exact q1 e
   .exact zex h i hi
  .cases h
theorem zlf:∀ {l:List Nat},zwj l=true->∀i∈l,i<=999999
 | [],_,i,hi=>by simp at hi
 |j::l,h,i,hi=>by
  simp only[zwj]at h;split at h
  .rename_i e;rcases q0.1 hi with rfl|hi
   .exact q1 e
   .exact zlf h i hi
  .cases h
theorem jl:∀(n d i:Nat),i∈zp n d<->∃q,q<n/\i=d+100000*q
 |0,d,i=>by simp[zp]
 |n+1,d,i=>by
  simp only[zp,q0,jl n];constructor
  .rintro(h|⟨q,h1,h2⟩)
   .exact⟨0,O,O⟩
   .exact⟨q+1,O,O⟩
  .rintro⟨q,h1,h2⟩
   cases q with
   |zero=>exact .inl O
   |succ q=>exact .inr ⟨q,O,O⟩
theorem zfh:∀(n d:Nat),(zp n d).Nodup
 |0,_=>by simp[zp]
 |n+1,d=>by
  simp only[zp,qA];refine⟨fun h=>?_,zfh n _⟩;obtain⟨q,h1,h2⟩:=(jl _ _ _).1 h;omega
theorem zd0:∀(n d i:Nat),i∈zce n d<->∃q,q<n/\i=d+q
 |0,d,i=>by simp[zce]
 |n+1,d,i=>by
  simp only[zce,q0,zd0 n];constructor
  .rintro(h|⟨q,h1,h2⟩)
   .exact⟨0,O,O⟩
   .exact⟨q+1,O,O⟩
  .rintro⟨q,h1,h2⟩
   cases q with
   |zero=>exact .inl O
   |succ q=>exact .inr ⟨q,O,O⟩
theorem zlv:∀(n d j:Nat)(bs:List Blk)(q:Nat),q<n->hget (wh (zp n d) bs) (d+100000*q)=hget (wh (zce n j) bs) (j+q)
 |0,_,_,_,_,h=>O
 |n+1,d,j,[],q,h=>rfl
 |n+1,d,j,b::bs,q,h=>by
  simp only[zp,zce,wh];rw[zf,zf]
  cases q with
  |zero=>rw[Z6 O,Z6 O]
  |succ q=>
   rw[Z7 O,Z7 O];have:=zlv n (d+100000) (j+1) bs q O;rw[(O:d+100000*(q+1)=d+100000+100000*q),(O:j+(q+1)=j+1+q)];exact this
theorem zfy:∀ {l:List Nat}{bs:List Blk},zck l bs=true->l.length=bs.length
 | [],[],_=>rfl
 | [],_::_,h=>by simp[zck]at h
 | _::_,[],h=>by simp[zck]at h
 | _::l,_::bs,h=>by simp only[zck]at h;simp[zfy h]
theorem zna:∀ {l:List Nat}{bs:List Blk},l.length=bs.length->zck l bs=true
 | [],[],_=>rfl
 | [],_::_,h=>by simp at h
 | _::_,[],h=>by simp at h
 | _::l,_::bs,h=>by simp only[zck];exact zna (by simpa using h)
theorem zil:∀(n d:Nat),(zp n d).length =n
 |0,_=>rfl
 |n+1,d=>by simp[zp,zil n]
theorem zov:∀(n d:Nat),(zce n d).length =n
 |0,_=>rfl
 |n+1,d=>by simp[zce,zov n]
theorem zum:∀(a b:List Blk),catB a b=a++b
 | [],_=>rfl
 |x::a,b=>by simp[catB,zum a]
theorem zul:∀(a b:List Nat),qfs a b=a++b
 | [],_=>rfl
 |x::a,b=>by simp[qfs,zul a]
theorem zm5(f:Nat->Nat):∀(a:List Blk),qeo f a=a.map (Blk.mapI f)
 | []=>rfl
 |x::a=>by simp[qeo,zm5 f a]
theorem zbt:∀ {L I:List Nat}{A B:List Blk}{i:Nat},zck L A=true->hget (wh (L++I) (A++B)) i=if i∈L then hget (wh L A) i else hget (wh I B) i
 | [],I,[],B,i,_=>OC
 | [],_,_::_,_,_,h=>by simp[zck]at h
 | _::_,_,[],_,_,h=>by simp[zck]at h
 |j::L,I,a::A,B,i,h=>by
  simp only[zck]at h;simp only[q3,wh];rw[zf,zf,zbt h];by_cases e:j=i
  .rw[Z6 e,Z6 (by simp[e]),Z6 e]
  .rw[Z7 e,Z7 e];by_cases hi:i∈L
   .rw[Z6 hi,Z6 (by simp[hi])]
   .rw[Z7 hi,Z7 (by simp[hi];exact fun h=>e h.symm)]
theorem zee:∀ {I:List Nat}{A:List Blk}{H:Hp}{i:Nat},zck I A=true->hget (zmh (wh I A) H) i=if i∈I then hget (wh I A) i else hget H i
 | [],[],H,i,_=>by simp[wh,zmh]
 | [],_::_,_,_,h=>by simp[zck]at h
 | _::_,[],_,_,h=>by simp[zck]at h
 |j::I,a::A,H,i,h=>by
  simp only[zck]at h;simp only[wh,zmh];rw[zf,zf,zee h];by_cases e:j=i
  .rw[Z6 e,Z6 (by simp[e]),Z6 e]
  .rw[Z7 e,Z7 e];by_cases hi:i∈I
   .rw[Z6 hi,Z6 (by simp[hi])]
   .rw[Z7 hi,Z7 (by simp[hi];exact fun h=>e h.symm)]
theorem zbs(f:Nat->Nat):∀ {I:List Nat}{A:List Blk}{i:Nat},hget (wh I (A.map (Blk.mapI f))) i=(hget (wh I A) i).mapI f
 | [],_,_=>rfl
 | _::_,[],_=>rfl
 |j::I,a::A,i=>by
  simp only[List.map_cons,wh];rw[zf,zf];split
  .rfl
  .exact zbs f
theorem zda(f:Nat->Nat)(b:Blk):(b.mapI f).isFree =b.isFree:=by cases b<;>rfl
theorem zap(f:Nat->Nat)(b:Blk):(b.mapI f).isPt =b.isPt:=by cases b<;>rfl
theorem xe(f:Nat->Nat)(b:Blk):(b.mapI f).isBuf =b.isBuf:=by cases b<;>rfl
theorem zl8:∀(n d:Nat)(I:List Nat),zfp n (zp n d++I)=I
 |0,_,_=>rfl
 |n+1,d,I=>by simp only[zp,q3,zfp];exact zl8 n _ I
theorem zma(hp:Hp):∀(n d:Nat)(I:List Nat)(K:List Blk->Prop),zmb n (qj hp (zp n d++I)) K->(∀i∈zp n d,hget hp i=.free)/\K (qj hp I)
 |0,_,_,_,h=>⟨by simp[zp],h⟩
 |n+1,d,I,K,h=>by
  simp only[zp,q3,qj]at h;cases e:hget hp d<;>rw[e]at h<;>simp only[zmb]at h
  obtain⟨h1,h2⟩:=zma hp n _ I K h;refine⟨fun i hi=>?_,h2⟩;simp only[zp,q0]at hi;rcases hi with rfl|hi
  .exact e
  .exact h1 i hi
mutual
theorem AV.mapI_id(f:Nat->Nat):∀(a:AV),(∀i∈a.ids,f i=i)->a.mapI f=a
 |.any,_=>rfl
 |.bool _,_=>rfl
 |.int _ _,_=>rfl
 |.str _,_=>rfl
 |.nilp,_=>rfl
 |.ptr i o,h=>by simp only[AV.mapI];rw[h i (by simp[AV.ids])]
 |.rp _ _ _,_=>rfl
 |.opt i _ _ _,h=>by simp only[AV.mapI];rw[h i (by simp[AV.ids])]
 |.ow i _ _ _,h=>by simp only[AV.mapI];rw[h i (by simp[AV.ids])]
 |.nilsl,_=>rfl
 |.sl _ _,_=>rfl
 |.own i,h=>by simp only[AV.mapI];rw[h i (by simp[AV.ids])]
 |.agg l,h=>by simp only[AV.mapI];rw[zci f l (by simpa[AV.ids]using h)]
 |.tup l,h=>by simp only[AV.mapI];rw[zci f l (by simpa[AV.ids]using h)]
 |.fn _ l,h=>by simp only[AV.mapI];rw[zci f l (by simpa[AV.ids]using h)]
 |.nilf,_=>rfl
 |.mp i,h=>by simp only[AV.mapI];rw[h i (by simp[AV.ids])]
 |.nilm,_=>rfl
 |.ub _ _,_=>rfl
 |.cb _,_=>rfl
 |.val _,_=>rfl
theorem zci(f:Nat->Nat):∀(l:List AV),(∀i∈wk l,f i=i)->xw f l=l
 | [],_=>rfl
 |a::l,h=>by simp only[xw];rw[AV.mapI_id f a fun i hi=>h i (by simp[wk,hi]),zci f l fun i hi=>h i (by simp[wk,hi])]
end
theorem zch{f:Nat->Nat}{b:Blk}{l:List AV}(h:b.mapI f=.cells l):∃m,b=.cells m/\l=xw f m:=by
 cases b<;>simp only[Blk.mapI]at h<;>cases h
 exact⟨_,rfl,rfl⟩
theorem uc.ren{w:World}{V:kf}{pt pt':Nat->Option Nat}{ow ow':Nat->Option Value}{S S':Nat->Prop}{i j:Nat}{x:Blk}(f:Nat->Nat)(hpt:pt' i=pt j)(how:ow' i=ow j)(hS:j=qi->i=qi/\S'=S)(h:uc w V pt ow S j x):uc w V pt' ow' S' i (x.mapI f):=by
 cases x with
 |free=>trivial
 |dead=>trivial
 |cells l=>simpa only[Blk.mapI,uc,hpt]using h
 |buf e k xs=>simpa only[Blk.mapI,uc,how]using h
 |map a b m=>simpa only[Blk.mapI,uc,hpt]using h
 |gst J=>
  obtain⟨h1,h2,h3⟩:=h;obtain⟨e1,e2⟩:=hS h1;exact⟨e1,h2,by rw[e2];exact h3⟩
theorem zf6:∀(h:Hp),zmh h []=h
 | []=>rfl
 |x::r=>by simp only[zmh];rw[zf6 r]
theorem zd1{h:Hp}{l:List Nat}{i:Nat}(hi:i∈l):i∈zbf h l:=(zbo _ _).2 (List.mem_append_left _ hi)
section
variable {P:Program} {T:Tab} {F:Wf} {c:Ctx} {o:Oper} {Y:St} {a:Act} {w:World} {E:AV->List Blk->Prop}
theorem zgv:∀(l m:List AV),wk (l++m)=wk l++wk m
 | [],m=>rfl
 |a::l,m=>by simp[wk,zgv l m]
open Classical in
theorem Rel.call(h:Rel c Y a w)(o:Oper){n d:Nat}{I:List Nat}(hnd:I.Nodup)(hdis:∀i∈zp n d,i∉I)(hlt:∀i∈I,i<2000000)(hn9:n<=9)(hnear:n≠0->∀i∈I,i<=999999)(hd:d<=99999)(hfree:∀i∈zp n d,hget Y.hp i=.free)(hw:wr o.op=true)(A:List AV)(vs:List Value)
 (hA:∀M pt ow,zdj Y a w M pt ow->Rs ⟨zo w M,pt,ow⟩ A vs) (hAI:∀i∈wk A,i∈I) (bs' nbs:List Blk) (r:AV) (f:Nat->Nat) (hfI:∀i∈I,f i=i) (hfN:∀q,q<n->f (2000000+q)=d+100000*q)
 (hl1:zck I bs'=true) (hl2:zck (zce n 2000000) nbs=true) (hr1:∀i∈r.ids,i∈I++zce n 2000000) (hr2:∀i∈zc4 (zmh (wh I bs') (wh (zce n 2000000) nbs)),i∈I++zce n 2000000) (hnf1:yf bs'=true) (hnf2:yf nbs=true):
 ∃M pt ow S,Core M pt ow S (wh I (qj Y.hp I)) w/\zfa (wh I (qj Y.hp I)) w M pt ow pt ow/\Rs ⟨zo w M,pt,ow⟩ A vs/\
  ∀v w',Ans w M pt ow S r (zmh (wh I bs') (wh (zce n 2000000) nbs)) (.returned v) w'->Rel c (nxt o (zp n d++I) Y (r.mapI f) (nbs.map (Blk.mapI f)++bs'.map (Blk.mapI f))) (a.put o.dst v) w':=by
 obtain⟨M,pt,ow,S,hg,hs,hdf⟩:=h;obtain⟨hsl,hct⟩:=hs pt ow (Agr.refl _ _ _)
 let ptR:Nat->Option Nat:=fun i=>if i∈I then pt i else none
 let owR:Nat->Option Value:=fun i=>if i∈I then ow i else none
 let SR:Nat->Prop:=if qi∈I then S else fun _=>False
 have hSR:∀b,SR b->S b:=fun b hb=>by
  by_cases e:qi∈I
  .simpa only[SR,Z6 e]using hb
  .simp only[SR,Z7 e]at hb
 have hblR:∀i b,bl ptR owR i=some b->i∈I/\bl pt ow i=some b:=fun i b hb=>by
  by_cases hi:i∈I
  .exact⟨hi,by simpa only[bl,ptR,owR,hi,if_true]using hb⟩
  .simp only[bl,ptR,owR,hi,if_false]at hb;cases hb
 have hptR:∀i b,ptR i=some b->i∈I/\pt i=some b:=fun i b hb=>by
  by_cases hi:i∈I
  .exact⟨hi,by simpa only[ptR,hi,if_true]using hb⟩
  .simp only[ptR,hi,if_false]at hb;cases hb
 have howR:∀i b,owR i=some b->i∈I/\ow i=some b:=fun i b hb=>by
  by_cases hi:i∈I
  .exact⟨hi,by simpa only[owR,hi,if_true]using hb⟩
  .simp only[owR,hi,if_false]at hb;cases hb
 have hleR:∀is:List Nat,Env.le ⟨zo w M,pt,ow⟩ ⟨zo w M,ptR,owR⟩ is:=fun is=>⟨fun _ _ h=>h,fun i _=>⟨fun b hb=>(hptR i b hb).2,fun b hb=>(howR i b hb).2⟩⟩
 have hgetH:∀i,i∈I->hget (wh I (qj Y.hp I)) i=hget Y.hp i:=fun i hi=>wq Y.hp hi
 have hgetHn:∀i,i∉I->hget (wh I (qj Y.hp I)) i=.dead :=fun i hi=>jy hi
 have hcore:Core M ptR owR SR (wh I (qj Y.hp I)) w:= {
  fresh:=hg.fresh
  mt:=fun i b hb=>hg.mt i b (hblR i b hb).2
  inj:=fun i j b hi hj=>hg.inj i j b (hblR i b hi).2 (hblR j b hj).2
  gm:=fun b hb=>hg.gm b (hSR b hb)
  gd:=fun i b hb hS=>hg.gd i b (hblR i b hb).2 (hSR b hS)
  dpt:=fun i b hb=>by rw[hgetH i (hptR i b hb).1];exact hg.dpt i b (hptR i b hb).2
  dow:=fun i b hb=>by rw[hgetH i (howR i b hb).1];exact hg.dow i b (howR i b hb).2
  blk:=fun i=>by
   by_cases hi:i∈I
   .rw[hgetH i hi];have:=(hg.blk i).ren (pt':=ptR) (ow':=owR) (S':=SR) (i:=i) id (by simp only[ptR,Z6 hi]) (by simp only[owR,Z6 hi]) (fun e=>⟨e,by simp only[SR,Z6 (e▸hi)]⟩);have e:(hget Y.hp i).mapI id=hget Y.hp i:=by
     cases hget Y.hp i<;>simp only[Blk.mapI]
     rw[zci id _ fun _ _=>rfl]
    rwa [e]at this
   .rw[hgetHn i hi];trivial}
 refine⟨M,ptR,owR,SR,hcore,fun i l b cs Ty hl hb hcs=>?_,(hA M pt ow hs).imp _ _ (hleR _),?_⟩
 .obtain⟨hi,hb⟩:=hptR i b hb;rw[hgetH i hi]at hl;exact(hct i l b cs Ty hl hb hcs).imp _ _ (hleR _)
 rintro v w' ⟨v',M',pt',ow',S',hve,hcore',hconts',hr,hleft⟩;cases hve
 let H':=zmh (wh I bs') (wh (zce n 2000000) nbs)
 have hH1:∀i,i∈I->hget H' i=hget (wh I bs') i:=fun i hi=>by show hget (zmh _ _) i=_;rw[zee hl1,Z6 hi]
 have hH2:∀q,hget H' (2000000+q)=hget (wh (zce n 2000000) nbs) (2000000+q):=fun q=>by
  show hget (zmh _ _) _=_;rw[zee hl1,Z7 fun h=>by have:=hlt _ h;omega]
 have hH3:∀i,i∉I->i∉zce n 2000000->hget H' i=.dead :=fun i h1 h2=>by show hget (zmh _ _) _=_;rw[zee hl1,Z7 h1];exact jy h2
 have hLlo:∀i,i∈zp n d->i<=999999:=fun i hi=>by obtain⟨q,h1,h2⟩:=(jl _ _ _).1 hi;omega
 let u:Nat->Nat:=fun i=>2000000+(i-d)/100000
 have hu:∀q,q<n->u (d+100000*q)=2000000+q:=fun q _=>by show 2000000+(d+100000*q-d)/100000=_;omega
 let ptN:Nat->Option Nat:=fun i=>if i∈zp n d then pt' (u i)else if i∈I then pt' i else pt i
 let owN:Nat->Option Value:=fun i=>if i∈zp n d then ow' (u i)else if i∈I then ow' i else ow i
 let SN:Nat->Prop:=if qi∈I then S' else S
 have hcL:qi∉zp n d:=fun h=>by have:=hLlo _ h;simp only[qi]at this;omega
 have hNL:∀q,q<n->ptN (d+100000*q)=pt' (2000000+q)/\owN (d+100000*q)=ow' (2000000+q):=fun q hq=>by
  have:d+100000*q∈zp n d:=(jl _ _ _).2 ⟨q,hq,rfl⟩;simp only[ptN,owN,Z6 this,hu q hq];exact⟨trivial,trivial⟩
 have hNI:∀i,i∈I->ptN i=pt' i/\owN i=ow' i:=fun i hi=>by
  have:i∉zp n d:=fun h=>hdis i h hi
  simp only[ptN,owN,Z7 this,Z6 hi];exact⟨trivial,trivial⟩
 have hNo:∀i,i∉zp n d->i∉I->ptN i=pt i/\owN i=ow i:=fun i h1 h2=>by
  simp only[ptN,owN,Z7 h1,Z7 h2];exact⟨trivial,trivial⟩
 have hptI:∀i b,i∈I->pt' i=some b->pt i=some b:=fun i b hi hb=>by
  rcases hleft.lept i b hb with h1|⟨_,h1⟩
  .exact(hptR i b h1).2
  .have:=hlt i hi;omega
 have howI:∀i b,i∈I->ow' i=some b->ow i=some b:=fun i b hi hb=>by
  rcases hleft.leow i b hb with h1|⟨_,h1⟩
  .exact(howR i b h1).2
  .have:=hlt i hi;omega
 have hptR0:∀q,ptR (2000000+q)=none:=fun q=>by
  simp only[ptR];rw[Z7 fun h=>by have:=hlt _ h;omega]
 have howR0:∀q,owR (2000000+q)=none:=fun q=>by
  simp only[owR];rw[Z7 fun h=>by have:=hlt _ h;omega]
 have hptK:∀q b,pt' (2000000+q)=some b->w.heap.size<=b:=fun q b hb=>by
  rcases hleft.lept _ b hb with h1|⟨h1,_⟩
  .rw[hptR0]at h1;cases h1
  .exact h1
 have howK:∀q x,ow' (2000000+q)=some x->∀b,vbl x=some b->w.heap.size<=b\/∃j,bl ptR owR j=some b:=fun q x hx=>by
  rcases hleft.leow _ x hx with h1|⟨h1,_⟩
  .rw[howR0]at h1;cases h1
  .exact h1
 have hblI:∀i b,i∈I->bl ptN owN i=some b->bl pt' ow' i=some b/\bl pt ow i=some b:=fun i b hi hb=>by
  have hb':bl pt' ow' i=some b:=by simpa only[bl,(hNI i hi).1,(hNI i hi).2]using hb
  refine⟨hb',?_⟩;unfold bl at hb'⊢
  cases hq:pt' i with
  |some z=>rw[hq]at hb';rw[hptI i z hi hq];exact hb'
  |none=>
   rw[hq]at hb'
   cases hq2:ow' i with
   |none=>rw[hq2]at hb';cases hb'
   |some z=>
    rw[hq2]at hb';rw[hg.ptow (howI i z hi hq2),howI i z hi hq2];exact hb'
 have hblK:∀q b,q<n->bl ptN owN (d+100000*q)=some b->bl pt' ow' (2000000+q)=some b/\(w.heap.size<=b\/∃j,j∈I/\bl pt ow j=some b):=fun q b hq hb=>by
  have hb':bl pt' ow' (2000000+q)=some b:=by simpa only[bl,(hNL q hq).1,(hNL q hq).2]using hb
  refine⟨hb',?_⟩;unfold bl at hb';cases hq1:pt' (2000000+q)with
  |some z=>rw[hq1]at hb';cases hb';exact .inl (hptK q b hq1)
  |none=>
   rw[hq1]at hb';cases hq2:ow' (2000000+q)with
   |none=>rw[hq2]at hb';cases hb'
   |some z=>
    rw[hq2]at hb';refine(howK q z hq2 b ?_).imp id fun⟨j,hj⟩=>⟨j,hblR j b hj⟩
    cases z<;>first|exact hb'|(simp at hb';done)|(rename_i ao _ _;cases ao<;>first|exact hb'|(simp at hb';done))
 have hblo:∀i b,i∉zp n d->i∉I->bl ptN owN i=some b->bl pt ow i=some b:=fun i b h1 h2 hb=>by
  simpa only[bl,(hNo i h1 h2).1,(hNo i h1 h2).2]using hb
 have hblc:∀i b,bl ptN owN i=some b->(∃q,q<n/\i=d+100000*q/\bl pt' ow' (2000000+q)=some b/\(w.heap.size<=b\/∃j,j∈I/\bl pt ow j=some b))\/(i∈I/\bl pt' ow' i=some b/\bl pt ow i=some b)\/(i∉zp n d/\i∉I/\bl pt ow i=some b):=fun i b hb=>by
  by_cases h1:i∈zp n d
  .obtain⟨q,hq,rfl⟩:=(jl _ _ _).1 h1;exact .inl ⟨q,hq,rfl,hblK q b hq hb⟩
  .by_cases h2:i∈I
   .exact .inr (.inl ⟨h2,hblI i b h2 hb⟩)
   .exact .inr (.inr ⟨h1,h2,hblo i b h1 h2 hb⟩)
 have hltb:∀i b,bl pt ow i=some b->b<w.heap.size:=fun i b hb=>hg.fresh b (hg.mt i b hb)
 have hnotI:∀i b,i∉I->bl pt ow i=some b->∀j,bl ptR owR j≠some b:=fun i b hi hb j hj=>by
  obtain⟨h1,h2⟩:=hblR j b hj;exact hi (hg.inj i j b hb h2▸h1)
 have hV:∀b ob,zo w M b ob->zo w' M' b ob:=zy fun b ob hm hb=>by
  have hlt':=zj hb;refine⟨fun h'=>(hleft.mn b h').elim hm fun h=>O,?_⟩;rw[hleft.same b hlt' (fun j hj=>hm (hg.mt j b (hblR j b hj).2)) fun hS=>hm (hg.gm b (hSR b hS))];exact hb
 have hsame:∀i b ob,i∉I->bl pt ow i=some b->w.heap[b]? =some ob->w'.heap[b]? =some ob:=fun i b ob hi hb hh=>by
  rw[hleft.same b (zj hh) (hnotI i b hi hb) fun hS=>hg.gd i b hb (hSR b hS)];exact hh
 have hnx:(nxt o (zp n d++I) Y (r.mapI f) (nbs.map (Blk.mapI f)++bs'.map (Blk.mapI f))).hp =qq Y.hp (zp n d++I) (nbs.map (Blk.mapI f)++bs'.map (Blk.mapI f)):=by simp[nxt,hw]
 have hnodup:(zp n d++I).Nodup :=List.nodup_append.2 ⟨zfh _ _,hnd,fun i h1 j h2 e=>hdis i h1 (e▸h2)⟩;have hl2':zck (zp n d) (nbs.map (Blk.mapI f))=true:=zna (by rw[zil,qD,<-zfy hl2,zov]);have hlenE:zck (zp n d++I) (nbs.map (Blk.mapI f)++bs'.map (Blk.mapI f))=true:=zna (by rw[qB,qB,zfy hl2',qD (as:=bs'),zfy hl1]);have hgetK:∀i,uh Y.hp i->hget (qq Y.hp (zp n d++I) (nbs.map (Blk.mapI f)++bs'.map (Blk.mapI f))) i=if i∈zp n d++I then hget (wh (zp n d++I) (nbs.map (Blk.mapI f)++bs'.map (Blk.mapI f))) i else hget Y.hp i:=
  fun i hk=>uy hnodup hlenE hk
 have hgetL:∀q,q<n->hget (qq Y.hp (zp n d++I) (nbs.map (Blk.mapI f)++bs'.map (Blk.mapI f))) (d+100000*q)=(hget H' (2000000+q)).mapI f:=fun q hq=>by
  have hm:d+100000*q∈zp n d:=(jl _ _ _).2 ⟨q,hq,rfl⟩;rw[hgetK _ (zr (by rw[hfree _ hm];simp)),Z6 (by simp[hm]),zbt hl2',Z6 hm,zbs,zlv n d 2000000 nbs q hq,hH2]
 have hgetI:∀i,i∈I->uh Y.hp i->hget (qq Y.hp (zp n d++I) (nbs.map (Blk.mapI f)++bs'.map (Blk.mapI f))) i=(hget H' i).mapI f:=fun i hi hk=>by
  rw[hgetK i hk,Z6 (by simp[hi]),zbt hl2',Z7 fun h=>hdis i h hi,zbs,hH1 i hi]
 have hgetn:∀i,¬uh Y.hp i->hget (qq Y.hp (zp n d++I) (nbs.map (Blk.mapI f)++bs'.map (Blk.mapI f))) i=.dead :=fun i hk=>yo hk
 have hgeto:∀i,i∉zp n d->i∉I->hget (qq Y.hp (zp n d++I) (nbs.map (Blk.mapI f)++bs'.map (Blk.mapI f))) i=hget Y.hp i:=fun i h1 h2=>by
  by_cases hk:uh Y.hp i
  .rw[hgetK i hk,Z7 (by simp[h1,h2])]
  .rw[hgetn i hk];cases h:hget Y.hp i<;>first|rfl|exact absurd (zr (by rw[h];simp)) hk
 have hkeyI:∀i b,bl pt ow i=some b->uh Y.hp i:=fun i b hb=>by
  refine zr fun e=>?_
  unfold bl at hb;rw[hg.ptn (i:=i) (by rw[e];rfl),hg.own (i:=i) (by rw[e];rfl)]at hb;cases hb
 have hfmap:∀i,i∈I++zce n 2000000->ptN (f i)=pt' i/\owN (f i)=ow' i:=fun i hi=>by
  rcases q2.1 hi with hi|hi
  .rw[hfI i hi];exact hNI i hi
  .obtain⟨q,hq,rfl⟩:=(zd0 _ _ _).1 hi;rw[hfN q hq];exact hNL q hq
 have hmapL:∀(V:kf)(l:List AV)(us:List Value),(∀i∈wk l,i∈I++zce n 2000000)->Rs ⟨V,pt',ow'⟩ l us->Rs ⟨V,ptN,owN⟩ (xw f l) us:=fun V l us hl hr=>(Rs.mapI l us fun i hi=>hfmap i (hl i hi)).2 hr
 refine⟨M',ptN,owN,SN,?_,?_,by rw[uf];exact hdf.mono hV⟩
 .rw[hnx];exact {
   os:=hleft.os.trans hg.os,tape:=hleft.tape.trans hg.tape,output:=hleft.output.trans hg.output
   size:=qC hg.size hleft.size
   keep:=fun b hb hm=>by
    rw[hleft.same b (Nat.lt_of_lt_of_le hb hg.size) (fun i hi=>by
     rcases hg.loc i b (hblR i b hi).2 with h1|h1
     .omega
     .exact hm h1.1) fun hS=>by
     rcases hg.gl b (hSR b hS)with h1|h1
     .omega
     .exact hm h1.1]
    exact hg.keep b hb hm
   fresh:=hcore'.fresh
   m0:=fun b hb=>hleft.mm b (hg.m0 b hb)
   m1:=hg.m1
   mt:=fun i b hb=>by
    rcases hblc i b hb with ⟨q,_,_,h1,_⟩|⟨_,h1,_⟩|⟨_,_,h1⟩
    .exact hcore'.mt _ b h1
    .exact hcore'.mt _ b h1
    .exact hleft.mm b (hg.mt i b h1)
   loc:=fun i b hb=>by
    rcases hblc i b hb with ⟨q,hq,_,_,h1|⟨j,hj,h1⟩⟩|⟨_,_,h1⟩|⟨_,_,h1⟩
    .exact .inl (qC hg.size h1)
    .rcases hg.loc j b h1 with h2|h2
     .exact .inl h2
     .have:=hnear O j hj;omega
    .exact hg.loc i b h1
    .exact hg.loc i b h1
   gm:=fun b hb=>by
    by_cases e:qi∈I
    .simp only[SN,Z6 e]at hb;exact hcore'.gm b hb
    .simp only[SN,Z7 e]at hb;exact hleft.mm b (hg.gm b hb)
   gl:=fun b hb=>by
    by_cases e:qi∈I
    .simp only[SN,Z6 e]at hb;rcases hleft.sn b hb with h1|h1
     .exact hg.gl b (hSR b h1)
     .exact .inl (qC hg.size h1)
    .simp only[SN,Z7 e]at hb;exact hg.gl b hb
   gd:=fun i b hb hS=>by
    by_cases e:qi∈I
    .simp only[SN,Z6 e]at hS;rcases hblc i b hb with ⟨q,_,_,h1,_⟩|⟨_,h1,_⟩|⟨_,_,h1⟩
     .exact hcore'.gd _ b h1 hS
     .exact hcore'.gd _ b h1 hS
     .rcases hleft.sn b hS with h2|h2
      .exact hg.gd i b h1 (hSR b h2)
      .have:=hltb i b h1;omega
    .simp only[SN,Z7 e]at hS;rcases hblc i b hb with ⟨q,_,_,_,h1|⟨j,_,h1⟩⟩|⟨_,_,h1⟩|⟨_,_,h1⟩
     .have:=hg.fresh b (hg.gm b hS);omega
     .exact hg.gd j b h1 hS
     .exact hg.gd i b h1 hS
     .exact hg.gd i b h1 hS
   farp:=fun i b hi hb=>by
    by_cases h1:i∈zp n d
    .have:=hLlo i h1;omega
    .by_cases h2:i∈I
     .rw[(hNI i h2).1]at hb;exact hg.farp i b hi (hptI i b h2 hb)
     .rw[(hNo i h1 h2).1]at hb;exact hg.farp i b hi hb
   farw:=fun i b hi hb=>by
    by_cases h1:i∈zp n d
    .have:=hLlo i h1;omega
    .by_cases h2:i∈I
     .rw[(hNI i h2).2]at hb;exact hg.farw i b hi (howI i b h2 hb)
     .rw[(hNo i h1 h2).2]at hb;exact hg.farw i b hi hb
   inj:=fun i j b hi hj=>by
    rcases hblc i b hi with ⟨q,h1,h2,h3,h4⟩|⟨h1,h2,h3⟩|⟨h1,h2,h3⟩<;>rcases hblc j b hj with ⟨q',h1',h2',h3',h4'⟩|⟨h1',h2',h3'⟩|⟨h1',h2',h3'⟩
    .have:=hcore'.inj _ _ b h3 h3';omega
    .have:=hcore'.inj _ _ b h3 h2';have:=hlt _ h1';omega
    .rcases h4 with h4|⟨k,hk,h4⟩
     .have:=hltb _ _ h3';omega
     .exact absurd (hg.inj _ _ b h4 h3'▸hk) h2'
    .have:=hcore'.inj _ _ b h3' h2;have:=hlt _ h1;omega
    .exact hg.inj i j b h3 h3'
    .exact hg.inj i j b h3 h3'
    .rcases h4' with h4|⟨k,hk,h4⟩
     .have:=hltb _ _ h3;omega
     .exact absurd (hg.inj _ _ b h4 h3▸hk) h2
    .exact hg.inj i j b h3 h3'
    .exact hg.inj i j b h3 h3'
   dpt:=fun i b hb=>by
    by_cases h1:i∈zp n d
    .obtain⟨q,hq,rfl⟩:=(jl _ _ _).1 h1;rw[hgetL q hq,zap];rw[(hNL q hq).1]at hb;exact hcore'.dpt _ b hb
    .by_cases h2:i∈I
     .rw[(hNI i h2).1]at hb;rw[hgetI i h2 (hkeyI i b (by simp[bl,hptI i b h2 hb])),zap];exact hcore'.dpt i b hb
     .rw[(hNo i h1 h2).1]at hb;rw[hgeto i h1 h2];exact hg.dpt i b hb
   dow:=fun i b hb=>by
    by_cases h1:i∈zp n d
    .obtain⟨q,hq,rfl⟩:=(jl _ _ _).1 h1;rw[hgetL q hq,xe];rw[(hNL q hq).2]at hb;exact hcore'.dow _ b hb
    .by_cases h2:i∈I
     .rw[(hNI i h2).2]at hb;have hold:=howI i b h2 hb;have hk:uh Y.hp i:=zr fun e=>by have:=hg.dow i b hold;rw[e]at this;cases this
      rw[hgetI i h2 hk,xe];exact hcore'.dow i b hb
     .rw[(hNo i h1 h2).2]at hb;rw[hgeto i h1 h2];exact hg.dow i b hb
   blk:=fun i=>by
    by_cases h1:i∈zp n d
    .obtain⟨q,hq,rfl⟩:=(jl _ _ _).1 h1;rw[hgetL q hq];exact(hcore'.blk (2000000+q)).ren f (hNL q hq).1 (hNL q hq).2 fun e=>by simp only[qi]at e;omega
    .by_cases h2:i∈I
     .by_cases hk:uh Y.hp i
      .rw[hgetI i h2 hk];exact(hcore'.blk i).ren f (hNI i h2).1 (hNI i h2).2 fun e=>⟨e,by simp only[SN,Z6 (e▸h2)]⟩
      .rw[hgetn i hk];trivial
     .rw[hgeto i h1 h2];by_cases e:qi∈I
      .have hne:i≠qi:=fun h=>h2 (h▸e)
       have:=(hg.blk i).mono (w':=w') (V':=zo w' M') (pt':=ptN) (ow':=owN) (S:=S) (hNo i h1 h2).1 (hNo i h1 h2).2 hV (fun _=>hg.ptow) (fun b ob hb hh=>hsame i b ob h2 hb hh)
       cases e2:hget Y.hp i with
       |gst J=>have h3:=hg.blk i;rw[e2]at h3;exact absurd h3.1 hne
       |free=>trivial
       |dead=>trivial
       |cells l=>
        obtain⟨b,cs,Ty,h3,h4⟩:=hg.cel i l e2;exact⟨b,cs,Ty,by rw[(hNo i h1 h2).1];exact h3,hsame i b _ h2 (by simp[bl,h3]) h4⟩
       |buf et k xs=>
        obtain⟨hd',h3,h4⟩:=hg.buf i et k xs e2;exact⟨hd',by rw[(hNo i h1 h2).2];exact h3,h4.mono hV fun b cap cs hh hcs=>hsame i b _ h2 (by simp[bl,hg.ptow h3,h3,hh]) hcs⟩
       |map kk vk m=>
        obtain⟨b,es,clk,h3,h4,h5⟩:=hg.mpo i kk vk m e2;exact⟨b,es,clk,by rw[(hNo i h1 h2).1];exact h3,hsame i b _ h2 (by simp[bl,h3]) h4,h5.mono hV⟩
      .simp only[SN,Z7 e];refine(hg.blk i).mono (hNo i h1 h2).1 (hNo i h1 h2).2 hV (fun _=>hg.ptow) (fun b ob hb hh=>hsame i b ob h2 hb hh) fun b ob hS hh=>?_
       rw[hleft.same b (zj hh) (fun j hj=>hg.gd j b (hblR j b hj).2 hS) fun hS'=>by simp only[SR,Z7 e]at hS'];exact hh}
 .intro pt3 ow3 hag;rw[hnx]at hag;have hnfH:∀i,i∈I++zce n 2000000->(hget H' i).isFree =false:=fun i hi=>by
   rcases q2.1 hi with hi|hi
   .rw[hH1 i hi];exact zao hnf1
   .obtain⟨q,hq,rfl⟩:=(zd0 _ _ _).1 hi;rw[hH2];exact zao hnf2
  have hnfreeI:∀i,i∈I->(hget (qq Y.hp (zp n d++I) (nbs.map (Blk.mapI f)++bs'.map (Blk.mapI f))) i).isFree =false:=fun i hi=>by
   by_cases hk:uh Y.hp i
   .rw[hgetI i hi hk,zda];exact hnfH i (by simp[hi])
   .rw[hgetn i hk];rfl
  have hnfreeL:∀q,q<n->(hget (qq Y.hp (zp n d++I) (nbs.map (Blk.mapI f)++bs'.map (Blk.mapI f))) (d+100000*q)).isFree =false:=fun q hq=>by
   rw[hgetL q hq,zda];exact hnfH _ (by simp[(zd0 n 2000000 (2000000+q)).2 ⟨q,hq,rfl⟩])
  let pt4:Nat->Option Nat:=fun i=>if(hget Y.hp i).isFree =true then pt3 i else pt i
  let ow4:Nat->Option Value:=fun i=>if(hget Y.hp i).isFree =true then ow3 i else ow i
  have hag4:Agr Y.hp pt pt4 ow ow4:=fun i hi=>by simp[pt4,ow4,hi]
  have hp4:∀i b,pt3 i=some b->pt4 i=some b:=fun i b hb=>by
   by_cases hfr:(hget Y.hp i).isFree =true
   .simpa[pt4,hfr]using hb
   .have hfr':(hget Y.hp i).isFree =false:=by simpa using hfr
    have h1:i∉zp n d:=fun h=>by rw[hfree i h]at hfr';cases hfr'
    simp only[pt4,hfr',q4,if_false];by_cases h2:i∈I
    .have:=(hag i (hnfreeI i h2)).1;rw[this,(hNI i h2).1]at hb;exact hptI i b h2 hb
    .have:=(hag i (by rw[hgeto i h1 h2];exact hfr')).1;rw[this,(hNo i h1 h2).1]at hb;exact hb
  have ho4:∀i b,ow3 i=some b->ow4 i=some b:=fun i b hb=>by
   by_cases hfr:(hget Y.hp i).isFree =true
   .simpa[ow4,hfr]using hb
   .have hfr':(hget Y.hp i).isFree =false:=by simpa using hfr
    have h1:i∉zp n d:=fun h=>by rw[hfree i h]at hfr';cases hfr'
    simp only[ow4,hfr',q4,if_false];by_cases h2:i∈I
    .have:=(hag i (hnfreeI i h2)).2;rw[this,(hNI i h2).2]at hb;exact howI i b h2 hb
    .have:=(hag i (by rw[hgeto i h1 h2];exact hfr')).2;rw[this,(hNo i h1 h2).2]at hb;exact hb
  have hle4:∀is:List Nat,Env.le ⟨zo w M,pt4,ow4⟩ ⟨zo w' M',pt3,ow3⟩ is:=fun is=>⟨hV,fun i _=>⟨hp4 i,ho4 i⟩⟩
  have h3N:∀i,i∈I++zce n 2000000->pt3 (f i)=ptN (f i)/\ow3 (f i)=owN (f i):=fun i hi=>by
   rcases q2.1 hi with hi|hi
   .rw[hfI i hi];exact hag i (hnfreeI i hi)
   .obtain⟨q,hq,rfl⟩:=(zd0 _ _ _).1 hi;rw[hfN q hq];exact hag _ (hnfreeL q hq)
  have hres:∀(x:AV)(y:Value),(∀i∈x.ids,i∈I++zce n 2000000)->R ⟨zo w' M',pt',ow'⟩ x y->R ⟨zo w' M',pt3,ow3⟩ (x.mapI f) y:=fun x y hx hr=>
   (R.mapI x y fun i hi=>⟨(h3N i (hx i hi)).1.trans (hfmap i (hx i hi)).1,(h3N i (hx i hi)).2.trans (hfmap i (hx i hi)).2⟩).2 hr
  have hresL:∀(l:List AV)(us:List Value),(∀i∈wk l,i∈I++zce n 2000000)->Rs ⟨zo w' M',pt',ow'⟩ l us->Rs ⟨zo w' M',pt3,ow3⟩ (xw f l) us:=fun l us hl hr=>
   (Rs.mapI l us fun i hi=>⟨(h3N i (hl i hi)).1.trans (hfmap i (hl i hi)).1,(h3N i (hl i hi)).2.trans (hfmap i (hl i hi)).2⟩).2 hr
  obtain⟨h1,h2⟩:=hs pt4 ow4 hag4;refine⟨?_,fun i l b cs Ty hl hb hcs=>?_⟩
  .simp only[nxt];have h1':=h1.imp _ _ (hle4 _)
   cases o.dst with
   |none=>simpa[Act.put]using h1'
   |some e=>
    rw[ue];exact h1'.set (hres r v hr1 hr) e
  .rw[hnx]at hl;by_cases hL:i∈zp n d
   .obtain⟨q,hq,rfl⟩:=(jl _ _ _).1 hL;rw[hgetL q hq]at hl;obtain⟨m,hm,rfl⟩:=zch hl;rw[(hNL q hq).1]at hb;exact hresL m _ (fun j hj=>hr2 j (jv hm j hj)) (hconts' _ m b cs Ty hm hb hcs)
   .by_cases hi:i∈I
    .rw[(hNI i hi).1]at hb;rw[hgetI i hi (hkeyI i b (by simp[bl,hptI i b hi hb]))]at hl;obtain⟨m,hm,rfl⟩:=zch hl;exact hresL m _ (fun j hj=>hr2 j (jv hm j hj)) (hconts' _ m b cs Ty hm hb hcs)
    .rw[hgeto i hL hi]at hl;rw[(hNo i hL hi).1]at hb;have hcs':w.heap[b]? =some (.cells cs Ty (0,0)):=by
      obtain⟨b',cs',Ty',h3,h4⟩:=hg.cel i l hl;rw[hb]at h3;cases h3
      have:=hsame i b _ hi (by simp[bl,hb]) h4;rw[hcs]at this;cases this;exact h4
     exact(h2 i l b cs Ty hl hb hcs').imp _ _ (hle4 _)
theorem Blk.mapI_id'(b:Blk):b.mapI id=b:=by
 cases b<;>simp only[Blk.mapI]
 rw[zci id _ fun _ _=>rfl]
theorem zys{P:Program}{F:Wf}{f:Nat}{args:Array Value}{w:World}{K:Act->World->Prop}{Q:Exit->Act->World->Prop}{o:Oper}{a:Act}{R:Ending->World->Prop}(h:Calls P f args w R)
 (hr:∀e w',R e w'->∃v,e=.returned v/\K (a.put o.dst v) w'):o.uponIn F.F 0 P a K Q (.ok (.enter f args) w):=by
 refine⟨F.ok.depth,F.ok.calls ((callsIn_wide.2 h).mono fun e w' he=>?_)⟩;obtain⟨v,rfl,hk⟩:=hr e w' he;exact hk
theorem zix{P:Program}{F:Wf}{l f:Nat}{tmps:Array Value}{x y:Code}{w:World}{K:Act->World->Prop}{Q:Exit->Act->World->Prop}{o:Oper}{a:Act}{R:Ending->World->Prop}(h:RoundIn Fence.wide 0 P l f tmps x y w R)
 (hr:∀e w',R e w'->∃v,e=.returned v/\K (a.put o.dst v) w'):o.uponIn F.F 0 P a K Q (.ok (.round l f tmps x y) w):=by
 refine⟨F.ok.depth,?_⟩;have h':RoundIn F.F (0-1) P l f tmps x y w R:=by
  rcases F.ok with e|⟨l',e⟩<;>(rw[e];exact h)
 refine h'.mono fun e w' he=>?_
 obtain⟨v,rfl,hk⟩:=hr e w' he;exact hk
theorem zvw{T:Tab}(hlo:qE (ve o) 99999=true)(h:Rel c Y a w){cl:Call}{f:Operand}(ho:o.op=.call cl)(hcl:cl.callee=.value f)(he:qo T (CN P) (.call cl) (ve o) (zm Y.sl) (nd T o Y) (qj Y.hp (nd T o Y)) E):Snd P F T c o Y a w E:=by
 have hw:wr o.op=true:=by simp[wr,ho,hcl]
 have hlo':=q1 hlo;simp only[qo,hcl]at he;split at he
 .rename_i g caps hf;obtain⟨M0,pt0,ow0,S0,_,_,hr0⟩:=h.own;have hfv0:=zc hr0 f;rw[hf]at hfv0;simp only[R]at hfv0;obtain⟨vcaps,hfv,_⟩:=hfv0;have hA:∀M pt ow,zdj Y a w M pt ow->Rs ⟨zo w M,pt,ow⟩ (xf (zm Y.sl) cl.args.toList++caps) (cl.args.toList.map a.eval++vcaps.toList):=fun M pt ow hs=>by
   have hr:=(hs pt ow (Agr.refl _ _ _)).1;have hfv1:=zc hr f;rw[hf]at hfv1;simp only[R]at hfv1;obtain⟨vc,hfv1,hcaps⟩:=hfv1;rw[hfv]at hfv1;simp at hfv1;subst hfv1;exact(zj4 hr _).append hcaps
  have hrun:∀fn,P.funcs[g]? =some fn->fn.body.isNone=false->(fn.name== "runtime.NumGoroutine")=false->(execOp a.eval o).run P w=.ok (.enter g (cl.args.toList.map a.eval++vcaps.toList).toArray) w:=fun fn hfn hbody hname=>by
   have hprog:(program).run P w=.ok P w:=rfl;have e1:(cl.args.map a.eval++vcaps)=(cl.args.toList.map a.eval++vcaps.toList).toArray :=by
    apply Array.ext';simp
   simp only[execOp,ho,resolve,hcl,hfv,Deferred.ofValue,Sem.run_bind,Sem.run_pure,Result.andThen_ok,invoke,callFunc,hprog,hfn,hname,hbody,q4,if_false,Array.empty_append];rw[e1]
  have hsub:∀i∈wk (xf (zm Y.sl) cl.args.toList++caps),i∈zbf Y.hp (zbf Y.hp (nub (glL T g (kw (xf (zm Y.sl) cl.args.toList)++kw caps)))):=fun i hi=>by
   rw[zgv,q2]at hi;exact zd1 (zd1 ((zbo _ _).2 (qau (q2.2 (hi.imp (zas _ _) (zas _ _))))))
  split at he
  .rename_i hn;rw[vf]at he;obtain⟨bs',r,⟨⟨fn,hfn,hbody,hname⟩,hok⟩,he⟩:=he;have zc4:nd T o Y=zbf Y.hp (zbf Y.hp (nub (glL T g (kw (xf (zm Y.sl) cl.args.toList)++kw caps)))):=by
    simp only[nd,ho,xt,hcl,hf,hn]
   rw[zc4]at he hok;split at he
   .rename_i hlen hrids hhids hnf hlt;refine⟨r,bs',he,fun Q=>⟨fun f _=>F.ok.fn f,?_⟩⟩;rw[zhe (hrun fn hfn hbody hname) OC];obtain⟨M,pt,ow,S,hcore,hconts,hrs,hback⟩:=h.call o (n:=0) (d:=0) (I:=zbf Y.hp (zbf Y.hp (nub (glL T g (kw (xf (zm Y.sl) cl.args.toList)++kw caps))))) (zam _) (by simp[zp]) (zex hlt) O (fun h=>absurd rfl h) O (by simp[zp]) hw _ _ hA hsub bs' [] r id (fun _ _=>rfl) (fun q hq=>O)
     hlen rfl (by simpa[zce]using xz _ _ hrids) (by
      have:zmh (wh (zbf Y.hp (zbf Y.hp (nub (glL T g (kw (xf (zm Y.sl) cl.args.toList)++kw caps))))) bs') (wh (zce 0 2000000) [])=wh (zbf Y.hp (zbf Y.hp (nub (glL T g (kw (xf (zm Y.sl) cl.args.toList)++kw caps))))) bs':=zf6 _;rw[this];simpa[zce]using xz _ _ hhids) hnf rfl
    refine zys (hok w M pt ow S _ hcore hconts hrs) fun e w' he=>?_
    have hx:=he;obtain⟨v,_,_,_,_,rfl,_⟩:=he;refine⟨v,rfl,?_⟩;have:=hback v w' (by
     have e2:zmh (wh (zbf Y.hp (zbf Y.hp (nub (glL T g (kw (xf (zm Y.sl) cl.args.toList)++kw caps))))) bs') (wh (zce 0 2000000) [])=wh (zbf Y.hp (zbf Y.hp (nub (glL T g (kw (xf (zm Y.sl) cl.args.toList)++kw caps))))) bs':=zf6 _;rw[e2];exact hx)
    rw[AV.mapI_id id r fun _ _=>rfl]at this;rw[zc4];have e3:bs'.map (Blk.mapI id)=bs':=by
     rw[show Blk.mapI id=id from funext Blk.mapI_id'];simp
    simpa[zp,e3]using this
   .exact he.elim
  .rename_i n hn;rw[vf]at he;have zc4:nd T o Y=zp (n+1) (ve o)++zbf Y.hp (zbf Y.hp (nub (glL T g (kw (xf (zm Y.sl) cl.args.toList)++kw caps)))):=by
    simp only[nd,ho,xt,hcl,hf,hn,zp,q3]
   unfold appN at he;rw[zc4]at he;obtain⟨hfree,he⟩:=zma _ _ _ _ _ he;rw[zl8]at he;obtain⟨bs',nbs,r,⟨⟨fn,hfn,hbody,hname⟩,hok⟩,he⟩:=he;split at he
   .rename_i hlen hlen2 hrids hhids hnf hnf2 hdis hlt hn9 hnr;refine⟨_,_,he,fun Q=>⟨fun f _=>F.ok.fn f,?_⟩⟩;rw[zhe (hrun fn hfn hbody hname) OC];rw[zul]at hrids hhids;obtain⟨M,pt,ow,S,hcore,hconts,hrs,hback⟩:=h.call o (n:=n+1) (d:=ve o) (I:=zbf Y.hp (zbf Y.hp (nub (glL T g (kw (xf (zm Y.sl) cl.args.toList)++kw caps))))) (zam _) ((jr _ _).1 hdis) (zex hlt) (q1 hn9) (fun _=>zlf hnr) hlo' hfree hw _ _ hA hsub bs' nbs r (mvI (ve o))
     (fun i hi=>by
       have:=zex hlt i hi;unfold mvI
       cases e:qE 2000000 i with
       |true=>have:=q1 e;omega
       |false=>rfl) (fun q hq=>by
       unfold mvI;have:qE 2000000 (2000000+q)=true:=Nat.ble_eq_true_of_le O;rw[this];simp only[];omega)
     hlen hlen2 (xz _ _ hrids) (xz _ _ hhids) hnf hnf2
    refine zys (hok w M pt ow S _ hcore hconts hrs) fun e w' he=>?_
    have hx:=he;obtain⟨v,_,_,_,_,rfl,_⟩:=he;refine⟨v,rfl,?_⟩;have:=hback v w' hx;rw[zc4,zum,zm5,zm5];exact this
   .exact he.elim
 .rename_i l hf;obtain⟨M0,pt0,ow0,S0,_,_,hr0⟩:=h.own;have hfv:=zc hr0 f;rw[hf]at hfv;simp only[R]at hfv;have hA:∀M pt ow,zdj Y a w M pt ow->Rs ⟨zo w M,pt,ow⟩ (xf (zm Y.sl) cl.args.toList) (cl.args.toList.map a.eval):=fun M pt ow hs=>zj4 (hs pt ow (Agr.refl _ _ _)).1 _
  rw[vf]at he;obtain⟨bs',r,hok,he⟩:=he;have zc4:nd T o Y=nub (qi::wk (xf (zm Y.sl) cl.args.toList)):=by
   simp only[nd,ho,xt,hcl,hf]
  rw[zc4]at he hok;split at he
  .rename_i hlen hrids hhids hnf hlt;have hsub:∀i∈wk (xf (zm Y.sl) cl.args.toList),i∈nub (qi::wk (xf (zm Y.sl) cl.args.toList)):=fun i hi=>(zbo _ _).2 (by simp[hi])
   refine⟨r,bs',he,fun Q=>⟨fun f _=>F.ok.fn f,?_⟩⟩;have e2:zmh (wh (nub (qi::wk (xf (zm Y.sl) cl.args.toList))) bs') (wh (zce 0 2000000) [])=wh (nub (qi::wk (xf (zm Y.sl) cl.args.toList))) bs':=zf6 _;obtain⟨M,pt,ow,S,hcore,hconts,hrs,hback⟩:=h.call o (n:=0) (d:=0) (I:=nub (qi::wk (xf (zm Y.sl) cl.args.toList))) (zam _) (by simp[zp]) (zex hlt) O (fun h=>absurd rfl h) O (by simp[zp]) hw _ _ hA hsub bs' [] r id (fun _ _=>rfl) (fun q hq=>O)
    hlen rfl (by simpa[zce]using xz _ _ hrids) (by rw[e2];simpa[zce]using xz _ _ hhids) hnf rfl
   obtain⟨fn,tmps,x,y,hy,hround'⟩:=hok w M pt ow S _ hcore hconts hrs;have hrun:(execOp a.eval o).run P w=.ok (.round l fn tmps x y) w:=by
    have e1:cl.args.map a.eval=(cl.args.toList.map a.eval).toArray :=by apply Array.ext';simp
    simp only[execOp,ho,resolve,hcl,hfv,Deferred.ofValue,Sem.run_bind,Sem.run_pure,Result.andThen_ok,invoke,Array.empty_append];rw[e1];exact hy
   rw[zhe hrun OC];refine zix hround' fun e w' he=>?_
   have hx:=he;obtain⟨v,_,_,_,_,rfl,_⟩:=he;refine⟨v,rfl,?_⟩;have:=hback v w' (by rw[e2];exact hx);rw[AV.mapI_id id r fun _ _=>rfl]at this;rw[zc4];have e3:bs'.map (Blk.mapI id)=bs':=by
    rw[show Blk.mapI id=id from funext Blk.mapI_id'];simp
   simpa[zp,e3]using this
  .exact he.elim
 .exact he.elim
theorem zl7{T:Tab}(hT:TabOK P T)(hlo:qE (ve o) 99999=true)(h:Rel c Y a w)(he:qo T (CN P) o.op (ve o) (zm Y.sl) (nd T o Y) (qj Y.hp (nd T o Y)) E):Snd P F T c o Y a w E:=by
 cases ho:o.op with
 |move x=>rw[ho]at he;exact zob h (.inl ho) he
 |assign x=>rw[ho]at he;exact zob h (.inr ho) he
 |pick x y z=>rw[ho]at he;exact zvu h ho he
 |alloc t=>rw[ho]at he;exact zr0 hT hlo h ho he
 |box t x=>rw[ho]at he;exact zz4 hlo h ho he
 |build t ps=>rw[ho]at he;exact zry hT h ho he
 |buildSlice t n ps=>
  rw[ho]at he
  cases n with
  |zero=>exact zrx hT hlo h ho he
  |succ n=>exact zhz hT h ho he
 |makeSlice t l c=>rw[ho]at he;exact zp9 hT hlo h ho he
 |load t x=>rw[ho]at he;exact zvv hT h ho he
 |store t x y=>rw[ho]at he;exact zrs hT h ho he
 |nilCheck x=>rw[ho]at he;exact zk0 h ho he
 |binOp b t x y ty=>rw[ho]at he;exact zrz hT h ho he
 |unOp u t x=>rw[ho]at he;exact qdt h ho he
 |convert s d x=>rw[ho]at he;exact zmw hT h ho he
 |makeFunc f x y=>rw[ho]at he;exact zk1 h ho he
 |fieldAddr t x f=>rw[ho]at he;exact zjk hT h ho he
 |field t x f=>rw[ho]at he;exact zrw hT h ho he
 |indexAddr t x i=>rw[ho]at he;exact zjj hT h ho he
 |index t x i=>rw[ho]at he;exact zrv hT h ho he
 |extract x n=>rw[ho]at he;exact zmv h ho he
 |call cl=>
  rw[ho]at he
  cases hc:cl.callee with
  |value f=>exact zvw hlo h ho hc he
  |builtin b=>
   cases b with
   |len=>exact zz3 hT h ho hc he fun x t ha ht hm hk=>zru hT h ho hc ha ht hm hk
   |append=>exact zqc hT hlo h ho hc he
   |max=>exact zz2 h ho hc he
   |min=>exact zz1 h ho hc he
   | _=>simp[qo,hc]at he
  |invoke r m=>simp[qo,hc]at he
 |makeMap t r=>rw[ho]at he;exact zmu hT hlo h ho he
 |lookup t x i ok=>rw[ho]at he;exact zqa hT h ho he
 |mapUpdate t m k v=>rw[ho]at he;exact zji hT h ho he
 |insert t m k v=>rw[ho]at he;exact zqb hT h ho he
 |slice t x lo hi mx=>rw[ho]at he;exact zrt hT h ho he
 | _=>rw[ho]at he;simp[qo]at he
end
