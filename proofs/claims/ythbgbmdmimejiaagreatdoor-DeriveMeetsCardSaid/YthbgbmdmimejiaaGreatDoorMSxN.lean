/- The contract of a function; calls; every operation. -/
import Derived.Test.YthbgbmdmimejiaaGreatDoorMSxU
set_option linter.all false
open Bool renaming false_eq_true->q6
open List renaming mem_cons->q2,mem_append->q4,cons_append->q5,nodup_cons->q7,length_append->q8,length_map->qd
open Nat renaming le_of_ble_eq_true->q3,le_trans->q9,ble->qn
namespace Go.Sx
open Go
def zgy(hp:Hp)(w:World)(M:Nat->Prop)(pt:Nat->Option Nat)(ow:Nat->Option Value)(pt':Nat->Option Nat)(ow':Nat->Option Value):Prop:=
 ∀i l b cs T,hget hp i=.cells l->pt i=some b->w.heap[b]? =some (.cells cs T (0,0))->Rs ⟨zu w M,pt',ow'⟩ l cs.toList
def Ent(P:Program)(f:Nat):Prop:=∃fn,P.funcs[f]? =some fn/\fn.body.isNone=false/\(fn.name== "runtime.NumGoroutine")=false
def vbl(h:Value):Option Nat:=match h with
 |.slice (some a) _ _=>some a.block
 | _=>none
structure Left(w w':World)(M M':Nat->Prop)(pt:Nat->Option Nat)(ow:Nat->Option Value)(S:Nat->Prop)(pt':Nat->Option Nat)(ow':Nat->Option Value)(S':Nat->Prop):Prop where
 os:w'.os=w.os
 tape:w'.tape=w.tape
 output:w'.output=w.output
 size:w.heap.size<=w'.heap.size
 same:∀b,b<w.heap.size->(∀i,bl pt ow i≠some b)->¬S b->w'.heap[b]? =w.heap[b]?
 mm:∀b,M b->M' b
 mn:∀b,M' b->M b\/w.heap.size<=b
 sn:∀b,S' b->S b\/w.heap.size<=b
 lept:∀i b,pt' i=some b->pt i=some b\/(w.heap.size<=b/\2000000<=i)
 leow:∀i h,ow' i=some h->ow i=some h\/((∀b,vbl h=some b->w.heap.size<=b\/∃j,bl pt ow j=some b)/\2000000<=i)
def Ans(w:World)(M:Nat->Prop)(pt:Nat->Option Nat)(ow:Nat->Option Value)(S:Nat->Prop)(r:AV)(H':Hp)(e:Ending)(w':World):Prop:=
 ∃v M' pt' ow' S',e=.returned v/\Core M' pt' ow' S' H' w'/\zgy H' w' M' pt' ow' pt' ow'/\R ⟨zu w' M',pt',ow'⟩ r v/\Left w w' M M' pt ow S pt' ow' S'
def zi3(P:Program)(f:Nat):CT:=fun H A r H'=>
 Ent P f/\∀(w:World)(M:Nat->Prop)(pt:Nat->Option Nat)(ow:Nat->Option Value)(S:Nat->Prop)(vs:List Value),Core M pt ow S H w->zgy H w M pt ow pt ow->Rs ⟨zu w M,pt,ow⟩ A vs->
  Calls P f vs.toArray w (Ans w M pt ow S r H')
def qmh(P:Program)(l:Nat):CT:=fun H A r H'=>
 ∀(w:World)(M:Nat->Prop)(pt:Nat->Option Nat)(ow:Nat->Option Value)(S:Nat->Prop)(vs:List Value),Core M pt ow S H w->zgy H w M pt ow pt ow->Rs ⟨zu w M,pt,ow⟩ A vs->
  YieldAt Fence.wide 0 P l vs.toArray w (Ans w M pt ow S r H')
def CN(P:Program):Con:=⟨zi3 P,qmh P⟩
theorem jw:∀(l:List Nat)(i:Nat),zgs i l=true<->i∈l
 | [],i=>by simp[zgs]
 |j::l,i=>by
  simp only[zgs];split
  .rename_i e;simp[(zb _ _).1 e]
  .rename_i e;rw[jw l i];have:=(zr _ _).1 e;simp[this]
theorem zco:∀(l:List Nat)(i:Nat),i∈nub l<->i∈l
 | [],i=>by simp[nub]
 |j::l,i=>by
  simp only[nub];split
  .rename_i e;rw[zco l i];have:=(jw l j).1 e;constructor
   .exact fun h=>by simp[h]
   .intro h;rcases q2.1 h with rfl|h
    .exact this
    .exact h
  .rw[q2,zco l i,q2]
theorem zbg:∀(l:List Nat),(nub l).Nodup
 | []=>by simp[nub]
 |j::l=>by
  simp only[nub];split
  .exact zbg l
  .rename_i e;rw[q7];refine⟨fun h=>?_,zbg l⟩;have:=(zco l j).1 h;rw[<-jw]at this;rw[this]at e;cases e
theorem zay:∀(l m:List Nat),zzh l m=true->∀i∈l,i∈m
 | [],_,_,i,hi=>by simp at hi
 |j::l,m,h,i,hi=>by
  simp only[zzh]at h;split at h
  .rename_i e;rcases q2.1 hi with rfl|hi
   .exact(jw _ _).1 e
   .exact zay l m h i hi
  .cases h
theorem ko:∀ {ids:List Nat}{bs:List Blk}{i:Nat},i∉ids->hget (ww ids bs) i=.dead
 | [],_,_,_=>rfl
 | _::_,[],_,_=>rfl
 |j::ids,b::bs,i,h=>by
  simp only[q2,not_or]at h;simp only[ww];rw[ze,Z5 (fun e=>h.1 e.symm),ko h.2]
theorem jd(hp:Hp):∀ {ids:List Nat}{i:Nat},i∈ids->hget (ww ids (qf hp ids)) i=hget hp i
 | [],_,h=>by simp at h
 |j::ids,i,h=>by
  simp only[qf,ww];rw[ze];by_cases e:j=i
  .rw[Z4 e,e]
  .rw[Z5 e];exact jd hp ((q2.1 h).resolve_left fun h=>e h.symm)
theorem yy:∀ {ids:List Nat}{bs:List Blk}{hp:Hp}{i:Nat},ids.Nodup->zde ids bs=true->yo hp i->hget (qq hp ids bs) i=if i∈ids then hget (ww ids bs) i else hget hp i
 | [],bs,hp,i,_,_,_=>by simp[qq]
 |j::ids,[],hp,i,_,h,_=>by simp[zde]at h
 |j::ids,b::bs,hp,i,hn,hl,hk=>by
  simp only[qq,zde]at hl⊢;rw[q7]at hn;rw[yy hn.2 hl (zg9.2 hk)];simp only[ww];rw[ze];by_cases e:j=i
  .subst e;rw[Z5 hn.1,Z4 OC,Z4 rfl];exact ua hk
  .rw[Z5 e];by_cases hi:i∈ids
   .rw[Z4 hi,Z4 (by simp[hi])]
   .rw[Z5 hi,Z5 (by simp[hi];exact fun h=>e h.symm)];exact kd fun h=>e h.symm
theorem xr:∀ {ids:List Nat}{bs:List Blk}{hp:Hp}{i:Nat},¬yo hp i->hget (qq hp ids bs) i=.dead
 | [],bs,hp,i,hk=>by
   simp only[qq];cases h:hget hp i<;>first|rfl|exact absurd (zt (by rw[h];simp)) hk
 |j::ids,[],hp,i,hk=>by
  simp only[qq];cases h:hget hp i<;>first|rfl|exact absurd (zt (by rw[h];simp)) hk
 |j::ids,b::bs,hp,i,hk=>by
  simp only[qq];exact xr fun h=>hk (zg9.1 h)
theorem uo:∀ {h:Hp}{i:Nat}{l:List AV},hget h i=.cells l->∀j∈jc l,j∈zfg h
 | [],i,l,h,_,_=>by simp[hget]at h
 |(a,b)::r,i,l,h,j,hj=>by
  rw[ze]at h;simp only[zfg];split at h
  .subst h;simp[hj]
  .have:=uo h j hj;simp[this]
theorem zbi:∀ {ids:List Nat}{bs:List Blk}{i:Nat},xg bs=true->(hget (ww ids bs) i).isFree =false
 | [],_,_,_=>rfl
 | _::_,[],_,_=>rfl
 |j::ids,b::bs,i,h=>by
  simp only[ww];rw[ze];split
  .cases b<;>simp[xg]at h<;>rfl
  .exact zbi (by cases b<;>simp[xg]at h<;>exact h)
theorem ue:∀(l m:List Nat),zgh l m=true<->∀i∈l,i∉m
 | [],m=>by simp[zgh]
 |i::l,m=>by
  simp only[zgh]
  cases e:zgs i m with
  |true=>
   have:=(jw _ _).1 e;simp[this]
  |false=>
   have:i∉m:=fun h=>by rw[<-jw]at h;rw[h]at e;cases e
   simp[ue l m,this]
theorem zfs:∀ {l:List Nat},ltB l=true->∀i∈l,i<2000000
 | [],_,i,hi=>by simp at hi
 |j::l,h,i,hi=>by
  simp only[ltB]at h;split at h
  .rename_i e;rcases q2.1 hi with rfl|hi
   .exact q3 e
   .exact zfs h i hi
  .cases h
theorem zm2:∀ {l:List Nat},qac l=true->∀i∈l,i<=999999
 | [],_,i,hi=>by simp at hi
 |j::l,h,i,hi=>by
  simp only[qac]at h;split at h
  .rename_i e;rcases q2.1 hi with rfl|hi
   .exact q3 e
   .exact zm2 h i hi
  .cases h
theorem jp:∀(n d i:Nat),i∈zk n d<->∃q,q<n/\i=d+100000*q
 |0,d,i=>by simp[zk]
 |n+1,d,i=>by
  simp only[zk,q2,jp n];constructor
  .rintro(h|⟨q,h1,h2⟩)
   .exact⟨0,O,O⟩
   .exact⟨q+1,O,O⟩
  .rintro⟨q,h1,h2⟩
   cases q with
   |zero=>exact .inl O
   |succ q=>exact .inr ⟨q,O,O⟩
theorem zgd:∀(n d:Nat),(zk n d).Nodup
 |0,_=>by simp[zk]
 |n+1,d=>by
  simp only[zk,q7];refine⟨fun h=>?_,zgd n _⟩;obtain⟨q,h1,h2⟩:=(jp _ _ _).1 h;omega
theorem zep:∀(n d i:Nat),i∈zc7 n d<->∃q,q<n/\i=d+q
 |0,d,i=>by simp[zc7]
 |n+1,d,i=>by
  simp only[zc7,q2,zep n];constructor
  .rintro(h|⟨q,h1,h2⟩)
   .exact⟨0,O,O⟩
   .exact⟨q+1,O,O⟩
  .rintro⟨q,h1,h2⟩
   cases q with
   |zero=>exact .inl O
   |succ q=>exact .inr ⟨q,O,O⟩
theorem zni:∀(n d j:Nat)(bs:List Blk)(q:Nat),q<n->hget (ww (zk n d) bs) (d+100000*q)=hget (ww (zc7 n j) bs) (j+q)
 |0,_,_,_,_,h=>O
 |n+1,d,j,[],q,h=>rfl
 |n+1,d,j,b::bs,q,h=>by
  simp only[zk,zc7,ww];rw[ze,ze]
  cases q with
  |zero=>rw[Z4 O,Z4 O]
  |succ q=>
   rw[Z5 O,Z5 O];have:=zni n (d+100000) (j+1) bs q O;rw[(O:d+100000*(q+1)=d+100000+100000*q),(O:j+(q+1)=j+1+q)];exact this
theorem zg5:∀ {l:List Nat}{bs:List Blk},zde l bs=true->l.length=bs.length
 | [],[],_=>rfl
 | [],_::_,h=>by simp[zde]at h
 | _::_,[],h=>by simp[zde]at h
 | _::l,_::bs,h=>by simp only[zde]at h;simp[zg5 h]
theorem zo5:∀ {l:List Nat}{bs:List Blk},l.length=bs.length->zde l bs=true
 | [],[],_=>rfl
 | [],_::_,h=>by simp at h
 | _::_,[],h=>by simp at h
 | _::l,_::bs,h=>by simp only[zde];exact zo5 (by simpa using h)
theorem zjs:∀(n d:Nat),(zk n d).length =n
 |0,_=>rfl
 |n+1,d=>by simp[zk,zjs n]
theorem zqv:∀(n d:Nat),(zc7 n d).length =n
 |0,_=>rfl
 |n+1,d=>by simp[zc7,zqv n]
theorem zx7:∀(a b:List Blk),catB a b=a++b
 | [],_=>rfl
 |x::a,b=>by simp[catB,zx7 a]
theorem zx6:∀(a b:List Nat),qlx a b=a++b
 | [],_=>rfl
 |x::a,b=>by simp[qlx,zx6 a]
theorem zo1(f:Nat->Nat):∀(a:List Blk),qkg f a=a.map (Blk.mapI f)
 | []=>rfl
 |x::a=>by simp[qkg,zo1 f a]
theorem zcv:∀ {L I:List Nat}{A B:List Blk}{i:Nat},zde L A=true->hget (ww (L++I) (A++B)) i=if i∈L then hget (ww L A) i else hget (ww I B) i
 | [],I,[],B,i,_=>OC
 | [],_,_::_,_,_,h=>by simp[zde]at h
 | _::_,_,[],_,_,h=>by simp[zde]at h
 |j::L,I,a::A,B,i,h=>by
  simp only[zde]at h;simp only[q5,ww];rw[ze,ze,zcv h];by_cases e:j=i
  .rw[Z4 e,Z4 (by simp[e]),Z4 e]
  .rw[Z5 e,Z5 e];by_cases hi:i∈L
   .rw[Z4 hi,Z4 (by simp[hi])]
   .rw[Z5 hi,Z5 (by simp[hi];exact fun h=>e h.symm)]
theorem ze3:∀ {I:List Nat}{A:List Blk}{H:Hp}{i:Nat},zde I A=true->hget (zn3 (ww I A) H) i=if i∈I then hget (ww I A) i else hget H i
 | [],[],H,i,_=>by simp[ww,zn3]
 | [],_::_,_,_,h=>by simp[zde]at h
 | _::_,[],_,_,h=>by simp[zde]at h
 |j::I,a::A,H,i,h=>by
  simp only[zde]at h;simp only[ww,zn3];rw[ze,ze,ze3 h];by_cases e:j=i
  .rw[Z4 e,Z4 (by simp[e]),Z4 e]
  .rw[Z5 e,Z5 e];by_cases hi:i∈I
   .rw[Z4 hi,Z4 (by simp[hi])]
   .rw[Z5 hi,Z5 (by simp[hi];exact fun h=>e h.symm)]
theorem zcu(f:Nat->Nat):∀ {I:List Nat}{A:List Blk}{i:Nat},hget (ww I (A.map (Blk.mapI f))) i=(hget (ww I A) i).mapI f
 | [],_,_=>rfl
 | _::_,[],_=>rfl
 |j::I,a::A,i=>by
  simp only[List.map_cons,ww];rw[ze,ze];split
  .rfl
  .exact zcu f
theorem zd0(f:Nat->Nat)(b:Blk):(b.mapI f).isFree =b.isFree:=by cases b<;>rfl
theorem zbj(f:Nat->Nat)(b:Blk):(b.mapI f).isPt =b.isPt:=by cases b<;>rfl
theorem zae(f:Nat->Nat)(b:Blk):(b.mapI f).isBuf =b.isBuf:=by cases b<;>rfl
theorem znv:∀(n d:Nat)(I:List Nat),zgu n (zk n d++I)=I
 |0,_,_=>rfl
 |n+1,d,I=>by simp only[zk,q5,zgu];exact znv n _ I
theorem znx(hp:Hp):∀(n d:Nat)(I:List Nat)(K:List Blk->Prop),zny n (qf hp (zk n d++I)) K->(∀i∈zk n d,hget hp i=.free)/\K (qf hp I)
 |0,_,_,_,h=>⟨by simp[zk],h⟩
 |n+1,d,I,K,h=>by
  simp only[zk,q5,qf]at h;cases e:hget hp d<;>rw[e]at h<;>simp only[zny]at h
  obtain⟨h1,h2⟩:=znx hp n _ I K h;refine⟨fun i hi=>?_,h2⟩;simp only[zk,q2]at hi;rcases hi with rfl|hi
  .exact e
  .exact h1 i hi
mutual
theorem AV.mapI_id(f:Nat->Nat):∀(a:AV),(∀i∈a.ids,f i=i)->a.mapI f=a
 |.any,_=>rfl
 |.bool _,_=>rfl
 |.int _ _,_=>rfl
 |.str _,_=>rfl
 |.nilp,_=>rfl
 |.ptr i o,h=>by simp only[AV.mapI];rw[h i (by simp[AV.ids])]
 |.rp _ _ _,_=>rfl
 |.opt i _ _ _,h=>by simp only[AV.mapI];rw[h i (by simp[AV.ids])]
 |.ow i _ _ _,h=>by simp only[AV.mapI];rw[h i (by simp[AV.ids])]
 |.nilsl,_=>rfl
 |.sl _ _,_=>rfl
 |.own i,h=>by simp only[AV.mapI];rw[h i (by simp[AV.ids])]
 |.agg l,h=>by simp only[AV.mapI];rw[zdc f l (by simpa[AV.ids]using h)]
 |.tup l,h=>by simp only[AV.mapI];rw[zdc f l (by simpa[AV.ids]using h)]
 |.fn _ l,h=>by simp only[AV.mapI];rw[zdc f l (by simpa[AV.ids]using h)]
 |.nilf,_=>rfl
 |.mp i,h=>by simp only[AV.mapI];rw[h i (by simp[AV.ids])]
 |.nilm,_=>rfl
 |.ub _ _,_=>rfl
 |.cb _,_=>rfl
 |.val _,_=>rfl
theorem zdc(f:Nat->Nat):∀(l:List AV),(∀i∈jc l,f i=i)->zba f l=l
 | [],_=>rfl
 |a::l,h=>by simp only[zba];rw[AV.mapI_id f a fun i hi=>h i (by simp[jc,hi]),zdc f l fun i hi=>h i (by simp[jc,hi])]
end
theorem zdb{f:Nat->Nat}{b:Blk}{l:List AV}(h:b.mapI f=.cells l):∃m,b=.cells m/\l=zba f m:=by
 cases b<;>simp only[Blk.mapI]at h<;>cases h
 exact⟨_,rfl,rfl⟩
theorem zab.ren{w:World}{V:yj}{pt pt':Nat->Option Nat}{ow ow':Nat->Option Value}{S S':Nat->Prop}{i j:Nat}{x:Blk}(f:Nat->Nat)(hpt:pt' i=pt j)(how:ow' i=ow j)(hS:j=jh->i=jh/\S'=S)(h:zab w V pt ow S j x):zab w V pt' ow' S' i (x.mapI f):=by
 cases x with
 |free=>trivial
 |dead=>trivial
 |cells l=>simpa only[Blk.mapI,zab,hpt]using h
 |buf e k xs=>simpa only[Blk.mapI,zab,how]using h
 |map a b m=>simpa only[Blk.mapI,zab,hpt]using h
 |gst J=>
  obtain⟨h1,h2,h3⟩:=h;obtain⟨e1,e2⟩:=hS h1;exact⟨e1,h2,by rw[e2];exact h3⟩
theorem zhe:∀(h:Hp),zn3 h []=h
 | []=>rfl
 |x::r=>by simp only[zn3];rw[zhe r]
theorem zeq{h:Hp}{l:List Nat}{i:Nat}(hi:i∈l):i∈zcb h l:=(zco _ _).2 (List.mem_append_left _ hi)
section
variable {P:Program} {T:Tab} {F:Wf} {c:Ctx} {o:Oper} {Y:St} {a:Act} {w:World} {E:AV->List Blk->Prop}
theorem zh8:∀(l m:List AV),jc (l++m)=jc l++jc m
 | [],m=>rfl
 |a::l,m=>by simp[jc,zh8 l m]
open Classical in
theorem Rel.call(h:Rel c Y a w)(o:Oper){n d:Nat}{I:List Nat}(hnd:I.Nodup)(hdis:∀i∈zk n d,i∉I)(hlt:∀i∈I,i<2000000)(hn9:n<=9)(hnear:n≠0->∀i∈I,i<=999999)(hd:d<=99999)(hfree:∀i∈zk n d,hget Y.hp i=.free)(hw:wr o.op=true)(A:List AV)(vs:List Value)
 (hA:∀M pt ow,zgl Y a w M pt ow->Rs ⟨zu w M,pt,ow⟩ A vs) (hAI:∀i∈jc A,i∈I) (bs' nbs:List Blk) (r:AV) (f:Nat->Nat) (hfI:∀i∈I,f i=i) (hfN:∀q,q<n->f (2000000+q)=d+100000*q)
 (hl1:zde I bs'=true) (hl2:zde (zc7 n 2000000) nbs=true) (hr1:∀i∈r.ids,i∈I++zc7 n 2000000) (hr2:∀i∈zfg (zn3 (ww I bs') (ww (zc7 n 2000000) nbs)),i∈I++zc7 n 2000000) (hnf1:xg bs'=true) (hnf2:xg nbs=true):
 ∃M pt ow S,Core M pt ow S (ww I (qf Y.hp I)) w/\zgy (ww I (qf Y.hp I)) w M pt ow pt ow/\Rs ⟨zu w M,pt,ow⟩ A vs/\
  ∀v w',Ans w M pt ow S r (zn3 (ww I bs') (ww (zc7 n 2000000) nbs)) (.returned v) w'->Rel c (nxt o (zk n d++I) Y (r.mapI f) (nbs.map (Blk.mapI f)++bs'.map (Blk.mapI f))) (a.put o.dst v) w':=by
 obtain⟨M,pt,ow,S,hg,hs,hdf⟩:=h;obtain⟨hsl,hct⟩:=hs pt ow (Agr.refl _ _ _)
 let ptR:Nat->Option Nat:=fun i=>if i∈I then pt i else none
 let owR:Nat->Option Value:=fun i=>if i∈I then ow i else none
 let SR:Nat->Prop:=if jh∈I then S else fun _=>False
 have hSR:∀b,SR b->S b:=fun b hb=>by
  by_cases e:jh∈I
  .simpa only[SR,Z4 e]using hb
  .simp only[SR,Z5 e]at hb
 have hblR:∀i b,bl ptR owR i=some b->i∈I/\bl pt ow i=some b:=fun i b hb=>by
  by_cases hi:i∈I
  .exact⟨hi,by simpa only[bl,ptR,owR,hi,if_true]using hb⟩
  .simp only[bl,ptR,owR,hi,if_false]at hb;cases hb
 have hptR:∀i b,ptR i=some b->i∈I/\pt i=some b:=fun i b hb=>by
  by_cases hi:i∈I
  .exact⟨hi,by simpa only[ptR,hi,if_true]using hb⟩
  .simp only[ptR,hi,if_false]at hb;cases hb
 have howR:∀i b,owR i=some b->i∈I/\ow i=some b:=fun i b hb=>by
  by_cases hi:i∈I
  .exact⟨hi,by simpa only[owR,hi,if_true]using hb⟩
  .simp only[owR,hi,if_false]at hb;cases hb
 have hleR:∀is:List Nat,Env.le ⟨zu w M,pt,ow⟩ ⟨zu w M,ptR,owR⟩ is:=fun is=>⟨fun _ _ h=>h,fun i _=>⟨fun b hb=>(hptR i b hb).2,fun b hb=>(howR i b hb).2⟩⟩
 have hgetH:∀i,i∈I->hget (ww I (qf Y.hp I)) i=hget Y.hp i:=fun i hi=>jd Y.hp hi
 have hgetHn:∀i,i∉I->hget (ww I (qf Y.hp I)) i=.dead :=fun i hi=>ko hi
 have hcore:Core M ptR owR SR (ww I (qf Y.hp I)) w:= {
  fresh:=hg.fresh
  mt:=fun i b hb=>hg.mt i b (hblR i b hb).2
  inj:=fun i j b hi hj=>hg.inj i j b (hblR i b hi).2 (hblR j b hj).2
  gm:=fun b hb=>hg.gm b (hSR b hb)
  gd:=fun i b hb hS=>hg.gd i b (hblR i b hb).2 (hSR b hS)
  dpt:=fun i b hb=>by rw[hgetH i (hptR i b hb).1];exact hg.dpt i b (hptR i b hb).2
  dow:=fun i b hb=>by rw[hgetH i (howR i b hb).1];exact hg.dow i b (howR i b hb).2
  blk:=fun i=>by
   by_cases hi:i∈I
   .rw[hgetH i hi];have:=(hg.blk i).ren (pt':=ptR) (ow':=owR) (S':=SR) (i:=i) id (by simp only[ptR,Z4 hi]) (by simp only[owR,Z4 hi]) (fun e=>⟨e,by simp only[SR,Z4 (e▸hi)]⟩);have e:(hget Y.hp i).mapI id=hget Y.hp i:=by
     cases hget Y.hp i<;>simp only[Blk.mapI]
     rw[zdc id _ fun _ _=>rfl]
    rwa [e]at this
   .rw[hgetHn i hi];trivial}
 refine⟨M,ptR,owR,SR,hcore,fun i l b cs Ty hl hb hcs=>?_,(hA M pt ow hs).imp _ _ (hleR _),?_⟩
 .obtain⟨hi,hb⟩:=hptR i b hb;rw[hgetH i hi]at hl;exact(hct i l b cs Ty hl hb hcs).imp _ _ (hleR _)
 rintro v w' ⟨v',M',pt',ow',S',hve,hcore',hconts',hr,hleft⟩;cases hve
 let H':=zn3 (ww I bs') (ww (zc7 n 2000000) nbs)
 have hH1:∀i,i∈I->hget H' i=hget (ww I bs') i:=fun i hi=>by show hget (zn3 _ _) i=_;rw[ze3 hl1,Z4 hi]
 have hH2:∀q,hget H' (2000000+q)=hget (ww (zc7 n 2000000) nbs) (2000000+q):=fun q=>by
  show hget (zn3 _ _) _=_;rw[ze3 hl1,Z5 fun h=>by have:=hlt _ h;omega]
 have hH3:∀i,i∉I->i∉zc7 n 2000000->hget H' i=.dead :=fun i h1 h2=>by show hget (zn3 _ _) _=_;rw[ze3 hl1,Z5 h1];exact ko h2
 have hLlo:∀i,i∈zk n d->i<=999999:=fun i hi=>by obtain⟨q,h1,h2⟩:=(jp _ _ _).1 hi;omega
 let u:Nat->Nat:=fun i=>2000000+(i-d)/100000
 have hu:∀q,q<n->u (d+100000*q)=2000000+q:=fun q _=>by show 2000000+(d+100000*q-d)/100000=_;omega
 let ptN:Nat->Option Nat:=fun i=>if i∈zk n d then pt' (u i)else if i∈I then pt' i else pt i
 let owN:Nat->Option Value:=fun i=>if i∈zk n d then ow' (u i)else if i∈I then ow' i else ow i
 let SN:Nat->Prop:=if jh∈I then S' else S
 have hcL:jh∉zk n d:=fun h=>by have:=hLlo _ h;simp only[jh]at this;omega
 have hNL:∀q,q<n->ptN (d+100000*q)=pt' (2000000+q)/\owN (d+100000*q)=ow' (2000000+q):=fun q hq=>by
  have:d+100000*q∈zk n d:=(jp _ _ _).2 ⟨q,hq,rfl⟩;simp only[ptN,owN,Z4 this,hu q hq];exact⟨trivial,trivial⟩
 have hNI:∀i,i∈I->ptN i=pt' i/\owN i=ow' i:=fun i hi=>by
  have:i∉zk n d:=fun h=>hdis i h hi
  simp only[ptN,owN,Z5 this,Z4 hi];exact⟨trivial,trivial⟩
 have hNo:∀i,i∉zk n d->i∉I->ptN i=pt i/\owN i=ow i:=fun i h1 h2=>by
  simp only[ptN,owN,Z5 h1,Z5 h2];exact⟨trivial,trivial⟩
 have hptI:∀i b,i∈I->pt' i=some b->pt i=some b:=fun i b hi hb=>by
  rcases hleft.lept i b hb with h1|⟨_,h1⟩
  .exact(hptR i b h1).2
  .have:=hlt i hi;omega
 have howI:∀i b,i∈I->ow' i=some b->ow i=some b:=fun i b hi hb=>by
  rcases hleft.leow i b hb with h1|⟨_,h1⟩
  .exact(howR i b h1).2
  .have:=hlt i hi;omega
 have hptR0:∀q,ptR (2000000+q)=none:=fun q=>by
  simp only[ptR];rw[Z5 fun h=>by have:=hlt _ h;omega]
 have howR0:∀q,owR (2000000+q)=none:=fun q=>by
  simp only[owR];rw[Z5 fun h=>by have:=hlt _ h;omega]
 have hptK:∀q b,pt' (2000000+q)=some b->w.heap.size<=b:=fun q b hb=>by
  rcases hleft.lept _ b hb with h1|⟨h1,_⟩
  .rw[hptR0]at h1;cases h1
  .exact h1
 have howK:∀q x,ow' (2000000+q)=some x->∀b,vbl x=some b->w.heap.size<=b\/∃j,bl ptR owR j=some b:=fun q x hx=>by
  rcases hleft.leow _ x hx with h1|⟨h1,_⟩
  .rw[howR0]at h1;cases h1
  .exact h1
 have hblI:∀i b,i∈I->bl ptN owN i=some b->bl pt' ow' i=some b/\bl pt ow i=some b:=fun i b hi hb=>by
  have hb':bl pt' ow' i=some b:=by simpa only[bl,(hNI i hi).1,(hNI i hi).2]using hb
  refine⟨hb',?_⟩;unfold bl at hb'⊢
  cases hq:pt' i with
  |some z=>rw[hq]at hb';rw[hptI i z hi hq];exact hb'
  |none=>
   rw[hq]at hb'
   cases hq2:ow' i with
   |none=>rw[hq2]at hb';cases hb'
   |some z=>
    rw[hq2]at hb';rw[hg.ptow (howI i z hi hq2),howI i z hi hq2];exact hb'
 have hblK:∀q b,q<n->bl ptN owN (d+100000*q)=some b->bl pt' ow' (2000000+q)=some b/\(w.heap.size<=b\/∃j,j∈I/\bl pt ow j=some b):=fun q b hq hb=>by
  have hb':bl pt' ow' (2000000+q)=some b:=by simpa only[bl,(hNL q hq).1,(hNL q hq).2]using hb
  refine⟨hb',?_⟩;unfold bl at hb';cases hq1:pt' (2000000+q)with
  |some z=>rw[hq1]at hb';cases hb';exact .inl (hptK q b hq1)
  |none=>
   rw[hq1]at hb';cases hq2:ow' (2000000+q)with
   |none=>rw[hq2]at hb';cases hb'
   |some z=>
    rw[hq2]at hb';refine(howK q z hq2 b ?_).imp id fun⟨j,hj⟩=>⟨j,hblR j b hj⟩
    cases z<;>first|exact hb'|(simp at hb';done)|(rename_i ao _ _;cases ao<;>first|exact hb'|(simp at hb';done))
 have hblo:∀i b,i∉zk n d->i∉I->bl ptN owN i=some b->bl pt ow i=some b:=fun i b h1 h2 hb=>by
  simpa only[bl,(hNo i h1 h2).1,(hNo i h1 h2).2]using hb
 have hblc:∀i b,bl ptN owN i=some b->(∃q,q<n/\i=d+100000*q/\bl pt' ow' (2000000+q)=some b/\(w.heap.size<=b\/∃j,j∈I/\bl pt ow j=some b))\/(i∈I/\bl pt' ow' i=some b/\bl pt ow i=some b)\/(i∉zk n d/\i∉I/\bl pt ow i=some b):=fun i b hb=>by
  by_cases h1:i∈zk n d
  .obtain⟨q,hq,rfl⟩:=(jp _ _ _).1 h1;exact .inl ⟨q,hq,rfl,hblK q b hq hb⟩
  .by_cases h2:i∈I
   .exact .inr (.inl ⟨h2,hblI i b h2 hb⟩)
   .exact .inr (.inr ⟨h1,h2,hblo i b h1 h2 hb⟩)
 have hltb:∀i b,bl pt ow i=some b->b<w.heap.size:=fun i b hb=>hg.fresh b (hg.mt i b hb)
 have hnotI:∀i b,i∉I->bl pt ow i=some b->∀j,bl ptR owR j≠some b:=fun i b hi hb j hj=>by
  obtain⟨h1,h2⟩:=hblR j b hj;exact hi (hg.inj i j b hb h2▸h1)
 have hV:∀b ob,zu w M b ob->zu w' M' b ob:=qo fun b ob hm hb=>by
  have hlt':=zm hb;refine⟨fun h'=>(hleft.mn b h').elim hm fun h=>O,?_⟩;rw[hleft.same b hlt' (fun j hj=>hm (hg.mt j b (hblR j b hj).2)) fun hS=>hm (hg.gm b (hSR b hS))];exact hb
 have hsame:∀i b ob,i∉I->bl pt ow i=some b->w.heap[b]? =some ob->w'.heap[b]? =some ob:=fun i b ob hi hb hh=>by
  rw[hleft.same b (zm hh) (hnotI i b hi hb) fun hS=>hg.gd i b hb (hSR b hS)];exact hh
 have hnx:(nxt o (zk n d++I) Y (r.mapI f) (nbs.map (Blk.mapI f)++bs'.map (Blk.mapI f))).hp =qq Y.hp (zk n d++I) (nbs.map (Blk.mapI f)++bs'.map (Blk.mapI f)):=by simp[nxt,hw]
 have hnodup:(zk n d++I).Nodup :=List.nodup_append.2 ⟨zgd _ _,hnd,fun i h1 j h2 e=>hdis i h1 (e▸h2)⟩;have hl2':zde (zk n d) (nbs.map (Blk.mapI f))=true:=zo5 (by rw[zjs,qd,<-zg5 hl2,zqv]);have hlenE:zde (zk n d++I) (nbs.map (Blk.mapI f)++bs'.map (Blk.mapI f))=true:=zo5 (by rw[q8,q8,zg5 hl2',qd (as:=bs'),zg5 hl1]);have hgetK:∀i,yo Y.hp i->hget (qq Y.hp (zk n d++I) (nbs.map (Blk.mapI f)++bs'.map (Blk.mapI f))) i=if i∈zk n d++I then hget (ww (zk n d++I) (nbs.map (Blk.mapI f)++bs'.map (Blk.mapI f))) i else hget Y.hp i:=
  fun i hk=>yy hnodup hlenE hk
 have hgetL:∀q,q<n->hget (qq Y.hp (zk n d++I) (nbs.map (Blk.mapI f)++bs'.map (Blk.mapI f))) (d+100000*q)=(hget H' (2000000+q)).mapI f:=fun q hq=>by
  have hm:d+100000*q∈zk n d:=(jp _ _ _).2 ⟨q,hq,rfl⟩;rw[hgetK _ (zt (by rw[hfree _ hm];simp)),Z4 (by simp[hm]),zcv hl2',Z4 hm,zcu,zni n d 2000000 nbs q hq,hH2]
 have hgetI:∀i,i∈I->yo Y.hp i->hget (qq Y.hp (zk n d++I) (nbs.map (Blk.mapI f)++bs'.map (Blk.mapI f))) i=(hget H' i).mapI f:=fun i hi hk=>by
  rw[hgetK i hk,Z4 (by simp[hi]),zcv hl2',Z5 fun h=>hdis i h hi,zcu,hH1 i hi]
 have hgetn:∀i,¬yo Y.hp i->hget (qq Y.hp (zk n d++I) (nbs.map (Blk.mapI f)++bs'.map (Blk.mapI f))) i=.dead :=fun i hk=>xr hk
 have hgeto:∀i,i∉zk n d->i∉I->hget (qq Y.hp (zk n d++I) (nbs.map (Blk.mapI f)++bs'.map (Blk.mapI f))) i=hget Y.hp i:=fun i h1 h2=>by
  by_cases hk:yo Y.hp i
  .rw[hgetK i hk,Z5 (by simp[h1,h2])]
  .rw[hgetn i hk];cases h:hget Y.hp i<;>first|rfl|exact absurd (zt (by rw[h];simp)) hk
 have hkeyI:∀i b,bl pt ow i=some b->yo Y.hp i:=fun i b hb=>by
  refine zt fun e=>?_
  unfold bl at hb;rw[hg.ptn (i:=i) (by rw[e];rfl),hg.own (i:=i) (by rw[e];rfl)]at hb;cases hb
 have hfmap:∀i,i∈I++zc7 n 2000000->ptN (f i)=pt' i/\owN (f i)=ow' i:=fun i hi=>by
  rcases q4.1 hi with hi|hi
  .rw[hfI i hi];exact hNI i hi
  .obtain⟨q,hq,rfl⟩:=(zep _ _ _).1 hi;rw[hfN q hq];exact hNL q hq
 have hmapL:∀(V:yj)(l:List AV)(us:List Value),(∀i∈jc l,i∈I++zc7 n 2000000)->Rs ⟨V,pt',ow'⟩ l us->Rs ⟨V,ptN,owN⟩ (zba f l) us:=fun V l us hl hr=>(Rs.mapI l us fun i hi=>hfmap i (hl i hi)).2 hr
 refine⟨M',ptN,owN,SN,?_,?_,by rw[yu];exact hdf.mono hV⟩
 .rw[hnx];exact {
   os:=hleft.os.trans hg.os,tape:=hleft.tape.trans hg.tape,output:=hleft.output.trans hg.output
   size:=q9 hg.size hleft.size
   keep:=fun b hb hm=>by
    rw[hleft.same b (Nat.lt_of_lt_of_le hb hg.size) (fun i hi=>by
     rcases hg.loc i b (hblR i b hi).2 with h1|h1
     .omega
     .exact hm h1.1) fun hS=>by
     rcases hg.gl b (hSR b hS)with h1|h1
     .omega
     .exact hm h1.1]
    exact hg.keep b hb hm
   fresh:=hcore'.fresh
   m0:=fun b hb=>hleft.mm b (hg.m0 b hb)
   m1:=hg.m1
   mt:=fun i b hb=>by
    rcases hblc i b hb with ⟨q,_,_,h1,_⟩|⟨_,h1,_⟩|⟨_,_,h1⟩
    .exact hcore'.mt _ b h1
    .exact hcore'.mt _ b h1
    .exact hleft.mm b (hg.mt i b h1)
   loc:=fun i b hb=>by
    rcases hblc i b hb with ⟨q,hq,_,_,h1|⟨j,hj,h1⟩⟩|⟨_,_,h1⟩|⟨_,_,h1⟩
    .exact .inl (q9 hg.size h1)
    .rcases hg.loc j b h1 with h2|h2
     .exact .inl h2
     .have:=hnear O j hj;omega
    .exact hg.loc i b h1
    .exact hg.loc i b h1
   gm:=fun b hb=>by
    by_cases e:jh∈I
    .simp only[SN,Z4 e]at hb;exact hcore'.gm b hb
    .simp only[SN,Z5 e]at hb;exact hleft.mm b (hg.gm b hb)
   gl:=fun b hb=>by
    by_cases e:jh∈I
    .simp only[SN,Z4 e]at hb;rcases hleft.sn b hb with h1|h1
     .exact hg.gl b (hSR b h1)
     .exact .inl (q9 hg.size h1)
    .simp only[SN,Z5 e]at hb;exact hg.gl b hb
   gd:=fun i b hb hS=>by
    by_cases e:jh∈I
    .simp only[SN,Z4 e]at hS;rcases hblc i b hb with ⟨q,_,_,h1,_⟩|⟨_,h1,_⟩|⟨_,_,h1⟩
     .exact hcore'.gd _ b h1 hS
     .exact hcore'.gd _ b h1 hS
     .rcases hleft.sn b hS with h2|h2
      .exact hg.gd i b h1 (hSR b h2)
      .have:=hltb i b h1;omega
    .simp only[SN,Z5 e]at hS;rcases hblc i b hb with ⟨q,_,_,_,h1|⟨j,_,h1⟩⟩|⟨_,_,h1⟩|⟨_,_,h1⟩
     .have:=hg.fresh b (hg.gm b hS);omega
     .exact hg.gd j b h1 hS
     .exact hg.gd i b h1 hS
     .exact hg.gd i b h1 hS
   farp:=fun i b hi hb=>by
    by_cases h1:i∈zk n d
    .have:=hLlo i h1;omega
    .by_cases h2:i∈I
     .rw[(hNI i h2).1]at hb;exact hg.farp i b hi (hptI i b h2 hb)
     .rw[(hNo i h1 h2).1]at hb;exact hg.farp i b hi hb
   farw:=fun i b hi hb=>by
    by_cases h1:i∈zk n d
    .have:=hLlo i h1;omega
    .by_cases h2:i∈I
     .rw[(hNI i h2).2]at hb;exact hg.farw i b hi (howI i b h2 hb)
     .rw[(hNo i h1 h2).2]at hb;exact hg.farw i b hi hb
   inj:=fun i j b hi hj=>by
    rcases hblc i b hi with ⟨q,h1,h2,h3,h4⟩|⟨h1,h2,h3⟩|⟨h1,h2,h3⟩<;>rcases hblc j b hj with ⟨q',h1',h2',h3',h4'⟩|⟨h1',h2',h3'⟩|⟨h1',h2',h3'⟩
    .have:=hcore'.inj _ _ b h3 h3';omega
    .have:=hcore'.inj _ _ b h3 h2';have:=hlt _ h1';omega
    .rcases h4 with h4|⟨k,hk,h4⟩
     .have:=hltb _ _ h3';omega
     .exact absurd (hg.inj _ _ b h4 h3'▸hk) h2'
    .have:=hcore'.inj _ _ b h3' h2;have:=hlt _ h1;omega
    .exact hg.inj i j b h3 h3'
    .exact hg.inj i j b h3 h3'
    .rcases h4' with h4|⟨k,hk,h4⟩
     .have:=hltb _ _ h3;omega
     .exact absurd (hg.inj _ _ b h4 h3▸hk) h2
    .exact hg.inj i j b h3 h3'
    .exact hg.inj i j b h3 h3'
   dpt:=fun i b hb=>by
    by_cases h1:i∈zk n d
    .obtain⟨q,hq,rfl⟩:=(jp _ _ _).1 h1;rw[hgetL q hq,zbj];rw[(hNL q hq).1]at hb;exact hcore'.dpt _ b hb
    .by_cases h2:i∈I
     .rw[(hNI i h2).1]at hb;rw[hgetI i h2 (hkeyI i b (by simp[bl,hptI i b h2 hb])),zbj];exact hcore'.dpt i b hb
     .rw[(hNo i h1 h2).1]at hb;rw[hgeto i h1 h2];exact hg.dpt i b hb
   dow:=fun i b hb=>by
    by_cases h1:i∈zk n d
    .obtain⟨q,hq,rfl⟩:=(jp _ _ _).1 h1;rw[hgetL q hq,zae];rw[(hNL q hq).2]at hb;exact hcore'.dow _ b hb
    .by_cases h2:i∈I
     .rw[(hNI i h2).2]at hb;have hold:=howI i b h2 hb;have hk:yo Y.hp i:=zt fun e=>by have:=hg.dow i b hold;rw[e]at this;cases this
      rw[hgetI i h2 hk,zae];exact hcore'.dow i b hb
     .rw[(hNo i h1 h2).2]at hb;rw[hgeto i h1 h2];exact hg.dow i b hb
   blk:=fun i=>by
    by_cases h1:i∈zk n d
    .obtain⟨q,hq,rfl⟩:=(jp _ _ _).1 h1;rw[hgetL q hq];exact(hcore'.blk (2000000+q)).ren f (hNL q hq).1 (hNL q hq).2 fun e=>by simp only[jh]at e;omega
    .by_cases h2:i∈I
     .by_cases hk:yo Y.hp i
      .rw[hgetI i h2 hk];exact(hcore'.blk i).ren f (hNI i h2).1 (hNI i h2).2 fun e=>⟨e,by simp only[SN,Z4 (e▸h2)]⟩
      .rw[hgetn i hk];trivial
     .rw[hgeto i h1 h2];by_cases e:jh∈I
      .have hne:i≠jh:=fun h=>h2 (h▸e)
       have:=(hg.blk i).mono (w':=w') (V':=zu w' M') (pt':=ptN) (ow':=owN) (S:=S) (hNo i h1 h2).1 (hNo i h1 h2).2 hV (fun _=>hg.ptow) (fun b ob hb hh=>hsame i b ob h2 hb hh)
       cases e2:hget Y.hp i with
       |gst J=>have h3:=hg.blk i;rw[e2]at h3;exact absurd h3.1 hne
       |free=>trivial
       |dead=>trivial
       |cells l=>
        obtain⟨b,cs,Ty,h3,h4⟩:=hg.cel i l e2;exact⟨b,cs,Ty,by rw[(hNo i h1 h2).1];exact h3,hsame i b _ h2 (by simp[bl,h3]) h4⟩
       |buf et k xs=>
        obtain⟨hd',h3,h4⟩:=hg.buf i et k xs e2;exact⟨hd',by rw[(hNo i h1 h2).2];exact h3,h4.mono hV fun b cap cs hh hcs=>hsame i b _ h2 (by simp[bl,hg.ptow h3,h3,hh]) hcs⟩
       |map kk vk m=>
        obtain⟨b,es,clk,h3,h4,h5⟩:=hg.mpo i kk vk m e2;exact⟨b,es,clk,by rw[(hNo i h1 h2).1];exact h3,hsame i b _ h2 (by simp[bl,h3]) h4,h5.mono hV⟩
      .simp only[SN,Z5 e];refine(hg.blk i).mono (hNo i h1 h2).1 (hNo i h1 h2).2 hV (fun _=>hg.ptow) (fun b ob hb hh=>hsame i b ob h2 hb hh) fun b ob hS hh=>?_
       rw[hleft.same b (zm hh) (fun j hj=>hg.gd j b (hblR j b hj).2 hS) fun hS'=>by simp only[SR,Z5 e]at hS'];exact hh}
 .intro pt3 ow3 hag;rw[hnx]at hag;have hnfH:∀i,i∈I++zc7 n 2000000->(hget H' i).isFree =false:=fun i hi=>by
   rcases q4.1 hi with hi|hi
   .rw[hH1 i hi];exact zbi hnf1
   .obtain⟨q,hq,rfl⟩:=(zep _ _ _).1 hi;rw[hH2];exact zbi hnf2
  have hnfreeI:∀i,i∈I->(hget (qq Y.hp (zk n d++I) (nbs.map (Blk.mapI f)++bs'.map (Blk.mapI f))) i).isFree =false:=fun i hi=>by
   by_cases hk:yo Y.hp i
   .rw[hgetI i hi hk,zd0];exact hnfH i (by simp[hi])
   .rw[hgetn i hk];rfl
  have hnfreeL:∀q,q<n->(hget (qq Y.hp (zk n d++I) (nbs.map (Blk.mapI f)++bs'.map (Blk.mapI f))) (d+100000*q)).isFree =false:=fun q hq=>by
   rw[hgetL q hq,zd0];exact hnfH _ (by simp[(zep n 2000000 (2000000+q)).2 ⟨q,hq,rfl⟩])
  let pt4:Nat->Option Nat:=fun i=>if(hget Y.hp i).isFree =true then pt3 i else pt i
  let ow4:Nat->Option Value:=fun i=>if(hget Y.hp i).isFree =true then ow3 i else ow i
  have hag4:Agr Y.hp pt pt4 ow ow4:=fun i hi=>by simp[pt4,ow4,hi]
  have hp4:∀i b,pt3 i=some b->pt4 i=some b:=fun i b hb=>by
   by_cases hfr:(hget Y.hp i).isFree =true
   .simpa[pt4,hfr]using hb
   .have hfr':(hget Y.hp i).isFree =false:=by simpa using hfr
    have h1:i∉zk n d:=fun h=>by rw[hfree i h]at hfr';cases hfr'
    simp only[pt4,hfr',q6,if_false];by_cases h2:i∈I
    .have:=(hag i (hnfreeI i h2)).1;rw[this,(hNI i h2).1]at hb;exact hptI i b h2 hb
    .have:=(hag i (by rw[hgeto i h1 h2];exact hfr')).1;rw[this,(hNo i h1 h2).1]at hb;exact hb
  have ho4:∀i b,ow3 i=some b->ow4 i=some b:=fun i b hb=>by
   by_cases hfr:(hget Y.hp i).isFree =true
   .simpa[ow4,hfr]using hb
   .have hfr':(hget Y.hp i).isFree =false:=by simpa using hfr
    have h1:i∉zk n d:=fun h=>by rw[hfree i h]at hfr';cases hfr'
    simp only[ow4,hfr',q6,if_false];by_cases h2:i∈I
    .have:=(hag i (hnfreeI i h2)).2;rw[this,(hNI i h2).2]at hb;exact howI i b h2 hb
    .have:=(hag i (by rw[hgeto i h1 h2];exact hfr')).2;rw[this,(hNo i h1 h2).2]at hb;exact hb
  have hle4:∀is:List Nat,Env.le ⟨zu w M,pt4,ow4⟩ ⟨zu w' M',pt3,ow3⟩ is:=fun is=>⟨hV,fun i _=>⟨hp4 i,ho4 i⟩⟩
  have h3N:∀i,i∈I++zc7 n 2000000->pt3 (f i)=ptN (f i)/\ow3 (f i)=owN (f i):=fun i hi=>by
   rcases q4.1 hi with hi|hi
   .rw[hfI i hi];exact hag i (hnfreeI i hi)
   .obtain⟨q,hq,rfl⟩:=(zep _ _ _).1 hi;rw[hfN q hq];exact hag _ (hnfreeL q hq)
  have hres:∀(x:AV)(y:Value),(∀i∈x.ids,i∈I++zc7 n 2000000)->R ⟨zu w' M',pt',ow'⟩ x y->R ⟨zu w' M',pt3,ow3⟩ (x.mapI f) y:=fun x y hx hr=>
   (R.mapI x y fun i hi=>⟨(h3N i (hx i hi)).1.trans (hfmap i (hx i hi)).1,(h3N i (hx i hi)).2.trans (hfmap i (hx i hi)).2⟩).2 hr
  have hresL:∀(l:List AV)(us:List Value),(∀i∈jc l,i∈I++zc7 n 2000000)->Rs ⟨zu w' M',pt',ow'⟩ l us->Rs ⟨zu w' M',pt3,ow3⟩ (zba f l) us:=fun l us hl hr=>
   (Rs.mapI l us fun i hi=>⟨(h3N i (hl i hi)).1.trans (hfmap i (hl i hi)).1,(h3N i (hl i hi)).2.trans (hfmap i (hl i hi)).2⟩).2 hr
  obtain⟨h1,h2⟩:=hs pt4 ow4 hag4;refine⟨?_,fun i l b cs Ty hl hb hcs=>?_⟩
  .simp only[nxt];have h1':=h1.imp _ _ (hle4 _)
   cases o.dst with
   |none=>simpa[Act.put]using h1'
   |some e=>
    rw[yt];exact h1'.set (hres r v hr1 hr) e
  .rw[hnx]at hl;by_cases hL:i∈zk n d
   .obtain⟨q,hq,rfl⟩:=(jp _ _ _).1 hL;rw[hgetL q hq]at hl;obtain⟨m,hm,rfl⟩:=zdb hl;rw[(hNL q hq).1]at hb;exact hresL m _ (fun j hj=>hr2 j (uo hm j hj)) (hconts' _ m b cs Ty hm hb hcs)
   .by_cases hi:i∈I
    .rw[(hNI i hi).1]at hb;rw[hgetI i hi (hkeyI i b (by simp[bl,hptI i b hi hb]))]at hl;obtain⟨m,hm,rfl⟩:=zdb hl;exact hresL m _ (fun j hj=>hr2 j (uo hm j hj)) (hconts' _ m b cs Ty hm hb hcs)
    .rw[hgeto i hL hi]at hl;rw[(hNo i hL hi).1]at hb;have hcs':w.heap[b]? =some (.cells cs Ty (0,0)):=by
      obtain⟨b',cs',Ty',h3,h4⟩:=hg.cel i l hl;rw[hb]at h3;cases h3
      have:=hsame i b _ hi (by simp[bl,hb]) h4;rw[hcs]at this;cases this;exact h4
     exact(h2 i l b cs Ty hl hb hcs').imp _ _ (hle4 _)
theorem Blk.mapI_id'(b:Blk):b.mapI id=b:=by
 cases b<;>simp only[Blk.mapI]
 rw[zdc id _ fun _ _=>rfl]
theorem qcx{P:Program}{F:Wf}{f:Nat}{args:Array Value}{w:World}{K:Act->World->Prop}{Q:Exit->Act->World->Prop}{o:Oper}{a:Act}{R:Ending->World->Prop}(h:Calls P f args w R)
 (hr:∀e w',R e w'->∃v,e=.returned v/\K (a.put o.dst v) w'):o.uponIn F.F 0 P a K Q (.ok (.enter f args) w):=by
 refine⟨F.ok.depth,F.ok.calls ((callsIn_wide.2 h).mono fun e w' he=>?_)⟩;obtain⟨v,rfl,hk⟩:=hr e w' he;exact hk
theorem zj4{P:Program}{F:Wf}{l f:Nat}{tmps:Array Value}{x y:Code}{w:World}{K:Act->World->Prop}{Q:Exit->Act->World->Prop}{o:Oper}{a:Act}{R:Ending->World->Prop}(h:RoundIn Fence.wide 0 P l f tmps x y w R)
 (hr:∀e w',R e w'->∃v,e=.returned v/\K (a.put o.dst v) w'):o.uponIn F.F 0 P a K Q (.ok (.round l f tmps x y) w):=by
 refine⟨F.ok.depth,?_⟩;have h':RoundIn F.F (0-1) P l f tmps x y w R:=by
  rcases F.ok with e|⟨l',e⟩<;>(rw[e];exact h)
 refine h'.mono fun e w' he=>?_
 obtain⟨v,rfl,hk⟩:=hr e w' he;exact hk
theorem zzn{T:Tab}(hlo:qn (vg o) 99999=true)(h:Rel c Y a w){cl:Call}{f:Operand}(ho:o.op=.call cl)(hcl:cl.callee=.value f)(he:qj T (CN P) (.call cl) (vg o) (zj Y.sl) (nd T o Y) (qf Y.hp (nd T o Y)) E):Snd P F T c o Y a w E:=by
 have hw:wr o.op=true:=by simp[wr,ho,hcl]
 have hlo':=q3 hlo;simp only[qj,hcl]at he;split at he
 .rename_i g caps hf;obtain⟨M0,pt0,ow0,S0,_,_,hr0⟩:=h.own;have hfv0:=za hr0 f;rw[hf]at hfv0;simp only[R]at hfv0;obtain⟨vcaps,hfv,_⟩:=hfv0;have hA:∀M pt ow,zgl Y a w M pt ow->Rs ⟨zu w M,pt,ow⟩ (zaf (zj Y.sl) cl.args.toList++caps) (cl.args.toList.map a.eval++vcaps.toList):=fun M pt ow hs=>by
   have hr:=(hs pt ow (Agr.refl _ _ _)).1;have hfv1:=za hr f;rw[hf]at hfv1;simp only[R]at hfv1;obtain⟨vc,hfv1,hcaps⟩:=hfv1;rw[hfv]at hfv1;simp at hfv1;subst hfv1;exact(zlj hr _).append hcaps
  have hrun:∀fn,P.funcs[g]? =some fn->fn.body.isNone=false->(fn.name== "runtime.NumGoroutine")=false->(execOp a.eval o).run P w=.ok (.enter g (cl.args.toList.map a.eval++vcaps.toList).toArray) w:=fun fn hfn hbody hname=>by
   have hprog:(program).run P w=.ok P w:=rfl;have e1:(cl.args.map a.eval++vcaps)=(cl.args.toList.map a.eval++vcaps.toList).toArray :=by
    apply Array.ext';simp
   simp only[execOp,ho,resolve,hcl,hfv,Deferred.ofValue,Sem.run_bind,Sem.run_pure,Result.andThen_ok,invoke,callFunc,hprog,hfn,hname,hbody,q6,if_false,Array.empty_append];rw[e1]
  have hsub:∀i∈jc (zaf (zj Y.sl) cl.args.toList++caps),i∈zcb Y.hp (zcb Y.hp (nub (glL T g (ul (zaf (zj Y.sl) cl.args.toList)++ul caps)))):=fun i hi=>by
   rw[zh8,q4]at hi;exact zeq (zeq ((zco _ _).2 (qfl (q4.2 (hi.imp (zbk _ _) (zbk _ _))))))
  split at he
  .rename_i hn;rw[wj]at he;obtain⟨bs',r,⟨⟨fn,hfn,hbody,hname⟩,hok⟩,he⟩:=he;have zfg:nd T o Y=zcb Y.hp (zcb Y.hp (nub (glL T g (ul (zaf (zj Y.sl) cl.args.toList)++ul caps)))):=by
    simp only[nd,ho,zas,hcl,hf,hn]
   rw[zfg]at he hok;split at he
   .rename_i hlen hrids hhids hnf hlt;refine⟨r,bs',he,fun Q=>⟨fun f _=>F.ok.fn f,?_⟩⟩;rw[zio (hrun fn hfn hbody hname) OC];obtain⟨M,pt,ow,S,hcore,hconts,hrs,hback⟩:=h.call o (n:=0) (d:=0) (I:=zcb Y.hp (zcb Y.hp (nub (glL T g (ul (zaf (zj Y.sl) cl.args.toList)++ul caps))))) (zbg _) (by simp[zk]) (zfs hlt) O (fun h=>absurd rfl h) O (by simp[zk]) hw _ _ hA hsub bs' [] r id (fun _ _=>rfl) (fun q hq=>O)
     hlen rfl (by simpa[zc7]using zay _ _ hrids) (by
      have:zn3 (ww (zcb Y.hp (zcb Y.hp (nub (glL T g (ul (zaf (zj Y.sl) cl.args.toList)++ul caps))))) bs') (ww (zc7 0 2000000) [])=ww (zcb Y.hp (zcb Y.hp (nub (glL T g (ul (zaf (zj Y.sl) cl.args.toList)++ul caps))))) bs':=zhe _;rw[this];simpa[zc7]using zay _ _ hhids) hnf rfl
    refine qcx (hok w M pt ow S _ hcore hconts hrs) fun e w' he=>?_
    have hx:=he;obtain⟨v,_,_,_,_,rfl,_⟩:=he;refine⟨v,rfl,?_⟩;have:=hback v w' (by
     have e2:zn3 (ww (zcb Y.hp (zcb Y.hp (nub (glL T g (ul (zaf (zj Y.sl) cl.args.toList)++ul caps))))) bs') (ww (zc7 0 2000000) [])=ww (zcb Y.hp (zcb Y.hp (nub (glL T g (ul (zaf (zj Y.sl) cl.args.toList)++ul caps))))) bs':=zhe _;rw[e2];exact hx)
    rw[AV.mapI_id id r fun _ _=>rfl]at this;rw[zfg];have e3:bs'.map (Blk.mapI id)=bs':=by
     rw[show Blk.mapI id=id from funext Blk.mapI_id'];simp
    simpa[zk,e3]using this
   .exact he.elim
  .rename_i n hn;rw[wj]at he;have zfg:nd T o Y=zk (n+1) (vg o)++zcb Y.hp (zcb Y.hp (nub (glL T g (ul (zaf (zj Y.sl) cl.args.toList)++ul caps)))):=by
    simp only[nd,ho,zas,hcl,hf,hn,zk,q5]
   unfold appN at he;rw[zfg]at he;obtain⟨hfree,he⟩:=znx _ _ _ _ _ he;rw[znv]at he;obtain⟨bs',nbs,r,⟨⟨fn,hfn,hbody,hname⟩,hok⟩,he⟩:=he;split at he
   .rename_i hlen hlen2 hrids hhids hnf hnf2 hdis hlt hn9 hnr;refine⟨_,_,he,fun Q=>⟨fun f _=>F.ok.fn f,?_⟩⟩;rw[zio (hrun fn hfn hbody hname) OC];rw[zx6]at hrids hhids;obtain⟨M,pt,ow,S,hcore,hconts,hrs,hback⟩:=h.call o (n:=n+1) (d:=vg o) (I:=zcb Y.hp (zcb Y.hp (nub (glL T g (ul (zaf (zj Y.sl) cl.args.toList)++ul caps))))) (zbg _) ((ue _ _).1 hdis) (zfs hlt) (q3 hn9) (fun _=>zm2 hnr) hlo' hfree hw _ _ hA hsub bs' nbs r (mvI (vg o))
     (fun i hi=>by
       have:=zfs hlt i hi;unfold mvI
       cases e:qn 2000000 i with
       |true=>have:=q3 e;omega
       |false=>rfl) (fun q hq=>by
       unfold mvI;have:qn 2000000 (2000000+q)=true:=Nat.ble_eq_true_of_le O;rw[this];simp only[];omega)
     hlen hlen2 (zay _ _ hrids) (zay _ _ hhids) hnf hnf2
    refine qcx (hok w M pt ow S _ hcore hconts hrs) fun e w' he=>?_
    have hx:=he;obtain⟨v,_,_,_,_,rfl,_⟩:=he;refine⟨v,rfl,?_⟩;have:=hback v w' hx;rw[zfg,zx7,zo1,zo1];exact this
   .exact he.elim
 .rename_i l hf;obtain⟨M0,pt0,ow0,S0,_,_,hr0⟩:=h.own;have hfv:=za hr0 f;rw[hf]at hfv;simp only[R]at hfv;have hA:∀M pt ow,zgl Y a w M pt ow->Rs ⟨zu w M,pt,ow⟩ (zaf (zj Y.sl) cl.args.toList) (cl.args.toList.map a.eval):=fun M pt ow hs=>zlj (hs pt ow (Agr.refl _ _ _)).1 _
  rw[wj]at he;obtain⟨bs',r,hok,he⟩:=he;have zfg:nd T o Y=nub (jh::jc (zaf (zj Y.sl) cl.args.toList)):=by
   simp only[nd,ho,zas,hcl,hf]
  rw[zfg]at he hok;split at he
  .rename_i hlen hrids hhids hnf hlt;have hsub:∀i∈jc (zaf (zj Y.sl) cl.args.toList),i∈nub (jh::jc (zaf (zj Y.sl) cl.args.toList)):=fun i hi=>(zco _ _).2 (by simp[hi])
   refine⟨r,bs',he,fun Q=>⟨fun f _=>F.ok.fn f,?_⟩⟩;have e2:zn3 (ww (nub (jh::jc (zaf (zj Y.sl) cl.args.toList))) bs') (ww (zc7 0 2000000) [])=ww (nub (jh::jc (zaf (zj Y.sl) cl.args.toList))) bs':=zhe _;obtain⟨M,pt,ow,S,hcore,hconts,hrs,hback⟩:=h.call o (n:=0) (d:=0) (I:=nub (jh::jc (zaf (zj Y.sl) cl.args.toList))) (zbg _) (by simp[zk]) (zfs hlt) O (fun h=>absurd rfl h) O (by simp[zk]) hw _ _ hA hsub bs' [] r id (fun _ _=>rfl) (fun q hq=>O)
    hlen rfl (by simpa[zc7]using zay _ _ hrids) (by rw[e2];simpa[zc7]using zay _ _ hhids) hnf rfl
   obtain⟨fn,tmps,x,y,hy,hround'⟩:=hok w M pt ow S _ hcore hconts hrs;have hrun:(execOp a.eval o).run P w=.ok (.round l fn tmps x y) w:=by
    have e1:cl.args.map a.eval=(cl.args.toList.map a.eval).toArray :=by apply Array.ext';simp
    simp only[execOp,ho,resolve,hcl,hfv,Deferred.ofValue,Sem.run_bind,Sem.run_pure,Result.andThen_ok,invoke,Array.empty_append];rw[e1];exact hy
   rw[zio hrun OC];refine zj4 hround' fun e w' he=>?_
   have hx:=he;obtain⟨v,_,_,_,_,rfl,_⟩:=he;refine⟨v,rfl,?_⟩;have:=hback v w' (by rw[e2];exact hx);rw[AV.mapI_id id r fun _ _=>rfl]at this;rw[zfg];have e3:bs'.map (Blk.mapI id)=bs':=by
    rw[show Blk.mapI id=id from funext Blk.mapI_id'];simp
   simpa[zk,e3]using this
  .exact he.elim
 .exact he.elim
theorem znu{T:Tab}(hT:TabOK P T)(hlo:qn (vg o) 99999=true)(h:Rel c Y a w)(he:qj T (CN P) o.op (vg o) (zj Y.sl) (nd T o Y) (qf Y.hp (nd T o Y)) E):Snd P F T c o Y a w E:=by
 cases ho:o.op with
 |move x=>rw[ho]at he;exact zp6 h (.inl ho) he
 |assign x=>rw[ho]at he;exact zp6 h (.inr ho) he
 |pick x y z=>rw[ho]at he;exact zzl h ho he
 |alloc t=>rw[ho]at he;exact zur hT hlo h ho he
 |box t x=>rw[ho]at he;exact qej hlo h ho he
 |build t ps=>rw[ho]at he;exact zup hT h ho he
 |buildSlice t n ps=>
  rw[ho]at he
  cases n with
  |zero=>exact zuo hT hlo h ho he
  |succ n=>exact zjb hT h ho he
 |makeSlice t l c=>rw[ho]at he;exact zsm hT hlo h ho he
 |load t x=>rw[ho]at he;exact zzm hT h ho he
 |store t x y=>rw[ho]at he;exact zuj hT h ho he
 |nilCheck x=>rw[ho]at he;exact zmi h ho he
 |binOp b t x y ty=>rw[ho]at he;exact zuq hT h ho he
 |unOp u t x=>rw[ho]at he;exact qiw h ho he
 |convert s d x=>rw[ho]at he;exact zom hT h ho he
 |makeFunc f x y=>rw[ho]at he;exact zmj h ho he
 |fieldAddr t x f=>rw[ho]at he;exact zkx hT h ho he
 |field t x f=>rw[ho]at he;exact zun hT h ho he
 |indexAddr t x i=>rw[ho]at he;exact zkw hT h ho he
 |index t x i=>rw[ho]at he;exact zum hT h ho he
 |extract x n=>rw[ho]at he;exact zol h ho he
 |call cl=>
  rw[ho]at he
  cases hc:cl.callee with
  |value f=>exact zzn hlo h ho hc he
  |builtin b=>
   cases b with
   |len=>exact qei hT h ho hc he fun x t ha ht hm hk=>zul hT h ho hc ha ht hm hk
   |append=>exact zsp hT hlo h ho hc he
   |max=>exact qeh h ho hc he
   |min=>exact qeg h ho hc he
   | _=>simp[qj,hc]at he
  |invoke r m=>simp[qj,hc]at he
 |makeMap t r=>rw[ho]at he;exact zok hT hlo h ho he
 |lookup t x i ok=>rw[ho]at he;exact zsn hT h ho he
 |mapUpdate t m k v=>rw[ho]at he;exact zkv hT h ho he
 |insert t m k v=>rw[ho]at he;exact zso hT h ho he
 |slice t x lo hi mx=>rw[ho]at he;exact zuk hT h ho he
 | _=>rw[ho]at he;simp[qj]at he
end
