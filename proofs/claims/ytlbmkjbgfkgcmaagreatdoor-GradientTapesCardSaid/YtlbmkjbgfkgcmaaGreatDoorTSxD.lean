/- A frame and a world that a state describes; how the description goes on when a slot, a block, a world turns. -/
import Derived.Test.YtlbmkjbgfkgcmaaGreatDoorTSxC
import Derived.Laws.AppendOwn
set_option linter.all false
open Iff renaming rfl->q0
open List renaming map_cons->q1,mem_cons->q2
namespace Go.Sx
open Go
def Blk.isFree:Blk->Bool
 |.free =>true
 | _=>false
theorem zd(a b:Nat):Nat.beq a b=true<->a=b:=⟨Nat.eq_of_beq_eq_true,fun h=>by subst h;exact Nat.beq_refl a⟩
theorem zt(a b:Nat):Nat.beq a b=false<->a≠b:=by
 rw[<-Bool.not_eq_true,zd]
def uh(h:Hp)(i:Nat):Prop:=i∈h.map (·.1)
theorem zf(a:Nat)(b:Blk)(r:Hp)(i:Nat):hget ((a,b)::r) i=if a=i then b else hget r i:=by
 simp only[hget];split
 .rename_i h;rw[Z6 ((zd _ _).1 h)]
 .rename_i h;rw[Z7 ((zt _ _).1 h)]
theorem ju(a:Nat)(b:Blk)(r:Hp)(i:Nat)(v:Blk):xo ((a,b)::r) i v=if a=i then(a,v)::r else(a,b)::xo r i v:=by
 simp only[xo];split
 .rename_i h;rw[Z6 ((zd _ _).1 h)]
 .rename_i h;rw[Z7 ((zt _ _).1 h)]
theorem zr{h:Hp}{i:Nat}(hg:hget h i≠ .dead):uh h i:=by
 induction h with
 |nil=>exact absurd rfl hg
 |cons x r ih=>
  obtain⟨a,b⟩:=x;rw[zf]at hg;by_cases e:a=i
  .simp[uh,e]
  .rw[Z7 e]at hg;have:=ih hg;simp only[uh,q1,q2];exact .inr this
theorem qb{h:Hp}{i:Nat}{v:Blk}(hk:uh h i):hget (xo h i v) i=v:=by
 induction h with
 |nil=>simp[uh]at hk
 |cons x r ih=>
  obtain⟨a,b⟩:=x;rw[ju];by_cases e:a=i
  .rw[Z6 e,zf,Z6 e]
  .rw[Z7 e,zf,Z7 e];refine ih ?_;simp only[uh,q1,q2]at hk;exact hk.resolve_left fun h=>e h.symm
theorem zx{h:Hp}{i j:Nat}{v:Blk}(hij:j≠i):hget (xo h i v) j=hget h j:=by
 induction h with
 |nil=>rfl
 |cons x r ih=>
  obtain⟨a,b⟩:=x;rw[ju];by_cases e:a=i
  .rw[Z6 e,zf,zf,Z7 O,Z7 O]
  .rw[Z7 e,zf,zf,ih]
theorem zf1{h:Hp}{i j:Nat}{v:Blk}:uh (xo h i v) j<->uh h j:=by
 induction h with
 |nil=>exact q0
 |cons x r ih=>
  obtain⟨a,b⟩:=x;rw[ju];by_cases e:a=i
  .rw[Z6 e];simp[uh]
  .rw[Z7 e];simp only[uh,q1,q2]at ih⊢;rw[ih]
mutual
theorem zg6:∀(a:AV)(k:AV->Prop),frc a k<->k a
 |.any,_=>q0
 |.bool _,_=>q0
 |.int _ _,_=>q0
 |.str _,_=>q0
 |.nilp,_=>q0
 |.ptr _ _,_=>q0
 |.rp _ _ _,_=>q0
 |.opt _ _ _ _,_=>q0
 |.ow _ _ _ _,_=>q0
 |.nilsl,_=>q0
 |.sl _ _,_=>q0
 |.own _,_=>q0
 |.agg l,k=>by simp only[frc];exact vf l _
 |.tup l,k=>by simp only[frc];exact vf l _
 |.fn f l,k=>by simp only[frc];exact vf l _
 |.nilf,_=>q0
 |.mp _,_=>q0
 |.nilm,_=>q0
 |.ub _ _,_=>q0
 |.cb _,_=>q0
 |.val _,_=>q0
theorem vf:∀(l:List AV)(k:List AV->Prop),zkd l k<->k l
 | [],_=>q0
 |a::l,k=>by simp only[zkd];rw[zg6,vf]
end
theorem zke(b:Blk)(k:Blk->Prop):qe8 b k<->k b:=by
 cases b<;>simp[qe8,vf]
theorem zg7:∀(l:List Blk)(k:List Blk->Prop),zty l k<->k l
 | [],_=>q0
 |a::l,k=>by simp only[zty];rw[zke,zg7]
theorem yc:∀(l:List Nat)(k:List Nat->Prop),zfj l k<->k l
 | [],_=>q0
 |a::l,k=>by simp only[zfj];rw[yc]
theorem um:∀(l:Hp)(k:Hp->Prop),ztx l k<->k l
 | [],_=>q0
 |(i,b)::l,k=>by simp only[ztx];rw[zke,um]
theorem zfs:∀(l:List AV)(i:Nat)(v:AV)(k:List AV->Prop),zyb l i v k<->k (l.set i v)
 | [],_,_,_=>by simp[zyb]
 | _::_,0,_,_=>by simp[zyb]
 |x::l,i+1,v,k=>by simp only[zyb];rw[zfs];simp
theorem zgx:∀(h:Hp)(i:Nat)(v:Blk)(k:Hp->Prop),zqq h i v k<->k (xo h i v)
 | [],_,_,_=>by simp[zqq,xo]
 |(a,b)::r,i,v,k=>by
  simp only[zqq,xo];split
  .exact q0
  .rw[zgx]
theorem zez:∀(is:List Nat)(bs:List Blk)(h:Hp)(k:Hp->Prop),zbb h is bs k<->k (qq h is bs)
 | [],_,_,_=>by simp[zbb,qq]
 | _::_,[],_,_=>by simp[zbb,qq]
 |i::is,b::bs,h,k=>by simp only[zbb,qq];rw[zgx,zez]
theorem zri:∀(T:List (Nat×TI))(t:Nat)(k:TI->Prop),tgL T t k->∃i,(t,i)∈T/\k i
 | [],_,_,h=>by simp[tgL]at h
 |(a,i)::r,t,k,h=>by
  simp only[tgL]at h;split at h
  .rename_i e;exact⟨i,by simp[(zd _ _).1 e],h⟩
  .obtain⟨j,hj,hk⟩:=zri r t k h;exact⟨j,by simp[hj],hk⟩
theorem qu(T:Tab)(t:Nat)(k:TI->Prop)(h:tgK T t k):∃i,(t,i)∈T.ty/\k i:=zri _ _ _ h
def nxt(o:Oper)(ids:List Nat)(Y:St)(r:AV)(bs:List Blk):St:=
 ⟨match o.dst with
  |some d=>Y.sl.set d r
  |none=>Y.sl,match wr o.op with
  |true=>qq Y.hp ids bs
  |false=>Y.hp⟩
theorem zaa(Y:St)(dst:Option Nat)(v:AV)(K:St->Prop):qag Y dst v K<->K ⟨match dst with
 |some d=>Y.sl.set d v
 |none=>Y.sl,Y.hp⟩:=by
 obtain⟨sl,hp⟩:=Y
 cases dst with
 |none=>exact q0
 |some d=>simp only[qag];exact zfs _ _ _ _
def nd(T:Tab)(o:Oper)(Y:St):List Nat:=xt T o.op (ve o) (zm Y.sl) Y.hp
theorem zlx(h:Hp)(l:List Nat)(K:List Nat->Prop):zw3 h l K<->K (zbf h l):=by
 unfold zw3;rw[yc,yc,yc];exact q0
theorem zle(T:Tab)(op:Op)(dst:Nat)(ρ:Operand->AV)(hp:Hp)(K:List Nat->Prop):zwi T op dst ρ hp K<->K (xt T op dst ρ hp):=by
 unfold zwi;split
 .rename_i c;split
  .rename_i f hc;split
   .rename_i g caps hf;rw[yc,yc,zlx,zlx];simp only[xt,hc,hf];split
    .exact q0
    .rw[yc]
   .exact yc _ _
  .exact yc _ _
 .exact yc _ _
theorem zme(T:Tab)(C:Con)(o:Oper)(Y:St)(K:St->Prop):
 zno T C o Y K<->Nat.ble (ve o) 99999=true/\qo T C o.op (ve o) (zm Y.sl) (nd T o Y) (qj Y.hp (nd T o Y)) fun r bs=>K (nxt o (nd T o Y) Y r bs):=by
 obtain⟨sl,hp⟩:=Y;have hd:∀k:Nat->Prop,dstK o k<->k (ve o):=fun k=>by
  unfold dstK ve;cases o.dst<;>exact q0
 simp only[zno,nd];rw[hd]
 cases e:Nat.ble (ve o) 99999 with
 |false=>simp
 |true=>
  simp only[true_and];rw[zle,zg7];refine iff_of_eq (congrArg (qo T C o.op (ve o) (zm sl) (xt T o.op (ve o) (zm sl) hp) (qj hp (xt T o.op (ve o) (zm sl) hp))) ?_)
  funext v bs
  rw[eq_iff_iff,zg6,zaa];unfold nxt
  cases wr o.op with
  |false=>exact q0
  |true=>simp only[zg7,zez];exact q0
structure Ctx where
 M0:Nat->Prop
 w0:World
 mine:Nat->Prop
 sm:Nat->Prop
 pt0:Nat->Option Nat
 ow0:Nat->Option Value
def zo(w:World)(M:Nat->Prop):kf:=fun b o=>¬M b/\w.heap[b]? =some o
def bl(pt:Nat->Option Nat)(ow:Nat->Option Value)(i:Nat):Option Nat:=
 match pt i with
 |some b=>some b
 |none=>match ow i with
  |some (.slice (some a) _ _)=>some a.block
  | _=>none
def zae(w:World)(V:kf)(e:TypeId)(k:Elt)(xs:List k.T)(h:Value):Prop:=
 (h=.slice none 0 0/\xs= [])\/∃b cap cs,h=.slice (some ⟨b,0,none⟩) xs.length cap/\w.heap[b]? =some (.cells cs e (0,0))/\xs.length<=cap/\cap<=maxLen/\
   cs.size=cap*k.size/\∀(i:Nat)(x:k.T),xs[i]? =some x->∀(j:Nat)(u:AV),(k.cells x)[j]? =some u->∃v,cs[i*k.size+j]? =some v/\Leaf V u v
def zbe:(k:Elt)->k.T->Value
 |.str,s=>.string ⟨s.toArray⟩
 |.int,n=>.int .i64 n
 |.op,o=>.agg #[.int .i64 o.k,.int .i64 o.a,.int .i64 o.b,.int .i64 o.n,.int .i64 o.c.n,.int .i64 o.c.d]
 | _,_=>.nilIface
def zcz(V:kf)(k:Elt)(x:k.T)(v:Value):Prop:=∃vs:List Value,vs.length=k.size/\v=(if k.size=1 then vs.headD undef else .agg vs.toArray)/\∀(j:Nat)(u:AV)(y:Value),(k.cells x)[j]? =some u->vs[j]? =some y->Leaf V u y
def wd(V:kf)(kk vk:Elt):List (kk.T×vk.T)->List MapEntry->Prop
 | [],[]=>True
 |(x,y)::m,e::es=>(e.key=zbe kk x/\zcz V vk y e.val)/\wd V kk vk m es
 | _,_=>False
def zxu(es:Array MapEntry)(clk:Nat):Prop:=clk=es.size/\∀(i:Nat)(e:MapEntry),es[i]? =some e->e.born=i
def zxv(V:kf)(kk vk:Elt)(m:List (kk.T×vk.T))(es:Array MapEntry)(clk:Nat):Prop:=wd V kk vk m es.toList/\zxu es clk
def zu3(J:GJ):Prop:=∀(S:Nat->Prop)(V V':kf)(w w':World),CLe V V'->(∀b o,S b->w.heap[b]? =some o->w'.heap[b]? =some o)->J S V w->J S V' w'
def uc(w:World)(V:kf)(pt:Nat->Option Nat)(ow:Nat->Option Value)(S:Nat->Prop)(i:Nat):Blk->Prop
 |.free =>True
 |.dead =>True
 |.cells _=>∃b cs T,pt i=some b/\w.heap[b]? =some (.cells cs T (0,0))
 |.buf e k xs=>∃h,ow i=some h/\zae w V e k xs h
 |.map kk vk m=>∃b es clk,pt i=some b/\w.heap[b]? =some (.map es clk)/\zxv V kk vk m es clk
 |.gst J=>i=qi/\zu3 J/\J S V w
def Blk.isPt:Blk->Bool
 |.cells _=>true
 |.map _ _ _=>true
 | _=>false
def Blk.isBuf:Blk->Bool
 |.buf _ _ _=>true
 | _=>false
structure Core(M:Nat->Prop)(pt:Nat->Option Nat)(ow:Nat->Option Value)(S:Nat->Prop)(hp:Hp)(w:World):Prop where
 fresh:∀b,M b->b<w.heap.size
 mt:∀i b,bl pt ow i=some b->M b
 inj:∀i j b,bl pt ow i=some b->bl pt ow j=some b->i=j
 gm:∀b,S b->M b
 gd:∀i b,bl pt ow i=some b->¬S b
 dpt:∀i b,pt i=some b->(hget hp i).isPt =true
 dow:∀i h,ow i=some h->(hget hp i).isBuf =true
 blk:∀i,uc w (zo w M) pt ow S i (hget hp i)
structure Good(c:Ctx)(M:Nat->Prop)(pt:Nat->Option Nat)(ow:Nat->Option Value)(S:Nat->Prop)(hp:Hp)(w:World):Prop extends Core M pt ow S hp w where
 os:w.os=c.w0.os
 tape:w.tape=c.w0.tape
 output:w.output=c.w0.output
 size:c.w0.heap.size<=w.heap.size
 keep:∀b,b<c.w0.heap.size->¬c.mine b->w.heap[b]? =c.w0.heap[b]?
 m0:∀b,c.M0 b->M b
 m1:∀b,c.M0 b->b<c.w0.heap.size
 loc:∀i b,bl pt ow i=some b->c.w0.heap.size<=b\/(c.mine b/\1000000<=i)
 gl:∀b,S b->c.w0.heap.size<=b\/(c.mine b/\c.sm b)
 farp:∀i b,1000000<=i->pt i=some b->c.pt0 i=some b
 farw:∀i h,1000000<=i->ow i=some h->c.ow0 i=some h\/(1500000<=i/\i<=1999998)
section
variable {M:Nat->Prop} {pt:Nat->Option Nat} {ow:Nat->Option Value} {S:Nat->Prop} {hp:Hp} {w:World}
theorem Core.cel(h:Core M pt ow S hp w)(i:Nat)(l:List AV)(hl:hget hp i=.cells l):∃b cs T,pt i=some b/\w.heap[b]? =some (.cells cs T (0,0)):=by
 have:=h.blk i;rw[hl]at this;exact this
theorem Core.buf(h:Core M pt ow S hp w)(i:Nat)(e:TypeId)(k:Elt)(xs:List k.T)(hl:hget hp i=.buf e k xs):∃h,ow i=some h/\zae w (zo w M) e k xs h:=by
 have:=h.blk i;rw[hl]at this;exact this
theorem Core.mpo(h:Core M pt ow S hp w)(i:Nat)(kk vk:Elt)(m:List (kk.T×vk.T))(hl:hget hp i=.map kk vk m):∃b es clk,pt i=some b/\w.heap[b]? =some (.map es clk)/\zxv (zo w M) kk vk m es clk:=by
 have:=h.blk i;rw[hl]at this;exact this
theorem Core.ptn(h:Core M pt ow S hp w){i:Nat}(hi:(hget hp i).isPt =false):pt i=none:=by
 cases e:pt i with
 |none=>rfl
 |some b=>rw[h.dpt i b e]at hi;cases hi
theorem Core.own(h:Core M pt ow S hp w){i:Nat}(hi:(hget hp i).isBuf =false):ow i=none:=by
 cases e:ow i with
 |none=>rfl
 |some b=>rw[h.dow i b e]at hi;cases hi
theorem Core.ptow(h:Core M pt ow S hp w){i:Nat}{x:Value}(hi:ow i=some x):pt i=none:=by
 have:=h.dow i x hi;refine h.ptn ?_;cases e:hget hp i<;>rw[e]at this<;>first|rfl|cases this
theorem Good.cel{c:Ctx}(h:Good c M pt ow S hp w)(i:Nat)(l:List AV)(hl:hget hp i=.cells l):∃b cs T,pt i=some b/\w.heap[b]? =some (.cells cs T (0,0)):=h.toCore.cel i l hl
theorem Good.buf{c:Ctx}(h:Good c M pt ow S hp w)(i:Nat)(e:TypeId)(k:Elt)(xs:List k.T)(hl:hget hp i=.buf e k xs):∃h,ow i=some h/\zae w (zo w M) e k xs h:=h.toCore.buf i e k xs hl
end
theorem zae.cmono{w w':World}{V V':kf}{e:TypeId}{k:Elt}{xs:List k.T}{h:Value}(hV:CLe V V')
 (hb:∀b cap cs,h=.slice (some ⟨b,0,none⟩) xs.length cap->w.heap[b]? =some (.cells cs e (0,0))->w'.heap[b]? =some (.cells cs e (0,0))) (hk:zae w V e k xs h):zae w' V' e k xs h:=by
 rcases hk with h1|⟨b,cap,cs,h1,h2,h3,h4,h5,h6⟩
 .exact .inl h1
 .refine .inr ⟨b,cap,cs,h1,hb b cap cs h1 h2,h3,h4,h5,fun i x hx j u hu=>?_⟩;obtain⟨v,hv,hl⟩:=h6 i x hx j u hu;exact⟨v,hv,hl.cmono hV⟩
theorem zae.mono{w w':World}{V V':kf}{e:TypeId}{k:Elt}{xs:List k.T}{h:Value}(hV:∀b o,V b o->V' b o)
 (hb:∀b cap cs,h=.slice (some ⟨b,0,none⟩) xs.length cap->w.heap[b]? =some (.cells cs e (0,0))->w'.heap[b]? =some (.cells cs e (0,0))) (hk:zae w V e k xs h):zae w' V' e k xs h:=hk.cmono (.of hV) hb
theorem zcz.cmono{V V':kf}{k:Elt}{x:k.T}{v:Value}(hV:CLe V V')(h:zcz V k x v):zcz V' k x v:=by
 obtain⟨vs,h1,h2,h3⟩:=h;exact⟨vs,h1,h2,fun j u y hu hy=>(h3 j u y hu hy).cmono hV⟩
theorem zcz.mono{V V':kf}{k:Elt}{x:k.T}{v:Value}(hV:∀b o,V b o->V' b o)(h:zcz V k x v):zcz V' k x v:=h.cmono (.of hV)
theorem wd.cmono{V V':kf}{kk vk:Elt}(hV:CLe V V'):∀ {m:List (kk.T×vk.T)}{es:List MapEntry},wd V kk vk m es->wd V' kk vk m es
 | [],[],h=>h
 | [],_::_,h=>by simp[wd]at h
 | _::_,[],h=>by simp[wd]at h
 |(x,y)::m,e::es,h=>by
  simp only[wd]at h⊢;exact⟨⟨h.1.1,h.1.2.cmono hV⟩,wd.cmono hV h.2⟩
theorem wd.mono{V V':kf}{kk vk:Elt}(hV:∀b o,V b o->V' b o){m:List (kk.T×vk.T)}{es:List MapEntry}(h:wd V kk vk m es):wd V' kk vk m es:=h.cmono (.of hV)
theorem zxv.cmono{V V':kf}{kk vk:Elt}(hV:CLe V V'){m:List (kk.T×vk.T)}{es:Array MapEntry}{clk:Nat}(h:zxv V kk vk m es clk):zxv V' kk vk m es clk:=⟨h.1.cmono hV,h.2⟩
theorem zxv.mono{V V':kf}{kk vk:Elt}(hV:∀b o,V b o->V' b o){m:List (kk.T×vk.T)}{es:Array MapEntry}{clk:Nat}(h:zxv V kk vk m es clk):zxv V' kk vk m es clk:=h.cmono (.of hV)
theorem uc.cmono{w w':World}{V V':kf}{pt pt':Nat->Option Nat}{ow ow':Nat->Option Value}{S:Nat->Prop}{i:Nat}{x:Blk}(hpt:pt' i=pt i)(how:ow' i=ow i)(hV:CLe V V')
 (hn:∀h,ow i=some h->pt i=none) (hb:∀b o,bl pt ow i=some b->w.heap[b]? =some o->w'.heap[b]? =some o) (hS:∀b o,S b->w.heap[b]? =some o->w'.heap[b]? =some o) (h:uc w V pt ow S i x):uc w' V' pt' ow' S i x:=by
 cases x with
 |free=>trivial
 |dead=>trivial
 |cells l=>
  obtain⟨b,cs,T,h1,h2⟩:=h;exact⟨b,cs,T,by rw[hpt];exact h1,hb b _ (by simp[bl,h1]) h2⟩
 |buf e k xs=>
  obtain⟨hd,h1,h2⟩:=h;exact⟨hd,by rw[how];exact h1,h2.cmono hV fun b cap cs hh hcs=>hb b _ (by simp[bl,hn _ h1,h1,hh]) hcs⟩
 |map kk vk m=>
  obtain⟨b,es,clk,h1,h2,h3⟩:=h;exact⟨b,es,clk,by rw[hpt];exact h1,hb b _ (by simp[bl,h1]) h2,h3.cmono hV⟩
 |gst J=>
  obtain⟨h1,h2,h3⟩:=h;exact⟨h1,h2,h2 S V V' w w' hV hS h3⟩
theorem uc.mono{w w':World}{V V':kf}{pt pt':Nat->Option Nat}{ow ow':Nat->Option Value}{S:Nat->Prop}{i:Nat}{x:Blk}(hpt:pt' i=pt i)(how:ow' i=ow i)(hV:∀b o,V b o->V' b o)
 (hn:∀h,ow i=some h->pt i=none) (hb:∀b o,bl pt ow i=some b->w.heap[b]? =some o->w'.heap[b]? =some o) (hS:∀b o,S b->w.heap[b]? =some o->w'.heap[b]? =some o) (h:uc w V pt ow S i x):uc w' V' pt' ow' S i x:=
 h.cmono hpt how (.of hV) hn hb hS
def Agr(hp:Hp)(pt pt':Nat->Option Nat)(ow ow':Nat->Option Value):Prop:=
 ∀i,(hget hp i).isFree =false->pt' i=pt i/\ow' i=ow i
def zdj(Y:St)(a:Act)(w:World)(M:Nat->Prop)(pt:Nat->Option Nat)(ow:Nat->Option Value):Prop:=
 ∀pt' ow',Agr Y.hp pt pt' ow ow'->Rs ⟨zo w M,pt',ow'⟩ Y.sl a.tmps.toList/\
  ∀i l b cs T,hget Y.hp i=.cells l->pt i=some b->w.heap[b]? =some (.cells cs T (0,0))->Rs ⟨zo w M,pt',ow'⟩ l cs.toList
def zd2(D:Nat):Deferred:= {target:=.collected D,args:= #[]}
def zq1(c:Ctx)(w:World)(M:Nat->Prop)(ds:List Deferred):Prop:=∃Ds:List Nat,ds=Ds.map zd2/\Ds.Nodup/\∀D∈Ds,c.w0.heap.size<=D/\zo w M D (.deferred (some []))
theorem zq1.mono{c:Ctx}{w w':World}{M M':Nat->Prop}{ds:List Deferred}(hV:∀b o,zo w M b o->zo w' M' b o)(h:zq1 c w M ds):zq1 c w' M' ds:=
 let ⟨Ds,h1,h2,h3⟩:=h;⟨Ds,h1,h2,fun D hD=>⟨(h3 D hD).1,hV _ _ (h3 D hD).2⟩⟩
theorem zq1.nil{c:Ctx}{w:World}{M:Nat->Prop}:zq1 c w M []:=⟨[],rfl,OC,fun _ h=>by cases h⟩
theorem uf(a:Act)(d:Option Nat)(v:Value):(a.put d v).defers =a.defers:=by unfold Act.put;split<;>rfl
def Rel(c:Ctx)(Y:St)(a:Act)(w:World):Prop:=
 ∃M pt ow S,Good c M pt ow S Y.hp w/\zdj Y a w M pt ow/\zq1 c w M a.defers
theorem Agr.refl(hp:Hp)(pt:Nat->Option Nat)(ow:Nat->Option Value):Agr hp pt pt ow ow:=fun _ _=>⟨rfl,rfl⟩
theorem zc{ρ:Env}{sl:List AV}{a:Act}(h:Rs ρ sl a.tmps.toList)(x:Operand):R ρ (zm sl x) (a.eval x):=by
 cases x with
 |tmp t=>
  simp only[zm,Act.eval]
  cases ht:sl[t]? with
  |none=>
   rw[List.getD_eq_getElem?_getD,ht];simp[R]
  |some u=>
   obtain⟨v,hv,hr⟩:=h.get ht;rw[List.getD_eq_getElem?_getD,ht];have:a.tmps[t]? =some v:=by simpa using hv
   simp[this,hr]
 |const v=>
  simp only[zm,Act.eval];unfold cAV;split<;>simp[R]
 |global g=>simp[zm,R]
 |func f=>simp[zm,Act.eval,R,Rs]
theorem zj4{ρ:Env}{sl:List AV}{a:Act}(h:Rs ρ sl a.tmps.toList):∀(l:List Operand),Rs ρ (xf (zm sl) l) (l.map a.eval)
 | []=>by simp[xf,Rs]
 |x::l=>by simp only[xf,q1,Rs];exact⟨zc h x,zj4 h l⟩
theorem ue(a:Act)(d:Nat)(v:Value):(a.put (some d) v).tmps.toList =a.tmps.toList.set d v:=by
 simp[Act.put]
theorem Rel.val{c:Ctx}{Y:St}{a:Act}{w:World}(h:Rel c Y a w)(o:Oper)(ids:List Nat)(bs:List Blk)(r:AV)(v:Value)(hw:wr o.op=false)
 (hv:∀M pt ow S,Good c M pt ow S Y.hp w->zdj Y a w M pt ow->∀pt' ow',Agr Y.hp pt pt' ow ow'->R ⟨zo w M,pt',ow'⟩ r v):Rel c (nxt o ids Y r bs) (a.put o.dst v) w:=by
 obtain⟨M,pt,ow,S,hg,hs,hd⟩:=h;refine⟨M,pt,ow,S,by simpa[nxt,hw]using hg,?_,by rw[uf];exact hd⟩;intro pt' ow' hag;have hag':Agr Y.hp pt pt' ow ow':=by simpa[nxt,hw]using hag
 obtain⟨h1,h2⟩:=hs pt' ow' hag';refine⟨?_,by simpa[nxt,hw]using h2⟩;simp only[nxt]
 cases o.dst with
 |none=>simpa[Act.put]using h1
 |some d=>
  rw[ue];exact h1.set (hv M pt ow S hg hs pt' ow' hag') d
