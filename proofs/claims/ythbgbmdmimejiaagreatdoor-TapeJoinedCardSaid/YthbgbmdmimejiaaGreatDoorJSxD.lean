/- A frame and a world that a state describes; how the description goes on when a slot, a block, a world turns. -/
import Derived.Test.YthbgbmdmimejiaaGreatDoorJSxC
import Derived.Laws.AppendOwn
set_option linter.all false
open Iff renaming rfl->q0
open List renaming map_cons->q1,mem_cons->q2
namespace Go.Sx
open Go
def Blk.isFree:Blk->Bool
 |.free =>true
 | _=>false
theorem zb(a b:Nat):Nat.beq a b=true<->a=b:=⟨Nat.eq_of_beq_eq_true,fun h=>by subst h;exact Nat.beq_refl a⟩
theorem zo(a b:Nat):Nat.beq a b=false<->a≠b:=by
 rw[<-Bool.not_eq_true,zb]
def wp(h:Hp)(i:Nat):Prop:=i∈h.map (·.1)
theorem ze(a:Nat)(b:Blk)(r:Hp)(i:Nat):hget ((a,b)::r) i=if a=i then b else hget r i:=by
 simp only[hget];split
 .rename_i h;rw[Z4 ((zb _ _).1 h)]
 .rename_i h;rw[Z5 ((zo _ _).1 h)]
theorem jn(a:Nat)(b:Blk)(r:Hp)(i:Nat)(v:Blk):zbz ((a,b)::r) i v=if a=i then(a,v)::r else(a,b)::zbz r i v:=by
 simp only[zbz];split
 .rename_i h;rw[Z4 ((zb _ _).1 h)]
 .rename_i h;rw[Z5 ((zo _ _).1 h)]
theorem zf{h:Hp}{i:Nat}(hg:hget h i≠ .dead):wp h i:=by
 induction h with
 |nil=>exact absurd rfl hg
 |cons x r ih=>
  obtain⟨a,b⟩:=x;rw[ze]at hg;by_cases e:a=i
  .simp[wp,e]
  .rw[Z5 e]at hg;have:=ih hg;simp only[wp,q1,q2];exact .inr this
theorem jd{h:Hp}{i:Nat}{v:Blk}(hk:wp h i):hget (zbz h i v) i=v:=by
 induction h with
 |nil=>simp[wp]at hk
 |cons x r ih=>
  obtain⟨a,b⟩:=x;rw[jn];by_cases e:a=i
  .rw[Z4 e,ze,Z4 e]
  .rw[Z5 e,ze,Z5 e];refine ih ?_;simp only[wp,q1,q2]at hk;exact hk.resolve_left fun h=>e h.symm
theorem wk{h:Hp}{i j:Nat}{v:Blk}(hij:j≠i):hget (zbz h i v) j=hget h j:=by
 induction h with
 |nil=>rfl
 |cons x r ih=>
  obtain⟨a,b⟩:=x;rw[jn];by_cases e:a=i
  .rw[Z4 e,ze,ze,Z5 O,Z5 O]
  .rw[Z5 e,ze,ze,ih]
theorem yb{h:Hp}{i j:Nat}{v:Blk}:wp (zbz h i v) j<->wp h j:=by
 induction h with
 |nil=>exact q0
 |cons x r ih=>
  obtain⟨a,b⟩:=x;rw[jn];by_cases e:a=i
  .rw[Z4 e];simp[wp]
  .rw[Z5 e];simp only[wp,q1,q2]at ih⊢;rw[ih]
mutual
theorem zch:∀(a:AV)(k:AV->Prop),frc a k<->k a
 |.any,_=>q0
 |.bool _,_=>q0
 |.int _ _,_=>q0
 |.str _,_=>q0
 |.nilp,_=>q0
 |.ptr _ _,_=>q0
 |.rp _ _ _,_=>q0
 |.opt _ _ _ _,_=>q0
 |.ow _ _ _ _,_=>q0
 |.nilsl,_=>q0
 |.sl _ _,_=>q0
 |.own _,_=>q0
 |.agg l,k=>by simp only[frc];exact qk l _
 |.tup l,k=>by simp only[frc];exact qk l _
 |.fn f l,k=>by simp only[frc];exact qk l _
 |.nilf,_=>q0
 |.mp _,_=>q0
 |.nilm,_=>q0
 |.ub _ _,_=>q0
 |.cb _,_=>q0
 |.val _,_=>q0
theorem qk:∀(l:List AV)(k:List AV->Prop),zgq l k<->k l
 | [],_=>q0
 |a::l,k=>by simp only[zgq];rw[zch,qk]
end
theorem zi0(b:Blk)(k:Blk->Prop):qd7 b k<->k b:=by
 cases b<;>simp[qd7,qk]
theorem zdg:∀(l:List Blk)(k:List Blk->Prop),zp1 l k<->k l
 | [],_=>q0
 |a::l,k=>by simp only[zp1];rw[zi0,zdg]
theorem ui:∀(l:List Nat)(k:List Nat->Prop),zef l k<->k l
 | [],_=>q0
 |a::l,k=>by simp only[zef];rw[ui]
theorem wl:∀(l:Hp)(k:Hp->Prop),zla l k<->k l
 | [],_=>q0
 |(i,b)::l,k=>by simp only[zla];rw[zi0,wl]
theorem zcv:∀(l:List AV)(i:Nat)(v:AV)(k:List AV->Prop),zxf l i v k<->k (l.set i v)
 | [],_,_,_=>by simp[zxf]
 | _::_,0,_,_=>by simp[zxf]
 |x::l,i+1,v,k=>by simp only[zxf];rw[zcv];simp
theorem zfv:∀(h:Hp)(i:Nat)(v:Blk)(k:Hp->Prop),zp0 h i v k<->k (zbz h i v)
 | [],_,_,_=>by simp[zp0,zbz]
 |(a,b)::r,i,v,k=>by
  simp only[zp0,zbz];split
  .exact q0
  .rw[zfv]
theorem zbt:∀(is:List Nat)(bs:List Blk)(h:Hp)(k:Hp->Prop),zab h is bs k<->k (zu h is bs)
 | [],_,_,_=>by simp[zab,zu]
 | _::_,[],_,_=>by simp[zab,zu]
 |i::is,b::bs,h,k=>by simp only[zab,zu];rw[zfv,zbt]
theorem zqu:∀(T:List (Nat×TI))(t:Nat)(k:TI->Prop),tgL T t k->∃i,(t,i)∈T/\k i
 | [],_,_,h=>by simp[tgL]at h
 |(a,i)::r,t,k,h=>by
  simp only[tgL]at h;split at h
  .rename_i e;exact⟨i,by simp[(zb _ _).1 e],h⟩
  .obtain⟨j,hj,hk⟩:=zqu r t k h;exact⟨j,by simp[hj],hk⟩
theorem qq(T:Tab)(t:Nat)(k:TI->Prop)(h:tgK T t k):∃i,(t,i)∈T.ty/\k i:=zqu _ _ _ h
def nxt(o:Oper)(ids:List Nat)(Y:St)(r:AV)(bs:List Blk):St:=
 ⟨match o.dst with
  |some d=>Y.sl.set d r
  |none=>Y.sl,match wr o.op with
  |true=>zu Y.hp ids bs
  |false=>Y.hp⟩
theorem uy(Y:St)(dst:Option Nat)(v:AV)(K:St->Prop):zxk Y dst v K<->K ⟨match dst with
 |some d=>Y.sl.set d v
 |none=>Y.sl,Y.hp⟩:=by
 obtain⟨sl,hp⟩:=Y
 cases dst with
 |none=>exact q0
 |some d=>simp only[zxk];exact zcv _ _ _ _
def nd(T:Tab)(o:Oper)(Y:St):List Nat:=yz T o.op (qw o) (zg Y.sl) Y.hp
theorem zkj(h:Hp)(l:List Nat)(K:List Nat->Prop):zv7 h l K<->K (grow h l):=by
 unfold zv7;rw[ui,ui,ui];exact q0
theorem zj3(T:Tab)(op:Op)(dst:Nat)(ρ:Operand->AV)(hp:Hp)(K:List Nat->Prop):zvq T op dst ρ hp K<->K (yz T op dst ρ hp):=by
 unfold zvq;split
 .rename_i c;split
  .rename_i f hc;split
   .rename_i g caps hf;rw[ui,ui,zkj,zkj];simp only[yz,hc,hf];split
    .exact q0
    .rw[ui]
   .exact ui _ _
  .exact ui _ _
 .exact ui _ _
theorem zkz(T:Tab)(C:Con)(o:Oper)(Y:St)(K:St->Prop):
 zmj T C o Y K<->Nat.ble (qw o) 99999=true/\ql T C o.op (qw o) (zg Y.sl) (nd T o Y) (zw Y.hp (nd T o Y)) fun r bs=>K (nxt o (nd T o Y) Y r bs):=by
 obtain⟨sl,hp⟩:=Y;have hd:∀k:Nat->Prop,dstK o k<->k (qw o):=fun k=>by
  unfold dstK qw;cases o.dst<;>exact q0
 simp only[zmj,nd];rw[hd]
 cases e:Nat.ble (qw o) 99999 with
 |false=>simp
 |true=>
  simp only[true_and];rw[zj3,zdg];refine iff_of_eq (congrArg (ql T C o.op (qw o) (zg sl) (yz T o.op (qw o) (zg sl) hp) (zw hp (yz T o.op (qw o) (zg sl) hp))) ?_)
  funext v bs
  rw[eq_iff_iff,zch,uy];unfold nxt
  cases wr o.op with
  |false=>exact q0
  |true=>simp only[zdg,zbt];exact q0
structure Ctx where
 M0:Nat->Prop
 w0:World
 mine:Nat->Prop
 sm:Nat->Prop
 pt0:Nat->Option Nat
 ow0:Nat->Option Value
def zj(w:World)(M:Nat->Prop):jp:=fun b o=>¬M b/\w.heap[b]? =some o
def bl(pt:Nat->Option Nat)(ow:Nat->Option Value)(i:Nat):Option Nat:=
 match pt i with
 |some b=>some b
 |none=>match ow i with
  |some (.slice (some a) _ _)=>some a.block
  | _=>none
def zao(w:World)(V:jp)(e:TypeId)(k:Elt)(xs:List k.T)(h:Value):Prop:=
 (h=.slice none 0 0/\xs= [])\/∃b cap cs,h=.slice (some ⟨b,0,none⟩) xs.length cap/\w.heap[b]? =some (.cells cs e (0,0))/\xs.length<=cap/\cap<=maxLen/\
   cs.size=cap*k.size/\∀(i:Nat)(x:k.T),xs[i]? =some x->∀(j:Nat)(u:AV),(k.cells x)[j]? =some u->∃v,cs[i*k.size+j]? =some v/\Leaf V u v
def zaw:(k:Elt)->k.T->Value
 |.str,s=>.string ⟨s.toArray⟩
 |.int,n=>.int .i64 n
 |.op,o=>.agg #[.int .i64 o.k,.int .i64 o.a,.int .i64 o.b,.int .i64 o.n,.int .i64 o.c.n,.int .i64 o.c.d]
 | _,_=>.nilIface
def zb1(V:jp)(k:Elt)(x:k.T)(v:Value):Prop:=∃vs:List Value,vs.length=k.size/\v=(if k.size=1 then vs.headD undef else .agg vs.toArray)/\∀(j:Nat)(u:AV)(y:Value),(k.cells x)[j]? =some u->vs[j]? =some y->Leaf V u y
def vw(V:jp)(kk vk:Elt):List (kk.T×vk.T)->List MapEntry->Prop
 | [],[]=>True
 |(x,y)::m,e::es=>(e.key=zaw kk x/\zb1 V vk y e.val)/\vw V kk vk m es
 | _,_=>False
def zwx(es:Array MapEntry)(clk:Nat):Prop:=clk=es.size/\∀(i:Nat)(e:MapEntry),es[i]? =some e->e.born=i
def zuu(V:jp)(kk vk:Elt)(m:List (kk.T×vk.T))(es:Array MapEntry)(clk:Nat):Prop:=vw V kk vk m es.toList/\zwx es clk
def qfd(J:GJ):Prop:=∀(S:Nat->Prop)(V V':jp)(w w':World),CLe V V'->(∀b o,S b->w.heap[b]? =some o->w'.heap[b]? =some o)->J S V w->J S V' w'
def uu(w:World)(V:jp)(pt:Nat->Option Nat)(ow:Nat->Option Value)(S:Nat->Prop)(i:Nat):Blk->Prop
 |.free =>True
 |.dead =>True
 |.cells _=>∃b cs T,pt i=some b/\w.heap[b]? =some (.cells cs T (0,0))
 |.buf e k xs=>∃h,ow i=some h/\zao w V e k xs h
 |.map kk vk m=>∃b es clk,pt i=some b/\w.heap[b]? =some (.map es clk)/\zuu V kk vk m es clk
 |.gst J=>i=qc/\qfd J/\J S V w
def Blk.isPt:Blk->Bool
 |.cells _=>true
 |.map _ _ _=>true
 | _=>false
def Blk.isBuf:Blk->Bool
 |.buf _ _ _=>true
 | _=>false
structure Core(M:Nat->Prop)(pt:Nat->Option Nat)(ow:Nat->Option Value)(S:Nat->Prop)(hp:Hp)(w:World):Prop where
 fresh:∀b,M b->b<w.heap.size
 mt:∀i b,bl pt ow i=some b->M b
 inj:∀i j b,bl pt ow i=some b->bl pt ow j=some b->i=j
 gm:∀b,S b->M b
 gd:∀i b,bl pt ow i=some b->¬S b
 dpt:∀i b,pt i=some b->(hget hp i).isPt =true
 dow:∀i h,ow i=some h->(hget hp i).isBuf =true
 blk:∀i,uu w (zj w M) pt ow S i (hget hp i)
structure Good(c:Ctx)(M:Nat->Prop)(pt:Nat->Option Nat)(ow:Nat->Option Value)(S:Nat->Prop)(hp:Hp)(w:World):Prop extends Core M pt ow S hp w where
 os:w.os=c.w0.os
 tape:w.tape=c.w0.tape
 output:w.output=c.w0.output
 size:c.w0.heap.size<=w.heap.size
 keep:∀b,b<c.w0.heap.size->¬c.mine b->w.heap[b]? =c.w0.heap[b]?
 m0:∀b,c.M0 b->M b
 m1:∀b,c.M0 b->b<c.w0.heap.size
 loc:∀i b,bl pt ow i=some b->c.w0.heap.size<=b\/(c.mine b/\1000000<=i)
 gl:∀b,S b->c.w0.heap.size<=b\/(c.mine b/\c.sm b)
 farp:∀i b,1000000<=i->pt i=some b->c.pt0 i=some b
 farw:∀i h,1000000<=i->ow i=some h->c.ow0 i=some h\/(1500000<=i/\i<=1999998)
section
variable {M:Nat->Prop} {pt:Nat->Option Nat} {ow:Nat->Option Value} {S:Nat->Prop} {hp:Hp} {w:World}
theorem Core.cel(h:Core M pt ow S hp w)(i:Nat)(l:List AV)(hl:hget hp i=.cells l):∃b cs T,pt i=some b/\w.heap[b]? =some (.cells cs T (0,0)):=by
 have:=h.blk i;rw[hl]at this;exact this
theorem Core.buf(h:Core M pt ow S hp w)(i:Nat)(e:TypeId)(k:Elt)(xs:List k.T)(hl:hget hp i=.buf e k xs):∃h,ow i=some h/\zao w (zj w M) e k xs h:=by
 have:=h.blk i;rw[hl]at this;exact this
theorem Core.mpo(h:Core M pt ow S hp w)(i:Nat)(kk vk:Elt)(m:List (kk.T×vk.T))(hl:hget hp i=.map kk vk m):∃b es clk,pt i=some b/\w.heap[b]? =some (.map es clk)/\zuu (zj w M) kk vk m es clk:=by
 have:=h.blk i;rw[hl]at this;exact this
theorem Core.ptn(h:Core M pt ow S hp w){i:Nat}(hi:(hget hp i).isPt =false):pt i=none:=by
 cases e:pt i with
 |none=>rfl
 |some b=>rw[h.dpt i b e]at hi;cases hi
theorem Core.own(h:Core M pt ow S hp w){i:Nat}(hi:(hget hp i).isBuf =false):ow i=none:=by
 cases e:ow i with
 |none=>rfl
 |some b=>rw[h.dow i b e]at hi;cases hi
theorem Core.ptow(h:Core M pt ow S hp w){i:Nat}{x:Value}(hi:ow i=some x):pt i=none:=by
 have:=h.dow i x hi;refine h.ptn ?_;cases e:hget hp i<;>rw[e]at this<;>first|rfl|cases this
theorem Good.cel{c:Ctx}(h:Good c M pt ow S hp w)(i:Nat)(l:List AV)(hl:hget hp i=.cells l):∃b cs T,pt i=some b/\w.heap[b]? =some (.cells cs T (0,0)):=h.toCore.cel i l hl
theorem Good.buf{c:Ctx}(h:Good c M pt ow S hp w)(i:Nat)(e:TypeId)(k:Elt)(xs:List k.T)(hl:hget hp i=.buf e k xs):∃h,ow i=some h/\zao w (zj w M) e k xs h:=h.toCore.buf i e k xs hl
end
theorem zao.cmono{w w':World}{V V':jp}{e:TypeId}{k:Elt}{xs:List k.T}{h:Value}(hV:CLe V V')
 (hb:∀b cap cs,h=.slice (some ⟨b,0,none⟩) xs.length cap->w.heap[b]? =some (.cells cs e (0,0))->w'.heap[b]? =some (.cells cs e (0,0))) (hk:zao w V e k xs h):zao w' V' e k xs h:=by
 rcases hk with h1|⟨b,cap,cs,h1,h2,h3,h4,h5,h6⟩
 .exact .inl h1
 .refine .inr ⟨b,cap,cs,h1,hb b cap cs h1 h2,h3,h4,h5,fun i x hx j u hu=>?_⟩;obtain⟨v,hv,hl⟩:=h6 i x hx j u hu;exact⟨v,hv,hl.cmono hV⟩
theorem zao.mono{w w':World}{V V':jp}{e:TypeId}{k:Elt}{xs:List k.T}{h:Value}(hV:∀b o,V b o->V' b o)
 (hb:∀b cap cs,h=.slice (some ⟨b,0,none⟩) xs.length cap->w.heap[b]? =some (.cells cs e (0,0))->w'.heap[b]? =some (.cells cs e (0,0))) (hk:zao w V e k xs h):zao w' V' e k xs h:=hk.cmono (.of hV) hb
theorem zb1.cmono{V V':jp}{k:Elt}{x:k.T}{v:Value}(hV:CLe V V')(h:zb1 V k x v):zb1 V' k x v:=by
 obtain⟨vs,h1,h2,h3⟩:=h;exact⟨vs,h1,h2,fun j u y hu hy=>(h3 j u y hu hy).cmono hV⟩
theorem zb1.mono{V V':jp}{k:Elt}{x:k.T}{v:Value}(hV:∀b o,V b o->V' b o)(h:zb1 V k x v):zb1 V' k x v:=h.cmono (.of hV)
theorem vw.cmono{V V':jp}{kk vk:Elt}(hV:CLe V V'):∀ {m:List (kk.T×vk.T)}{es:List MapEntry},vw V kk vk m es->vw V' kk vk m es
 | [],[],h=>h
 | [],_::_,h=>by simp[vw]at h
 | _::_,[],h=>by simp[vw]at h
 |(x,y)::m,e::es,h=>by
  simp only[vw]at h⊢;exact⟨⟨h.1.1,h.1.2.cmono hV⟩,vw.cmono hV h.2⟩
theorem vw.mono{V V':jp}{kk vk:Elt}(hV:∀b o,V b o->V' b o){m:List (kk.T×vk.T)}{es:List MapEntry}(h:vw V kk vk m es):vw V' kk vk m es:=h.cmono (.of hV)
theorem zuu.cmono{V V':jp}{kk vk:Elt}(hV:CLe V V'){m:List (kk.T×vk.T)}{es:Array MapEntry}{clk:Nat}(h:zuu V kk vk m es clk):zuu V' kk vk m es clk:=⟨h.1.cmono hV,h.2⟩
theorem zuu.mono{V V':jp}{kk vk:Elt}(hV:∀b o,V b o->V' b o){m:List (kk.T×vk.T)}{es:Array MapEntry}{clk:Nat}(h:zuu V kk vk m es clk):zuu V' kk vk m es clk:=h.cmono (.of hV)
theorem uu.cmono{w w':World}{V V':jp}{pt pt':Nat->Option Nat}{ow ow':Nat->Option Value}{S:Nat->Prop}{i:Nat}{x:Blk}(hpt:pt' i=pt i)(how:ow' i=ow i)(hV:CLe V V')
 (hn:∀h,ow i=some h->pt i=none) (hb:∀b o,bl pt ow i=some b->w.heap[b]? =some o->w'.heap[b]? =some o) (hS:∀b o,S b->w.heap[b]? =some o->w'.heap[b]? =some o) (h:uu w V pt ow S i x):uu w' V' pt' ow' S i x:=by
 cases x with
 |free=>trivial
 |dead=>trivial
 |cells l=>
  obtain⟨b,cs,T,h1,h2⟩:=h;exact⟨b,cs,T,by rw[hpt];exact h1,hb b _ (by simp[bl,h1]) h2⟩
 |buf e k xs=>
  obtain⟨hd,h1,h2⟩:=h;exact⟨hd,by rw[how];exact h1,h2.cmono hV fun b cap cs hh hcs=>hb b _ (by simp[bl,hn _ h1,h1,hh]) hcs⟩
 |map kk vk m=>
  obtain⟨b,es,clk,h1,h2,h3⟩:=h;exact⟨b,es,clk,by rw[hpt];exact h1,hb b _ (by simp[bl,h1]) h2,h3.cmono hV⟩
 |gst J=>
  obtain⟨h1,h2,h3⟩:=h;exact⟨h1,h2,h2 S V V' w w' hV hS h3⟩
theorem uu.mono{w w':World}{V V':jp}{pt pt':Nat->Option Nat}{ow ow':Nat->Option Value}{S:Nat->Prop}{i:Nat}{x:Blk}(hpt:pt' i=pt i)(how:ow' i=ow i)(hV:∀b o,V b o->V' b o)
 (hn:∀h,ow i=some h->pt i=none) (hb:∀b o,bl pt ow i=some b->w.heap[b]? =some o->w'.heap[b]? =some o) (hS:∀b o,S b->w.heap[b]? =some o->w'.heap[b]? =some o) (h:uu w V pt ow S i x):uu w' V' pt' ow' S i x:=
 h.cmono hpt how (.of hV) hn hb hS
def Agr(hp:Hp)(pt pt':Nat->Option Nat)(ow ow':Nat->Option Value):Prop:=
 ∀i,(hget hp i).isFree =false->pt' i=pt i/\ow' i=ow i
def zdq(Y:St)(a:Act)(w:World)(M:Nat->Prop)(pt:Nat->Option Nat)(ow:Nat->Option Value):Prop:=
 ∀pt' ow',Agr Y.hp pt pt' ow ow'->Rs ⟨zj w M,pt',ow'⟩ Y.sl a.tmps.toList/\
  ∀i l b cs T,hget Y.hp i=.cells l->pt i=some b->w.heap[b]? =some (.cells cs T (0,0))->Rs ⟨zj w M,pt',ow'⟩ l cs.toList
def za2(D:Nat):Deferred:= {target:=.collected D,args:= #[]}
def zqa(c:Ctx)(w:World)(M:Nat->Prop)(ds:List Deferred):Prop:=∃Ds:List Nat,ds=Ds.map za2/\Ds.Nodup/\∀D∈Ds,c.w0.heap.size<=D/\zj w M D (.deferred (some []))
theorem zqa.mono{c:Ctx}{w w':World}{M M':Nat->Prop}{ds:List Deferred}(hV:∀b o,zj w M b o->zj w' M' b o)(h:zqa c w M ds):zqa c w' M' ds:=
 let ⟨Ds,h1,h2,h3⟩:=h;⟨Ds,h1,h2,fun D hD=>⟨(h3 D hD).1,hV _ _ (h3 D hD).2⟩⟩
theorem zqa.nil{c:Ctx}{w:World}{M:Nat->Prop}:zqa c w M []:=⟨[],rfl,OC,fun _ h=>by cases h⟩
theorem kg(a:Act)(d:Option Nat)(v:Value):(a.put d v).defers =a.defers:=by unfold Act.put;split<;>rfl
def Rel(c:Ctx)(Y:St)(a:Act)(w:World):Prop:=
 ∃M pt ow S,Good c M pt ow S Y.hp w/\zdq Y a w M pt ow/\zqa c w M a.defers
theorem Agr.refl(hp:Hp)(pt:Nat->Option Nat)(ow:Nat->Option Value):Agr hp pt pt ow ow:=fun _ _=>⟨rfl,rfl⟩
theorem zc{ρ:Env}{sl:List AV}{a:Act}(h:Rs ρ sl a.tmps.toList)(x:Operand):R ρ (zg sl x) (a.eval x):=by
 cases x with
 |tmp t=>
  simp only[zg,Act.eval]
  cases ht:sl[t]? with
  |none=>
   rw[List.getD_eq_getElem?_getD,ht];simp[R]
  |some u=>
   obtain⟨v,hv,hr⟩:=h.get ht;rw[List.getD_eq_getElem?_getD,ht];have:a.tmps[t]? =some v:=by simpa using hv
   simp[this,hr]
 |const v=>
  simp only[zg,Act.eval];unfold cAV;split<;>simp[R]
 |global g=>simp[zg,R]
 |func f=>simp[zg,Act.eval,R,Rs]
theorem zfp{ρ:Env}{sl:List AV}{a:Act}(h:Rs ρ sl a.tmps.toList):∀(l:List Operand),Rs ρ (um (zg sl) l) (l.map a.eval)
 | []=>by simp[um,Rs]
 |x::l=>by simp only[um,q1,Rs];exact⟨zc h x,zfp h l⟩
theorem kf(a:Act)(d:Nat)(v:Value):(a.put (some d) v).tmps.toList =a.tmps.toList.set d v:=by
 simp[Act.put]
theorem Rel.val{c:Ctx}{Y:St}{a:Act}{w:World}(h:Rel c Y a w)(o:Oper)(ids:List Nat)(bs:List Blk)(r:AV)(v:Value)(hw:wr o.op=false)
 (hv:∀M pt ow S,Good c M pt ow S Y.hp w->zdq Y a w M pt ow->∀pt' ow',Agr Y.hp pt pt' ow ow'->R ⟨zj w M,pt',ow'⟩ r v):Rel c (nxt o ids Y r bs) (a.put o.dst v) w:=by
 obtain⟨M,pt,ow,S,hg,hs,hd⟩:=h;refine⟨M,pt,ow,S,by simpa[nxt,hw]using hg,?_,by rw[kg];exact hd⟩;intro pt' ow' hag;have hag':Agr Y.hp pt pt' ow ow':=by simpa[nxt,hw]using hag
 obtain⟨h1,h2⟩:=hs pt' ow' hag';refine⟨?_,by simpa[nxt,hw]using h2⟩;simp only[nxt]
 cases o.dst with
 |none=>simpa[Act.put]using h1
 |some d=>
  rw[kf];exact h1.set (hv M pt ow S hg hs pt' ow' hag') d
