/-
  A frame and a world that a state describes; how the description goes on when a slot, a block, a world turns.
-/
import Derived.Test.YtbolipecnhlnnaaGreatDoorQSxC
import Derived.Laws.AppendOwn
set_option linter.unusedVariables false
set_option linter.unusedSimpArgs false
open Iff renaming rfl->q2
open List renaming map_cons->q3,mem_cons->q4
namespace Go.Sx
open Go
def Blk.isFree:Blk->Bool
 | .free =>true
 | _=>false
theorem zb (a b:Nat):Nat.beq a b=true<->a=b:=⟨Nat.eq_of_beq_eq_true,fun h=>by subst h;exact Nat.beq_refl a⟩
theorem zo (a b:Nat):Nat.beq a b=false<->a≠b:=by
 rw[←Bool.not_eq_true,zb]
def ug (h:Hp) (i:Nat):Prop:=i∈h.map (·.1)
theorem zd (a:Nat) (b:Blk) (r:Hp) (i:Nat):hget ((a,b)::r) i=if a=i then b else hget r i:=by
 simp only[hget];split
 ·rename_i h;rw[if_pos ((zb _ _).1 h)]
 ·rename_i h;rw[if_neg ((zo _ _).1 h)]
theorem jg (a:Nat) (b:Blk) (r:Hp) (i:Nat) (v:Blk):zba ((a,b)::r) i v=if a=i then(a,v)::r else(a,b)::zba r i v:=by
 simp only[zba];split
 ·rename_i h;rw[if_pos ((zb _ _).1 h)]
 ·rename_i h;rw[if_neg ((zo _ _).1 h)]
theorem zn {h:Hp} {i:Nat} (hg:hget h i≠ .dead):ug h i:=by
 induction h with
 |nil=>exact absurd rfl hg
 |cons x r ih=>
  obtain⟨a,b⟩:=x;rw[zd]at hg;by_cases e:a=i
  ·simp[ug,e]
  ·rw[if_neg e]at hg;have:=ih hg;simp only[ug,q3,q4];exact .inr this
theorem qg {h:Hp} {i:Nat} {v:Blk} (hk:ug h i):hget (zba h i v) i=v:=by
 induction h with
 |nil=>simp[ug]at hk
 |cons x r ih=>
  obtain⟨a,b⟩:=x;rw[jg];by_cases e:a=i
  ·rw[if_pos e,zd,if_pos e]
  ·rw[if_neg e,zd,if_neg e];refine ih ?_;simp only[ug,q3,q4]at hk;exact hk.resolve_left fun h=>e h.symm
theorem zt {h:Hp} {i j:Nat} {v:Blk} (hij:j≠i):hget (zba h i v) j=hget h j:=by
 induction h with
 |nil=>rfl
 |cons x r ih=>
  obtain⟨a,b⟩:=x;rw[jg];by_cases e:a=i
  ·rw[if_pos e,zd,zd,if_neg (by omega),if_neg (by omega)]
  ·rw[if_neg e,zd,zd,ih]
theorem zf0 {h:Hp} {i j:Nat} {v:Blk}:ug (zba h i v) j<->ug h j:=by
 induction h with
 |nil=>exact q2
 |cons x r ih=>
  obtain⟨a,b⟩:=x;rw[jg];by_cases e:a=i
  ·rw[if_pos e];simp[ug]
  ·rw[if_neg e];simp only[ug,q3,q4]at ih⊢;rw[ih]
mutual
theorem zg2: ∀(a:AV) (k:AV->Prop),frc a k<->k a
 | .any,_=>q2
 | .bool _,_=>q2
 | .int _ _,_=>q2
 | .str _,_=>q2
 | .nilp,_=>q2
 | .ptr _ _,_=>q2
 | .rp _ _ _,_=>q2
 | .opt _ _ _ _,_=>q2
 | .ow _ _ _ _,_=>q2
 | .nilsl,_=>q2
 | .sl _ _,_=>q2
 | .own _,_=>q2
 | .agg l,k=>by simp only[frc];exact qv l _
 | .tup l,k=>by simp only[frc];exact qv l _
 | .fn f l,k=>by simp only[frc];exact qv l _
 | .nilf,_=>q2
 | .mp _,_=>q2
 | .nilm,_=>q2
 | .ub _ _,_=>q2
 | .cb _,_=>q2
 | .val _,_=>q2
theorem qv: ∀(l:List AV) (k:List AV->Prop),zis l k<->k l
 | [],_=>q2
 |a::l,k=>by simp only[zis];rw[zg2,qv]
end
theorem zj7 (b:Blk) (k:Blk->Prop):qfw b k<->k b:=by
 cases b<;>simp[qfw,qv]
theorem zg3: ∀(l:List Blk) (k:List Blk->Prop),ztv l k<->k l
 | [],_=>q2
 |a::l,k=>by simp only[ztv];rw[zj7,zg3]
theorem uu: ∀(l:List Nat) (k:List Nat->Prop),ze4 l k<->k l
 | [],_=>q2
 |a::l,k=>by simp only[ze4];rw[uu]
theorem ju: ∀(l:Hp) (k:Hp->Prop),zq3 l k<->k l
 | [],_=>q2
 |(i,b)::l,k=>by simp only[zq3];rw[zj7,ju]
theorem zfi: ∀(l:List AV) (i:Nat) (v:AV) (k:List AV->Prop),zx8 l i v k<->k (l.set i v)
 | [],_,_,_=>by simp[zx8]
 | _::_,0,_,_=>by simp[zx8]
 |x::l,i+1,v,k=>by simp only[zx8];rw[zfi];simp
theorem zgu: ∀(h:Hp) (i:Nat) (v:Blk) (k:Hp->Prop),zqq h i v k<->k (zba h i v)
 | [],_,_,_=>by simp[zqq,zba]
 |(a,b)::r,i,v,k=>by
  simp only[zqq,zba];split
  ·exact q2
  ·rw[zgu]
theorem zek: ∀(is:List Nat) (bs:List Blk) (h:Hp) (k:Hp->Prop),za5 h is bs k<->k (qo h is bs)
 | [],_,_,_=>by simp[za5,qo]
 | _::_,[],_,_=>by simp[za5,qo]
 |i::is,b::bs,h,k=>by simp only[za5,qo];rw[zgu,zek]
theorem zri: ∀(T:List (Nat×TI)) (t:Nat) (k:TI->Prop),tgL T t k-> ∃i,(t,i)∈T/\k i
 | [],_,_,h=>by simp[tgL]at h
 |(a,i)::r,t,k,h=>by
  simp only[tgL]at h;split at h
  ·rename_i e;exact⟨i,by simp[(zb _ _).1 e],h⟩
  ·obtain⟨j,hj,hk⟩:=zri r t k h;exact⟨j,by simp[hj],hk⟩
theorem qp (T:Tab) (t:Nat) (k:TI->Prop) (h:tgK T t k): ∃i,(t,i)∈T.ty/\k i:=zri _ _ _ h
def nxt (o:Oper) (ids:List Nat) (σ:St) (r:AV) (bs:List Blk):St:=
 ⟨match o.dst with
  |some d=>σ.sl.set d r
  |none=>σ.sl,match wr o.op with
  |true=>qo σ.hp ids bs
  |false=>σ.hp⟩
theorem xn (σ:St) (dst:Option Nat) (v:AV) (K:St->Prop):qaw σ dst v K<->K ⟨match dst with
 |some d=>σ.sl.set d v
 |none=>σ.sl,σ.hp⟩:=by
 obtain⟨sl,hp⟩:=σ
 cases dst with
 |none=>exact q2
 |some d=>simp only[qaw];exact zfi _ _ _ _
def nd (T:Tab) (o:Oper) (σ:St):List Nat:=xd T o.op (qy o) (zg σ.sl) σ.hp
theorem zls (h:Hp) (l:List Nat) (K:List Nat->Prop):zw7 h l K<->K (zbb h l):=by
 unfold zw7;rw[uu,uu,uu];exact q2
theorem zla (T:Tab) (op:Op) (dst:Nat) (ρ:Operand->AV) (hp:Hp) (K:List Nat->Prop):zwf T op dst ρ hp K<->K (xd T op dst ρ hp):=by
 unfold zwf;split
 ·rename_i c;split
  ·rename_i f hc;split
   ·rename_i g caps hf;rw[uu,uu,zls,zls];simp only[xd,hc,hf];split
    ·exact q2
    ·rw[uu]
   ·exact uu _ _
  ·exact uu _ _
 ·exact uu _ _
theorem zl9 (T:Tab) (C:Con) (o:Oper) (σ:St) (K:St->Prop):
 zn0 T C o σ K<->Nat.ble (qy o) 99999=true/\ql T C o.op (qy o) (zg σ.sl) (nd T o σ) (qh σ.hp (nd T o σ)) fun r bs=>K (nxt o (nd T o σ) σ r bs):=by
 obtain⟨sl,hp⟩:=σ;have hd: ∀k:Nat->Prop,dstK o k<->k (qy o):=fun k=>by
  unfold dstK qy;cases o.dst<;>exact q2
 simp only[zn0,nd];rw[hd]
 cases e:Nat.ble (qy o) 99999 with
 |false=>simp
 |true=>
  simp only[true_and];rw[zla,zg3];refine iff_of_eq (congrArg (ql T C o.op (qy o) (zg sl) (xd T o.op (qy o) (zg sl) hp) (qh hp (xd T o.op (qy o) (zg sl) hp))) ?_)
  funext v bs
  rw[eq_iff_iff,zg2,xn];unfold nxt
  cases wr o.op with
  |false=>exact q2
  |true=>simp only[zg3,zek];exact q2
structure Ctx where
 M0:Nat->Prop
 w0:World
 mine:Nat->Prop
 sm:Nat->Prop
 pt0:Nat->Option Nat
 ow0:Nat->Option Value
def zm (w:World) (M:Nat->Prop):jw:=fun b o=> ¬M b/\w.heap[b]? =some o
def bl (pt:Nat->Option Nat) (ow:Nat->Option Value) (i:Nat):Option Nat:=
 match pt i with
 |some b=>some b
 |none=>match ow i with
  |some (.slice (some a) _ _)=>some a.block
  | _=>none
def xz (w:World) (V:jw) (e:TypeId) (k:Elt) (xs:List k.T) (h:Value):Prop:=
 (h= .slice none 0 0/\xs= [])\/ ∃b cap cs,h= .slice (some ⟨b,0,none⟩) xs.length cap/\w.heap[b]? =some (.cells cs e (0,0))/\xs.length<=cap/\cap<=maxLen/\
   cs.size=cap*k.size/\ ∀(i:Nat) (x:k.T),xs[i]? =some x-> ∀(j:Nat) (u:AV),(k.cells x)[j]? =some u-> ∃v,cs[i*k.size+j]? =some v/\Leaf V u v
def zfc:(k:Elt)->k.T->Value
 | .str,s=> .string ⟨s.toArray⟩
 | .int,n=> .int .i64 n
 | .op,o=> .agg #[.int .i64 o.k,.int .i64 o.a,.int .i64 o.b,.int .i64 o.n,.int .i64 o.c.n,.int .i64 o.c.d]
 | _,_=> .nilIface
def zcf (V:jw) (k:Elt) (x:k.T) (v:Value):Prop:= ∃vs:List Value,vs.length=k.size/\v=(if k.size=1 then vs.headD undef else .agg vs.toArray)/\ ∀(j:Nat) (u:AV) (y:Value),(k.cells x)[j]? =some u->vs[j]? =some y->Leaf V u y
def wa (V:jw) (kk vk:Elt):List (kk.T×vk.T)->List MapEntry->Prop
 | [],[]=>True
 |(x,y)::m,e::es=>(e.key=zfc kk x/\zcf V vk y e.val)/\wa V kk vk m es
 | _,_=>False
def zxu (es:Array MapEntry) (clk:Nat):Prop:=clk=es.size/\ ∀(i:Nat) (e:MapEntry),es[i]? =some e->e.born=i
def zxv (V:jw) (kk vk:Elt) (m:List (kk.T×vk.T)) (es:Array MapEntry) (clk:Nat):Prop:=wa V kk vk m es.toList/\zxu es clk
def zh1 (J:GJ):Prop:= ∀(S:Nat->Prop) (V V':jw) (w w':World),CLe V V'->(∀b o,S b->w.heap[b]? =some o->w'.heap[b]? =some o)->J S V w->J S V' w'
def ua (w:World) (V:jw) (pt:Nat->Option Nat) (ow:Nat->Option Value) (S:Nat->Prop) (i:Nat):Blk->Prop
 | .free =>True
 | .dead =>True
 | .cells _=> ∃b cs T,pt i=some b/\w.heap[b]? =some (.cells cs T (0,0))
 | .buf e k xs=> ∃h,ow i=some h/\xz w V e k xs h
 | .map kk vk m=> ∃b es clk,pt i=some b/\w.heap[b]? =some (.map es clk)/\zxv V kk vk m es clk
 | .gst J=>i=qa/\zh1 J/\J S V w
def Blk.isPt:Blk->Bool
 | .cells _=>true
 | .map _ _ _=>true
 | _=>false
def Blk.isBuf:Blk->Bool
 | .buf _ _ _=>true
 | _=>false
structure Core (M:Nat->Prop) (pt:Nat->Option Nat) (ow:Nat->Option Value) (S:Nat->Prop) (hp:Hp) (w:World):Prop where
 fresh: ∀b,M b->b<w.heap.size
 mt: ∀i b,bl pt ow i=some b->M b
 inj: ∀i j b,bl pt ow i=some b->bl pt ow j=some b->i=j
 gm: ∀b,S b->M b
 gd: ∀i b,bl pt ow i=some b-> ¬S b
 dpt: ∀i b,pt i=some b->(hget hp i).isPt =true
 dow: ∀i h,ow i=some h->(hget hp i).isBuf =true
 blk: ∀i,ua w (zm w M) pt ow S i (hget hp i)
structure Good (c:Ctx) (M:Nat->Prop) (pt:Nat->Option Nat) (ow:Nat->Option Value) (S:Nat->Prop) (hp:Hp) (w:World):Prop extends Core M pt ow S hp w where
 os:w.os=c.w0.os
 tape:w.tape=c.w0.tape
 output:w.output=c.w0.output
 size:c.w0.heap.size<=w.heap.size
 keep: ∀b,b<c.w0.heap.size-> ¬c.mine b->w.heap[b]? =c.w0.heap[b]?
 m0: ∀b,c.M0 b->M b
 m1: ∀b,c.M0 b->b<c.w0.heap.size
 loc: ∀i b,bl pt ow i=some b->c.w0.heap.size<=b\/(c.mine b/\1000000<=i)
 gl: ∀b,S b->c.w0.heap.size<=b\/(c.mine b/\c.sm b)
 farp: ∀i b,1000000<=i->pt i=some b->c.pt0 i=some b
 farw: ∀i h,1000000<=i->ow i=some h->c.ow0 i=some h\/(1500000<=i/\i<=1999998)
section
variable {M:Nat->Prop} {pt:Nat->Option Nat} {ow:Nat->Option Value} {S:Nat->Prop} {hp:Hp} {w:World}
theorem Core.cel (h:Core M pt ow S hp w) (i:Nat) (l:List AV) (hl:hget hp i= .cells l): ∃b cs T,pt i=some b/\w.heap[b]? =some (.cells cs T (0,0)):=by
 have:=h.blk i;rw[hl]at this;exact this
theorem Core.buf (h:Core M pt ow S hp w) (i:Nat) (e:TypeId) (k:Elt) (xs:List k.T) (hl:hget hp i= .buf e k xs): ∃h,ow i=some h/\xz w (zm w M) e k xs h:=by
 have:=h.blk i;rw[hl]at this;exact this
theorem Core.mpo (h:Core M pt ow S hp w) (i:Nat) (kk vk:Elt) (m:List (kk.T×vk.T)) (hl:hget hp i= .map kk vk m): ∃b es clk,pt i=some b/\w.heap[b]? =some (.map es clk)/\zxv (zm w M) kk vk m es clk:=by
 have:=h.blk i;rw[hl]at this;exact this
theorem Core.ptn (h:Core M pt ow S hp w) {i:Nat} (hi:(hget hp i).isPt =false):pt i=none:=by
 cases e:pt i with
 |none=>rfl
 |some b=>rw[h.dpt i b e]at hi;cases hi
theorem Core.own (h:Core M pt ow S hp w) {i:Nat} (hi:(hget hp i).isBuf =false):ow i=none:=by
 cases e:ow i with
 |none=>rfl
 |some b=>rw[h.dow i b e]at hi;cases hi
theorem Core.ptow (h:Core M pt ow S hp w) {i:Nat} {x:Value} (hi:ow i=some x):pt i=none:=by
 have:=h.dow i x hi;refine h.ptn ?_;cases e:hget hp i<;>rw[e]at this<;>first|rfl|cases this
theorem Good.cel {c:Ctx} (h:Good c M pt ow S hp w) (i:Nat) (l:List AV) (hl:hget hp i= .cells l): ∃b cs T,pt i=some b/\w.heap[b]? =some (.cells cs T (0,0)):=h.toCore.cel i l hl
theorem Good.buf {c:Ctx} (h:Good c M pt ow S hp w) (i:Nat) (e:TypeId) (k:Elt) (xs:List k.T) (hl:hget hp i= .buf e k xs): ∃h,ow i=some h/\xz w (zm w M) e k xs h:=h.toCore.buf i e k xs hl
end
theorem xz.cmono {w w':World} {V V':jw} {e:TypeId} {k:Elt} {xs:List k.T} {h:Value} (hV:CLe V V')
 (hb: ∀b cap cs,h= .slice (some ⟨b,0,none⟩) xs.length cap->w.heap[b]? =some (.cells cs e (0,0))->w'.heap[b]? =some (.cells cs e (0,0))) (hk:xz w V e k xs h):xz w' V' e k xs h:=by
 rcases hk with h1|⟨b,cap,cs,h1,h2,h3,h4,h5,h6⟩
 ·exact .inl h1
 ·refine .inr ⟨b,cap,cs,h1,hb b cap cs h1 h2,h3,h4,h5,fun i x hx j u hu=>?_⟩;obtain⟨v,hv,hl⟩:=h6 i x hx j u hu;exact⟨v,hv,hl.cmono hV⟩
theorem xz.mono {w w':World} {V V':jw} {e:TypeId} {k:Elt} {xs:List k.T} {h:Value} (hV: ∀b o,V b o->V' b o)
 (hb: ∀b cap cs,h= .slice (some ⟨b,0,none⟩) xs.length cap->w.heap[b]? =some (.cells cs e (0,0))->w'.heap[b]? =some (.cells cs e (0,0))) (hk:xz w V e k xs h):xz w' V' e k xs h:=hk.cmono (.of hV) hb
theorem zcf.cmono {V V':jw} {k:Elt} {x:k.T} {v:Value} (hV:CLe V V') (h:zcf V k x v):zcf V' k x v:=by
 obtain⟨vs,h1,h2,h3⟩:=h;exact⟨vs,h1,h2,fun j u y hu hy=>(h3 j u y hu hy).cmono hV⟩
theorem zcf.mono {V V':jw} {k:Elt} {x:k.T} {v:Value} (hV: ∀b o,V b o->V' b o) (h:zcf V k x v):zcf V' k x v:=h.cmono (.of hV)
theorem wa.cmono {V V':jw} {kk vk:Elt} (hV:CLe V V'): ∀ {m:List (kk.T×vk.T)} {es:List MapEntry},wa V kk vk m es->wa V' kk vk m es
 | [],[],h=>h
 | [],_::_,h=>by simp[wa]at h
 | _::_,[],h=>by simp[wa]at h
 |(x,y)::m,e::es,h=>by
  simp only[wa]at h⊢;exact⟨⟨h.1.1,h.1.2.cmono hV⟩,wa.cmono hV h.2⟩
theorem wa.mono {V V':jw} {kk vk:Elt} (hV: ∀b o,V b o->V' b o) {m:List (kk.T×vk.T)} {es:List MapEntry} (h:wa V kk vk m es):wa V' kk vk m es:=h.cmono (.of hV)
theorem zxv.cmono {V V':jw} {kk vk:Elt} (hV:CLe V V') {m:List (kk.T×vk.T)} {es:Array MapEntry} {clk:Nat} (h:zxv V kk vk m es clk):zxv V' kk vk m es clk:=⟨h.1.cmono hV,h.2⟩
theorem zxv.mono {V V':jw} {kk vk:Elt} (hV: ∀b o,V b o->V' b o) {m:List (kk.T×vk.T)} {es:Array MapEntry} {clk:Nat} (h:zxv V kk vk m es clk):zxv V' kk vk m es clk:=h.cmono (.of hV)
theorem ua.cmono {w w':World} {V V':jw} {pt pt':Nat->Option Nat} {ow ow':Nat->Option Value} {S:Nat->Prop} {i:Nat} {x:Blk} (hpt:pt' i=pt i) (how:ow' i=ow i) (hV:CLe V V')
 (hn: ∀h,ow i=some h->pt i=none) (hb: ∀b o,bl pt ow i=some b->w.heap[b]? =some o->w'.heap[b]? =some o) (hS: ∀b o,S b->w.heap[b]? =some o->w'.heap[b]? =some o) (h:ua w V pt ow S i x):ua w' V' pt' ow' S i x:=by
 cases x with
 |free=>trivial
 |dead=>trivial
 |cells l=>
  obtain⟨b,cs,T,h1,h2⟩:=h;exact⟨b,cs,T,by rw[hpt];exact h1,hb b _ (by simp[bl,h1]) h2⟩
 |buf e k xs=>
  obtain⟨hd,h1,h2⟩:=h;exact⟨hd,by rw[how];exact h1,h2.cmono hV fun b cap cs hh hcs=>hb b _ (by simp[bl,hn _ h1,h1,hh]) hcs⟩
 |map kk vk m=>
  obtain⟨b,es,clk,h1,h2,h3⟩:=h;exact⟨b,es,clk,by rw[hpt];exact h1,hb b _ (by simp[bl,h1]) h2,h3.cmono hV⟩
 |gst J=>
  obtain⟨h1,h2,h3⟩:=h;exact⟨h1,h2,h2 S V V' w w' hV hS h3⟩
theorem ua.mono {w w':World} {V V':jw} {pt pt':Nat->Option Nat} {ow ow':Nat->Option Value} {S:Nat->Prop} {i:Nat} {x:Blk} (hpt:pt' i=pt i) (how:ow' i=ow i) (hV: ∀b o,V b o->V' b o)
 (hn: ∀h,ow i=some h->pt i=none) (hb: ∀b o,bl pt ow i=some b->w.heap[b]? =some o->w'.heap[b]? =some o) (hS: ∀b o,S b->w.heap[b]? =some o->w'.heap[b]? =some o) (h:ua w V pt ow S i x):ua w' V' pt' ow' S i x:=
 h.cmono hpt how (.of hV) hn hb hS
def Agr (hp:Hp) (pt pt':Nat->Option Nat) (ow ow':Nat->Option Value):Prop:=
 ∀i,(hget hp i).isFree =false->pt' i=pt i/\ow' i=ow i
def zcy (σ:St) (a:Act) (w:World) (M:Nat->Prop) (pt:Nat->Option Nat) (ow:Nat->Option Value):Prop:=
 ∀pt' ow',Agr σ.hp pt pt' ow ow'->Rs ⟨zm w M,pt',ow'⟩ σ.sl a.tmps.toList/\
  ∀i l b cs T,hget σ.hp i= .cells l->pt i=some b->w.heap[b]? =some (.cells cs T (0,0))->Rs ⟨zm w M,pt',ow'⟩ l cs.toList
def zdj (D:Nat):Deferred:= {target:= .collected D,args:= #[]}
def zq0 (c:Ctx) (w:World) (M:Nat->Prop) (ds:List Deferred):Prop:= ∃Ds:List Nat,ds=Ds.map zdj/\Ds.Nodup/\ ∀D∈Ds,c.w0.heap.size<=D/\zm w M D (.deferred (some []))
theorem zq0.mono {c:Ctx} {w w':World} {M M':Nat->Prop} {ds:List Deferred} (hV: ∀b o,zm w M b o->zm w' M' b o) (h:zq0 c w M ds):zq0 c w' M' ds:=
 let ⟨Ds,h1,h2,h3⟩:=h;⟨Ds,h1,h2,fun D hD=>⟨(h3 D hD).1,hV _ _ (h3 D hD).2⟩⟩
theorem zq0.nil {c:Ctx} {w:World} {M:Nat->Prop}:zq0 c w M []:=⟨[],rfl,by simp,fun _ h=>by cases h⟩
theorem ku (a:Act) (d:Option Nat) (v:Value):(a.put d v).defers =a.defers:=by unfold Act.put;split<;>rfl
def Rel (c:Ctx) (σ:St) (a:Act) (w:World):Prop:=
 ∃M pt ow S,Good c M pt ow S σ.hp w/\zcy σ a w M pt ow/\zq0 c w M a.defers
theorem Agr.refl (hp:Hp) (pt:Nat->Option Nat) (ow:Nat->Option Value):Agr hp pt pt ow ow:=fun _ _=>⟨rfl,rfl⟩
theorem za {ρ:Env} {sl:List AV} {a:Act} (h:Rs ρ sl a.tmps.toList) (x:Operand):R ρ (zg sl x) (a.eval x):=by
 cases x with
 |tmp t=>
  simp only[zg,Act.eval]
  cases ht:sl[t]? with
  |none=>
   rw[List.getD_eq_getElem?_getD,ht];simp[R]
  |some u=>
   obtain⟨v,hv,hr⟩:=h.get ht;rw[List.getD_eq_getElem?_getD,ht];have:a.tmps[t]? =some v:=by simpa using hv
   simp[this,hr]
 |const v=>
  simp only[zg,Act.eval];unfold cAV;split<;>simp[R]
 |global g=>simp[zg,R]
 |func f=>simp[zg,Act.eval,R,Rs]
theorem zjx {ρ:Env} {sl:List AV} {a:Act} (h:Rs ρ sl a.tmps.toList): ∀(l:List Operand),Rs ρ (yr (zg sl) l) (l.map a.eval)
 | []=>by simp[yr,Rs]
 |x::l=>by simp only[yr,q3,Rs];exact⟨za h x,zjx h l⟩
theorem kq (a:Act) (d:Nat) (v:Value):(a.put (some d) v).tmps.toList =a.tmps.toList.set d v:=by
 simp[Act.put]
theorem Rel.val {c:Ctx} {σ:St} {a:Act} {w:World} (h:Rel c σ a w) (o:Oper) (ids:List Nat) (bs:List Blk) (r:AV) (v:Value) (hw:wr o.op=false)
 (hv: ∀M pt ow S,Good c M pt ow S σ.hp w->zcy σ a w M pt ow-> ∀pt' ow',Agr σ.hp pt pt' ow ow'->R ⟨zm w M,pt',ow'⟩ r v):Rel c (nxt o ids σ r bs) (a.put o.dst v) w:=by
 obtain⟨M,pt,ow,S,hg,hs,hd⟩:=h;refine⟨M,pt,ow,S,by simpa[nxt,hw]using hg,?_,by rw[ku];exact hd⟩;intro pt' ow' hag;have hag':Agr σ.hp pt pt' ow ow':=by simpa[nxt,hw]using hag
 obtain⟨h1,h2⟩:=hs pt' ow' hag';refine⟨?_,by simpa[nxt,hw]using h2⟩;simp only[nxt]
 cases o.dst with
 |none=>simpa[Act.put]using h1
 |some d=>
  rw[kq];exact h1.set (hv M pt ow S hg hs pt' ow' hag') d
end Go.Sx
