/- A frame and a world that a state describes; how the description goes on when a slot, a block, a world turns. -/
import Derived.Test.YtbolipecnhlnnaaGreatDoorSSxC
import Derived.Laws.AppendOwn
set_option linter.unusedVariables false
set_option linter.unusedSimpArgs false
open Iff renaming rfl->q0
open List renaming map_cons->q1,mem_cons->q2
namespace Go.Sx
open Go
def Blk.isFree:Blk->Bool
 | .free =>true
 | _=>false
theorem zc (a b:Nat):Nat.beq a b=true<->a=b:=⟨Nat.eq_of_beq_eq_true,fun h=>by subst h;exact Nat.beq_refl a⟩
theorem zr (a b:Nat):Nat.beq a b=false<->a≠b:=by
 rw[<-Bool.not_eq_true,zc]
def uo (h:Hp) (i:Nat):Prop:=i∈h.map (·.1)
theorem zf (a:Nat) (b:Blk) (r:Hp) (i:Nat):hget ((a,b)::r) i=if a=i then b else hget r i:=by
 simp only[hget];split
 .rename_i h;rw[Z4 ((zc _ _).1 h)]
 .rename_i h;rw[Z5 ((zr _ _).1 h)]
theorem jo (a:Nat) (b:Blk) (r:Hp) (i:Nat) (v:Blk):zbk ((a,b)::r) i v=if a=i then(a,v)::r else(a,b)::zbk r i v:=by
 simp only[zbk];split
 .rename_i h;rw[Z4 ((zc _ _).1 h)]
 .rename_i h;rw[Z5 ((zr _ _).1 h)]
theorem zq {h:Hp} {i:Nat} (hg:hget h i≠ .dead):uo h i:=by
 induction h with
 |nil=>exact absurd rfl hg
 |cons x r ih=>
  obtain⟨a,b⟩:=x;rw[zf]at hg;by_cases e:a=i
  .simp[uo,e]
  .rw[Z5 e]at hg;have:=ih hg;simp only[uo,q1,q2];exact .inr this
theorem qh {h:Hp} {i:Nat} {v:Blk} (hk:uo h i):hget (zbk h i v) i=v:=by
 induction h with
 |nil=>simp[uo]at hk
 |cons x r ih=>
  obtain⟨a,b⟩:=x;rw[jo];by_cases e:a=i
  .rw[Z4 e,zf,Z4 e]
  .rw[Z5 e,zf,Z5 e];refine ih ?_;simp only[uo,q1,q2]at hk;exact hk.resolve_left fun h=>e h.symm
theorem zx {h:Hp} {i j:Nat} {v:Blk} (hij:j≠i):hget (zbk h i v) j=hget h j:=by
 induction h with
 |nil=>rfl
 |cons x r ih=>
  obtain⟨a,b⟩:=x;rw[jo];by_cases e:a=i
  .rw[Z4 e,zf,zf,Z5 (by omega),Z5 (by omega)]
  .rw[Z5 e,zf,zf,ih]
theorem zf7 {h:Hp} {i j:Nat} {v:Blk}:uo (zbk h i v) j<->uo h j:=by
 induction h with
 |nil=>exact q0
 |cons x r ih=>
  obtain⟨a,b⟩:=x;rw[jo];by_cases e:a=i
  .rw[Z4 e];simp[uo]
  .rw[Z5 e];simp only[uo,q1,q2]at ih⊢;rw[ih]
mutual
theorem zhd: ∀(a:AV) (k:AV->Prop),frc a k<->k a
 | .any,_=>q0
 | .bool _,_=>q0
 | .int _ _,_=>q0
 | .str _,_=>q0
 | .nilp,_=>q0
 | .ptr _ _,_=>q0
 | .rp _ _ _,_=>q0
 | .opt _ _ _ _,_=>q0
 | .ow _ _ _ _,_=>q0
 | .nilsl,_=>q0
 | .sl _ _,_=>q0
 | .own _,_=>q0
 | .agg l,k=>by simp only[frc];exact qw l _
 | .tup l,k=>by simp only[frc];exact qw l _
 | .fn f l,k=>by simp only[frc];exact qw l _
 | .nilf,_=>q0
 | .mp _,_=>q0
 | .nilm,_=>q0
 | .ub _ _,_=>q0
 | .cb _,_=>q0
 | .val _,_=>q0
theorem qw: ∀(l:List AV) (k:List AV->Prop),zi0 l k<->k l
 | [],_=>q0
 |a::l,k=>by simp only[zi0];rw[zhd,qw]
end
theorem zkh (b:Blk) (k:Blk->Prop):qgk b k<->k b:=by
 cases b<;>simp[qgk,qw]
theorem zhe: ∀(l:List Blk) (k:List Blk->Prop),zub l k<->k l
 | [],_=>q0
 |a::l,k=>by simp only[zub];rw[zkh,zhe]
theorem yg: ∀(l:List Nat) (k:List Nat->Prop),zfa l k<->k l
 | [],_=>q0
 |a::l,k=>by simp only[zfa];rw[yg]
theorem ke: ∀(l:Hp) (k:Hp->Prop),zrb l k<->k l
 | [],_=>q0
 |(i,b)::l,k=>by simp only[zrb];rw[zkh,ke]
theorem zfq: ∀(l:List AV) (i:Nat) (v:AV) (k:List AV->Prop),zyr l i v k<->k (l.set i v)
 | [],_,_,_=>by simp[zyr]
 | _::_,0,_,_=>by simp[zyr]
 |x::l,i+1,v,k=>by simp only[zyr];rw[zfq];simp
theorem zg5: ∀(h:Hp) (i:Nat) (v:Blk) (k:Hp->Prop),zqx h i v k<->k (zbk h i v)
 | [],_,_,_=>by simp[zqx,zbk]
 |(a,b)::r,i,v,k=>by
  simp only[zqx,zbk];split
  .exact q0
  .rw[zg5]
theorem zer: ∀(is:List Nat) (bs:List Blk) (h:Hp) (k:Hp->Prop),zbf h is bs k<->k (qp h is bs)
 | [],_,_,_=>by simp[zbf,qp]
 | _::_,[],_,_=>by simp[zbf,qp]
 |i::is,b::bs,h,k=>by simp only[zbf,qp];rw[zg5,zer]
theorem zrr: ∀(T:List (Nat×TI)) (t:Nat) (k:TI->Prop),tgL T t k-> ∃i,(t,i)∈T/\k i
 | [],_,_,h=>by simp[tgL]at h
 |(a,i)::r,t,k,h=>by
  simp only[tgL]at h;split at h
  .rename_i e;exact⟨i,by simp[(zc _ _).1 e],h⟩
  .obtain⟨j,hj,hk⟩:=zrr r t k h;exact⟨j,by simp[hj],hk⟩
theorem qq (T:Tab) (t:Nat) (k:TI->Prop) (h:tgK T t k): ∃i,(t,i)∈T.ty/\k i:=zrr _ _ _ h
def nxt (o:Oper) (ids:List Nat) (Z:St) (r:AV) (bs:List Blk):St:=
 ⟨match o.dst with
  |some d=>Z.sl.set d r
  |none=>Z.sl,match wr o.op with
  |true=>qp Z.hp ids bs
  |false=>Z.hp⟩
theorem xz (Z:St) (dst:Option Nat) (v:AV) (K:St->Prop):qbg Z dst v K<->K ⟨match dst with
 |some d=>Z.sl.set d v
 |none=>Z.sl,Z.hp⟩:=by
 obtain⟨sl,hp⟩:=Z
 cases dst with
 |none=>exact q0
 |some d=>simp only[qbg];exact zfq _ _ _ _
def nd (T:Tab) (o:Oper) (Z:St):List Nat:=xp T o.op (qz o) (zk Z.sl) Z.hp
theorem zl1 (h:Hp) (l:List Nat) (K:List Nat->Prop):zxp h l K<->K (zbl h l):=by
 unfold zxp;rw[yg,yg,yg];exact q0
theorem zli (T:Tab) (op:Op) (dst:Nat) (ρ:Operand->AV) (hp:Hp) (K:List Nat->Prop):zww T op dst ρ hp K<->K (xp T op dst ρ hp):=by
 unfold zww;split
 .rename_i c;split
  .rename_i f hc;split
   .rename_i g caps hf;rw[yg,yg,zl1,zl1];simp only[xp,hc,hf];split
    .exact q0
    .rw[yg]
   .exact yg _ _
  .exact yg _ _
 .exact yg _ _
theorem zmj (T:Tab) (C:Con) (o:Oper) (Z:St) (K:St->Prop):
 zn7 T C o Z K<->Nat.ble (qz o) 99999=true/\qm T C o.op (qz o) (zk Z.sl) (nd T o Z) (qi Z.hp (nd T o Z)) fun r bs=>K (nxt o (nd T o Z) Z r bs):=by
 obtain⟨sl,hp⟩:=Z;have hd: ∀k:Nat->Prop,dstK o k<->k (qz o):=fun k=>by
  unfold dstK qz;cases o.dst<;>exact q0
 simp only[zn7,nd];rw[hd]
 cases e:Nat.ble (qz o) 99999 with
 |false=>simp
 |true=>
  simp only[true_and];rw[zli,zhe];refine iff_of_eq (congrArg (qm T C o.op (qz o) (zk sl) (xp T o.op (qz o) (zk sl) hp) (qi hp (xp T o.op (qz o) (zk sl) hp))) ?_)
  funext v bs
  rw[eq_iff_iff,zhd,xz];unfold nxt
  cases wr o.op with
  |false=>exact q0
  |true=>simp only[zhe,zer];exact q0
structure Ctx where
 M0:Nat->Prop
 w0:World
 mine:Nat->Prop
 sm:Nat->Prop
 pt0:Nat->Option Nat
 ow0:Nat->Option Value
def zp (w:World) (M:Nat->Prop):kg:=fun b o=> ¬M b/\w.heap[b]? =some o
def bl (pt:Nat->Option Nat) (ow:Nat->Option Value) (i:Nat):Option Nat:=
 match pt i with
 |some b=>some b
 |none=>match ow i with
  |some (.slice (some a) _ _)=>some a.block
  | _=>none
def zak (w:World) (V:kg) (e:TypeId) (k:Elt) (xs:List k.T) (h:Value):Prop:=
 (h= .slice none 0 0/\xs= [])\/ ∃b cap cs,h= .slice (some ⟨b,0,none⟩) xs.length cap/\w.heap[b]? =some (.cells cs e (0,0))/\xs.length<=cap/\cap<=maxLen/\
   cs.size=cap*k.size/\ ∀(i:Nat) (x:k.T),xs[i]? =some x-> ∀(j:Nat) (u:AV),(k.cells x)[j]? =some u-> ∃v,cs[i*k.size+j]? =some v/\Leaf V u v
def zfk:(k:Elt)->k.T->Value
 | .str,s=> .string ⟨s.toArray⟩
 | .int,n=> .int .i64 n
 | .op,o=> .agg #[.int .i64 o.k,.int .i64 o.a,.int .i64 o.b,.int .i64 o.n,.int .i64 o.c.n,.int .i64 o.c.d]
 | _,_=> .nilIface
def zcn (V:kg) (k:Elt) (x:k.T) (v:Value):Prop:= ∃vs:List Value,vs.length=k.size/\v=(if k.size=1 then vs.headD undef else .agg vs.toArray)/\ ∀(j:Nat) (u:AV) (y:Value),(k.cells x)[j]? =some u->vs[j]? =some y->Leaf V u y
def wd (V:kg) (kk vk:Elt):List (kk.T×vk.T)->List MapEntry->Prop
 | [],[]=>True
 |(x,y)::m,e::es=>(e.key=zfk kk x/\zcn V vk y e.val)/\wd V kk vk m es
 | _,_=>False
def zyc (es:Array MapEntry) (clk:Nat):Prop:=clk=es.size/\ ∀(i:Nat) (e:MapEntry),es[i]? =some e->e.born=i
def zyd (V:kg) (kk vk:Elt) (m:List (kk.T×vk.T)) (es:Array MapEntry) (clk:Nat):Prop:=wd V kk vk m es.toList/\zyc es clk
def zia (J:GJ):Prop:= ∀(S:Nat->Prop) (V V':kg) (w w':World),CLe V V'->(∀b o,S b->w.heap[b]? =some o->w'.heap[b]? =some o)->J S V w->J S V' w'
def uj (w:World) (V:kg) (pt:Nat->Option Nat) (ow:Nat->Option Value) (S:Nat->Prop) (i:Nat):Blk->Prop
 | .free =>True
 | .dead =>True
 | .cells _=> ∃b cs T,pt i=some b/\w.heap[b]? =some (.cells cs T (0,0))
 | .buf e k xs=> ∃h,ow i=some h/\zak w V e k xs h
 | .map kk vk m=> ∃b es clk,pt i=some b/\w.heap[b]? =some (.map es clk)/\zyd V kk vk m es clk
 | .gst J=>i=qd/\zia J/\J S V w
def Blk.isPt:Blk->Bool
 | .cells _=>true
 | .map _ _ _=>true
 | _=>false
def Blk.isBuf:Blk->Bool
 | .buf _ _ _=>true
 | _=>false
structure Core (M:Nat->Prop) (pt:Nat->Option Nat) (ow:Nat->Option Value) (S:Nat->Prop) (hp:Hp) (w:World):Prop where
 fresh: ∀b,M b->b<w.heap.size
 mt: ∀i b,bl pt ow i=some b->M b
 inj: ∀i j b,bl pt ow i=some b->bl pt ow j=some b->i=j
 gm: ∀b,S b->M b
 gd: ∀i b,bl pt ow i=some b-> ¬S b
 dpt: ∀i b,pt i=some b->(hget hp i).isPt =true
 dow: ∀i h,ow i=some h->(hget hp i).isBuf =true
 blk: ∀i,uj w (zp w M) pt ow S i (hget hp i)
structure Good (c:Ctx) (M:Nat->Prop) (pt:Nat->Option Nat) (ow:Nat->Option Value) (S:Nat->Prop) (hp:Hp) (w:World):Prop extends Core M pt ow S hp w where
 os:w.os=c.w0.os
 tape:w.tape=c.w0.tape
 output:w.output=c.w0.output
 size:c.w0.heap.size<=w.heap.size
 keep: ∀b,b<c.w0.heap.size-> ¬c.mine b->w.heap[b]? =c.w0.heap[b]?
 m0: ∀b,c.M0 b->M b
 m1: ∀b,c.M0 b->b<c.w0.heap.size
 loc: ∀i b,bl pt ow i=some b->c.w0.heap.size<=b\/(c.mine b/\1000000<=i)
 gl: ∀b,S b->c.w0.heap.size<=b\/(c.mine b/\c.sm b)
 farp: ∀i b,1000000<=i->pt i=some b->c.pt0 i=some b
 farw: ∀i h,1000000<=i->ow i=some h->c.ow0 i=some h\/(1500000<=i/\i<=1999998)
section
variable {M:Nat->Prop} {pt:Nat->Option Nat} {ow:Nat->Option Value} {S:Nat->Prop} {hp:Hp} {w:World}
theorem Core.cel (h:Core M pt ow S hp w) (i:Nat) (l:List AV) (hl:hget hp i= .cells l): ∃b cs T,pt i=some b/\w.heap[b]? =some (.cells cs T (0,0)):=by
 have:=h.blk i;rw[hl]at this;exact this
theorem Core.buf (h:Core M pt ow S hp w) (i:Nat) (e:TypeId) (k:Elt) (xs:List k.T) (hl:hget hp i= .buf e k xs): ∃h,ow i=some h/\zak w (zp w M) e k xs h:=by
 have:=h.blk i;rw[hl]at this;exact this
theorem Core.mpo (h:Core M pt ow S hp w) (i:Nat) (kk vk:Elt) (m:List (kk.T×vk.T)) (hl:hget hp i= .map kk vk m): ∃b es clk,pt i=some b/\w.heap[b]? =some (.map es clk)/\zyd (zp w M) kk vk m es clk:=by
 have:=h.blk i;rw[hl]at this;exact this
theorem Core.ptn (h:Core M pt ow S hp w) {i:Nat} (hi:(hget hp i).isPt =false):pt i=none:=by
 cases e:pt i with
 |none=>rfl
 |some b=>rw[h.dpt i b e]at hi;cases hi
theorem Core.own (h:Core M pt ow S hp w) {i:Nat} (hi:(hget hp i).isBuf =false):ow i=none:=by
 cases e:ow i with
 |none=>rfl
 |some b=>rw[h.dow i b e]at hi;cases hi
theorem Core.ptow (h:Core M pt ow S hp w) {i:Nat} {x:Value} (hi:ow i=some x):pt i=none:=by
 have:=h.dow i x hi;refine h.ptn ?_;cases e:hget hp i<;>rw[e]at this<;>first|rfl|cases this
theorem Good.cel {c:Ctx} (h:Good c M pt ow S hp w) (i:Nat) (l:List AV) (hl:hget hp i= .cells l): ∃b cs T,pt i=some b/\w.heap[b]? =some (.cells cs T (0,0)):=h.toCore.cel i l hl
theorem Good.buf {c:Ctx} (h:Good c M pt ow S hp w) (i:Nat) (e:TypeId) (k:Elt) (xs:List k.T) (hl:hget hp i= .buf e k xs): ∃h,ow i=some h/\zak w (zp w M) e k xs h:=h.toCore.buf i e k xs hl
end
theorem zak.cmono {w w':World} {V V':kg} {e:TypeId} {k:Elt} {xs:List k.T} {h:Value} (hV:CLe V V')
 (hb: ∀b cap cs,h= .slice (some ⟨b,0,none⟩) xs.length cap->w.heap[b]? =some (.cells cs e (0,0))->w'.heap[b]? =some (.cells cs e (0,0))) (hk:zak w V e k xs h):zak w' V' e k xs h:=by
 rcases hk with h1|⟨b,cap,cs,h1,h2,h3,h4,h5,h6⟩
 .exact .inl h1
 .refine .inr ⟨b,cap,cs,h1,hb b cap cs h1 h2,h3,h4,h5,fun i x hx j u hu=>?_⟩;obtain⟨v,hv,hl⟩:=h6 i x hx j u hu;exact⟨v,hv,hl.cmono hV⟩
theorem zak.mono {w w':World} {V V':kg} {e:TypeId} {k:Elt} {xs:List k.T} {h:Value} (hV: ∀b o,V b o->V' b o)
 (hb: ∀b cap cs,h= .slice (some ⟨b,0,none⟩) xs.length cap->w.heap[b]? =some (.cells cs e (0,0))->w'.heap[b]? =some (.cells cs e (0,0))) (hk:zak w V e k xs h):zak w' V' e k xs h:=hk.cmono (.of hV) hb
theorem zcn.cmono {V V':kg} {k:Elt} {x:k.T} {v:Value} (hV:CLe V V') (h:zcn V k x v):zcn V' k x v:=by
 obtain⟨vs,h1,h2,h3⟩:=h;exact⟨vs,h1,h2,fun j u y hu hy=>(h3 j u y hu hy).cmono hV⟩
theorem zcn.mono {V V':kg} {k:Elt} {x:k.T} {v:Value} (hV: ∀b o,V b o->V' b o) (h:zcn V k x v):zcn V' k x v:=h.cmono (.of hV)
theorem wd.cmono {V V':kg} {kk vk:Elt} (hV:CLe V V'): ∀ {m:List (kk.T×vk.T)} {es:List MapEntry},wd V kk vk m es->wd V' kk vk m es
 | [],[],h=>h
 | [],_::_,h=>by simp[wd]at h
 | _::_,[],h=>by simp[wd]at h
 |(x,y)::m,e::es,h=>by
  simp only[wd]at h⊢;exact⟨⟨h.1.1,h.1.2.cmono hV⟩,wd.cmono hV h.2⟩
theorem wd.mono {V V':kg} {kk vk:Elt} (hV: ∀b o,V b o->V' b o) {m:List (kk.T×vk.T)} {es:List MapEntry} (h:wd V kk vk m es):wd V' kk vk m es:=h.cmono (.of hV)
theorem zyd.cmono {V V':kg} {kk vk:Elt} (hV:CLe V V') {m:List (kk.T×vk.T)} {es:Array MapEntry} {clk:Nat} (h:zyd V kk vk m es clk):zyd V' kk vk m es clk:=⟨h.1.cmono hV,h.2⟩
theorem zyd.mono {V V':kg} {kk vk:Elt} (hV: ∀b o,V b o->V' b o) {m:List (kk.T×vk.T)} {es:Array MapEntry} {clk:Nat} (h:zyd V kk vk m es clk):zyd V' kk vk m es clk:=h.cmono (.of hV)
theorem uj.cmono {w w':World} {V V':kg} {pt pt':Nat->Option Nat} {ow ow':Nat->Option Value} {S:Nat->Prop} {i:Nat} {x:Blk} (hpt:pt' i=pt i) (how:ow' i=ow i) (hV:CLe V V')
 (hn: ∀h,ow i=some h->pt i=none) (hb: ∀b o,bl pt ow i=some b->w.heap[b]? =some o->w'.heap[b]? =some o) (hS: ∀b o,S b->w.heap[b]? =some o->w'.heap[b]? =some o) (h:uj w V pt ow S i x):uj w' V' pt' ow' S i x:=by
 cases x with
 |free=>trivial
 |dead=>trivial
 |cells l=>
  obtain⟨b,cs,T,h1,h2⟩:=h;exact⟨b,cs,T,by rw[hpt];exact h1,hb b _ (by simp[bl,h1]) h2⟩
 |buf e k xs=>
  obtain⟨hd,h1,h2⟩:=h;exact⟨hd,by rw[how];exact h1,h2.cmono hV fun b cap cs hh hcs=>hb b _ (by simp[bl,hn _ h1,h1,hh]) hcs⟩
 |map kk vk m=>
  obtain⟨b,es,clk,h1,h2,h3⟩:=h;exact⟨b,es,clk,by rw[hpt];exact h1,hb b _ (by simp[bl,h1]) h2,h3.cmono hV⟩
 |gst J=>
  obtain⟨h1,h2,h3⟩:=h;exact⟨h1,h2,h2 S V V' w w' hV hS h3⟩
theorem uj.mono {w w':World} {V V':kg} {pt pt':Nat->Option Nat} {ow ow':Nat->Option Value} {S:Nat->Prop} {i:Nat} {x:Blk} (hpt:pt' i=pt i) (how:ow' i=ow i) (hV: ∀b o,V b o->V' b o)
 (hn: ∀h,ow i=some h->pt i=none) (hb: ∀b o,bl pt ow i=some b->w.heap[b]? =some o->w'.heap[b]? =some o) (hS: ∀b o,S b->w.heap[b]? =some o->w'.heap[b]? =some o) (h:uj w V pt ow S i x):uj w' V' pt' ow' S i x:=
 h.cmono hpt how (.of hV) hn hb hS
def Agr (hp:Hp) (pt pt':Nat->Option Nat) (ow ow':Nat->Option Value):Prop:=
 ∀i,(hget hp i).isFree =false->pt' i=pt i/\ow' i=ow i
def zc5 (Z:St) (a:Act) (w:World) (M:Nat->Prop) (pt:Nat->Option Nat) (ow:Nat->Option Value):Prop:=
 ∀pt' ow',Agr Z.hp pt pt' ow ow'->Rs ⟨zp w M,pt',ow'⟩ Z.sl a.tmps.toList/\
  ∀i l b cs T,hget Z.hp i= .cells l->pt i=some b->w.heap[b]? =some (.cells cs T (0,0))->Rs ⟨zp w M,pt',ow'⟩ l cs.toList
def zdp (D:Nat):Deferred:= {target:= .collected D,args:= #[]}
def zq7 (c:Ctx) (w:World) (M:Nat->Prop) (ds:List Deferred):Prop:= ∃Ds:List Nat,ds=Ds.map zdp/\Ds.Nodup/\ ∀D∈Ds,c.w0.heap.size<=D/\zp w M D (.deferred (some []))
theorem zq7.mono {c:Ctx} {w w':World} {M M':Nat->Prop} {ds:List Deferred} (hV: ∀b o,zp w M b o->zp w' M' b o) (h:zq7 c w M ds):zq7 c w' M' ds:=
 let ⟨Ds,h1,h2,h3⟩:=h;⟨Ds,h1,h2,fun D hD=>⟨(h3 D hD).1,hV _ _ (h3 D hD).2⟩⟩
theorem zq7.nil {c:Ctx} {w:World} {M:Nat->Prop}:zq7 c w M []:=⟨[],rfl,by simp,fun _ h=>by cases h⟩
theorem ug (a:Act) (d:Option Nat) (v:Value):(a.put d v).defers =a.defers:=by unfold Act.put;split<;>rfl
def Rel (c:Ctx) (Z:St) (a:Act) (w:World):Prop:=
 ∃M pt ow S,Good c M pt ow S Z.hp w/\zc5 Z a w M pt ow/\zq7 c w M a.defers
theorem Agr.refl (hp:Hp) (pt:Nat->Option Nat) (ow:Nat->Option Value):Agr hp pt pt ow ow:=fun _ _=>⟨rfl,rfl⟩
theorem za {ρ:Env} {sl:List AV} {a:Act} (h:Rs ρ sl a.tmps.toList) (x:Operand):R ρ (zk sl x) (a.eval x):=by
 cases x with
 |tmp t=>
  simp only[zk,Act.eval]
  cases ht:sl[t]? with
  |none=>
   rw[List.getD_eq_getElem?_getD,ht];simp[R]
  |some u=>
   obtain⟨v,hv,hr⟩:=h.get ht;rw[List.getD_eq_getElem?_getD,ht];have:a.tmps[t]? =some v:=by simpa using hv
   simp[this,hr]
 |const v=>
  simp only[zk,Act.eval];unfold cAV;split<;>simp[R]
 |global g=>simp[zk,R]
 |func f=>simp[zk,Act.eval,R,Rs]
theorem zj7 {ρ:Env} {sl:List AV} {a:Act} (h:Rs ρ sl a.tmps.toList): ∀(l:List Operand),Rs ρ (xe (zk sl) l) (l.map a.eval)
 | []=>by simp[xe,Rs]
 |x::l=>by simp only[xe,q1,Rs];exact⟨za h x,zj7 h l⟩
theorem uf (a:Act) (d:Nat) (v:Value):(a.put (some d) v).tmps.toList =a.tmps.toList.set d v:=by
 simp[Act.put]
theorem Rel.val {c:Ctx} {Z:St} {a:Act} {w:World} (h:Rel c Z a w) (o:Oper) (ids:List Nat) (bs:List Blk) (r:AV) (v:Value) (hw:wr o.op=false)
 (hv: ∀M pt ow S,Good c M pt ow S Z.hp w->zc5 Z a w M pt ow-> ∀pt' ow',Agr Z.hp pt pt' ow ow'->R ⟨zp w M,pt',ow'⟩ r v):Rel c (nxt o ids Z r bs) (a.put o.dst v) w:=by
 obtain⟨M,pt,ow,S,hg,hs,hd⟩:=h;refine⟨M,pt,ow,S,by simpa[nxt,hw]using hg,?_,by rw[ug];exact hd⟩;intro pt' ow' hag;have hag':Agr Z.hp pt pt' ow ow':=by simpa[nxt,hw]using hag
 obtain⟨h1,h2⟩:=hs pt' ow' hag';refine⟨?_,by simpa[nxt,hw]using h2⟩;simp only[nxt]
 cases o.dst with
 |none=>simpa[Act.put]using h1
 |some d=>
  rw[uf];exact h1.set (hv M pt ow S hg hs pt' ow' hag') d
