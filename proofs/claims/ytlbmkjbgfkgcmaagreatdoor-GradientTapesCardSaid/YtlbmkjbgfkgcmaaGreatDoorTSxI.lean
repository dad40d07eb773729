/- The world grows by a block; a block is written. -/
import Derived.Test.YtlbmkjbgfkgcmaaGreatDoorTSxH
set_option linter.all false
namespace Go.Sx
open Go
structure Ext(w w':World):Prop where
 os:w'.os=w.os
 tape:w'.tape=w.tape
 output:w'.output=w.output
 size:w.heap.size<=w'.heap.size
 block:∀b,b<w.heap.size->w'.heap[b]? =w.heap[b]?
theorem Ext.refl(w:World):Ext w w:=⟨rfl,rfl,rfl,Nat.le_refl _,fun _ _=>rfl⟩
theorem Ext.alloc(w:World)(ob:Obj):Ext w (w.alloc ob):=
 ⟨rfl,rfl,rfl,OC,fun b hb=>by show(w.heap.push ob)[b]? =_;rw[Array.getElem?_push,Z7 O]⟩
theorem Ext.drew(w:World):Ext w w.drew:=⟨rfl,rfl,rfl,Nat.le_refl _,fun _ _=>rfl⟩
theorem Ext.drawn(w:World)(n:Nat):Ext w {w with drawn:=n}:=⟨rfl,rfl,rfl,Nat.le_refl _,fun _ _=>rfl⟩
theorem zj{w:World}{b:Nat}{o:Obj}(h:w.heap[b]? =some o):b<w.heap.size:=(Array.getElem?_eq_some_iff.1 h).1
theorem Ext.get{w w':World}(h:Ext w w'){b:Nat}{o:Obj}(hb:w.heap[b]? =some o):w'.heap[b]? =some o:=by
 rw[h.block b (zj hb)];exact hb
theorem zy{w w':World}{M M':Nat->Prop}(hb:∀b o,¬M b->w.heap[b]? =some o->¬M' b/\w'.heap[b]? =some o):∀b o,zo w M b o->zo w' M' b o:=
 fun b o h=>hb b o h.1 h.2
theorem zdn{w w':World}{M:Nat->Prop}(he:Ext w w'):∀b o,zo w M b o->zo w' M b o:=zy fun b o hm hb=>⟨hm,he.get hb⟩
theorem Core.ext{M:Nat->Prop}{pt:Nat->Option Nat}{ow:Nat->Option Value}{S:Nat->Prop}{hp:Hp}{w w':World}(h:Core M pt ow S hp w)(he:Ext w w'):Core M pt ow S hp w' where
 fresh b hb:=Nat.lt_of_lt_of_le (h.fresh b hb) he.size
 mt:=h.mt
 inj:=h.inj
 gm:=h.gm
 gd:=h.gd
 dpt:=h.dpt
 dow:=h.dow
 blk i:=(h.blk i).mono rfl rfl (zdn he) (fun _=>h.ptow) (fun _ _ _ hb=>he.get hb) (fun _ _ _ hb=>he.get hb)
theorem Good.ext{c:Ctx}{M:Nat->Prop}{pt:Nat->Option Nat}{ow:Nat->Option Value}{S:Nat->Prop}{hp:Hp}{w w':World}(h:Good c M pt ow S hp w)(he:Ext w w'):Good c M pt ow S hp w' where
 toCore:=h.toCore.ext he
 os:=he.os.trans h.os
 tape:=he.tape.trans h.tape
 output:=he.output.trans h.output
 size:=Nat.le_trans h.size he.size
 keep b hb hm:=(he.block b (Nat.lt_of_lt_of_le hb h.size)).trans (h.keep b hb hm)
 m0:=h.m0
 m1:=h.m1
 loc:=h.loc
 gl:=h.gl
 farp:=h.farp
 farw:=h.farw
theorem zdj.ext{c:Ctx}{Y:St}{a:Act}{w w':World}{M:Nat->Prop}{pt:Nat->Option Nat}{ow:Nat->Option Value}{S:Nat->Prop}(hg:Good c M pt ow S Y.hp w)(h:zdj Y a w M pt ow)(he:Ext w w'):zdj Y a w' M pt ow:=by
 intro pt' ow' hag;obtain⟨h1,h2⟩:=h pt' ow' hag;have hle:∀is:List Nat,Env.le ⟨zo w M,pt',ow'⟩ ⟨zo w' M,pt',ow'⟩ is:=fun is=>⟨zdn he,fun _ _=>⟨fun _ h=>h,fun _ h=>h⟩⟩
 refine⟨h1.imp _ _ (hle _),fun i l b cs T hl hb hcs=>?_⟩;obtain⟨b',cs',T',h3,h4⟩:=hg.cel i l hl;rw[hb]at h3;cases h3
 have:=he.get h4;rw[hcs]at this;cases this
 exact(h2 i l b cs T hl hb h4).imp _ _ (hle _)
theorem Rel.ext{c:Ctx}{Y:St}{a:Act}{w w':World}(h:Rel c Y a w)(he:Ext w w'):Rel c Y a w':=by
 obtain⟨M,pt,ow,S,hg,hs,hd⟩:=h;exact⟨M,pt,ow,S,hg.ext he,hs.ext hg he,hd.mono (zdn he)⟩
theorem Rel.valExt{c:Ctx}{Y:St}{a:Act}{w w':World}(h:Rel c Y a w)(he:Ext w w')(o:Oper)(ids:List Nat)(bs:List Blk)(r:AV)(v:Value)(hw:wr o.op=false)
 (hv:∀M pt ow S,Good c M pt ow S Y.hp w->zdj Y a w M pt ow->∀pt' ow',Agr Y.hp pt pt' ow ow'->R ⟨zo w' M,pt',ow'⟩ r v):Rel c (nxt o ids Y r bs) (a.put o.dst v) w':=by
 obtain⟨M,pt,ow,S,hg,hs,hd⟩:=h;refine⟨M,pt,ow,S,by simpa[nxt,hw]using hg.ext he,?_,by rw[uf];exact hd.mono (zdn he)⟩;have hs':=hs.ext hg he;intro pt' ow' hag;have hag':Agr Y.hp pt pt' ow ow':=by simpa[nxt,hw]using hag
 obtain⟨h1,h2⟩:=hs' pt' ow' hag';refine⟨?_,by simpa[nxt,hw]using h2⟩;simp only[nxt]
 cases o.dst with
 |none=>simpa[Act.put]using h1
 |some d=>
  rw[ue];exact h1.set (hv M pt ow S hg hs pt' ow' hag') d
def upd{α:Type}(f:Nat->α)(i:Nat)(v:α):Nat->α:=fun j=>if j=i then v else f j
theorem wm{α:Type}(f:Nat->α)(i:Nat)(v:α):upd f i v i=v:=by simp[upd]
theorem ud{α:Type}(f:Nat->α){i j:Nat}(v:α)(h:j≠i):upd f i v j=f j:=by simp[upd,h]
section
variable {P:Program} {T:Tab} {F:Wf} {C:Con} {c:Ctx} {o:Oper} {Y:St} {a:Act} {w:World} {E:AV->List Blk->Prop} {ids:List Nat} {bs:List Blk} {dst:Nat}
theorem zbr{b:Blk}(h:b.isPt=true):b.isFree=false:=by cases b<;>first|rfl|cases h
theorem zng{b:Blk}(h:b.isPt=true):b.isBuf=false:=by cases b<;>first|rfl|cases h
theorem Rel.newB(h:Rel c Y a w){d:Nat}(hd:hget Y.hp d=.free)(hlo:d<=999999)(nb:Blk)(ob:Obj)(r:AV)(v:Value)(hw:wr o.op=true)(hnb:nb.isPt=true)
 (hB:∀M pt ow S,Good c M pt ow S Y.hp w->zdj Y a w M pt ow->∀V':kf,(∀b o,zo w M b o->V' b o)->uc (w.alloc ob) V' (upd pt d (some w.heap.size)) ow S d nb)
 (hr:∀ρ:Env,ρ.pt d=some w.heap.size->R ρ r v)
 (hl:∀l,nb=.cells l->∀M pt ow S,Good c M pt ow S Y.hp w->zdj Y a w M pt ow->∀pt' ow',Agr Y.hp pt pt' ow ow'->∃cs Ty,ob=.cells cs Ty (0,0)/\Rs ⟨zo w M,pt',ow'⟩ l cs.toList):
 Rel c (nxt o [d] Y r [nb]) (a.put o.dst v) (w.alloc ob):=by
 obtain⟨M,pt,ow,S,hg,hs,hdf⟩:=h;have hk:uh Y.hp d:=zr (by rw[hd];simp);have hptn:pt d=none:=hg.ptn (by rw[hd];rfl);have hown:ow d=none:=hg.own (by rw[hd];rfl);have he:=Ext.alloc w ob;have hnew:(w.alloc ob).heap[w.heap.size]? =some ob:=by
  show(w.heap.push _)[w.heap.size]? =_;simp
 let M':Nat->Prop:=fun b=>M b\/b=w.heap.size
 have hV:∀b ob',zo w M b ob'->zo (w.alloc ob) M' b ob':=zy fun b ob' hm hb=>⟨fun h'=>h'.elim hm fun e=>by have:=zj hb;omega,he.get hb⟩
 have hpt':∀i,i≠d->upd pt d (some w.heap.size) i=pt i:=fun i hi=>ud _ _ hi
 have hbl:∀i b,bl (upd pt d (some w.heap.size)) ow i=some b->(i=d/\b=w.heap.size)\/(i≠d/\bl pt ow i=some b):=fun i b hb=>by
  by_cases e:i=d
  .subst e;simp only[bl,wm]at hb;cases hb;exact .inl ⟨rfl,rfl⟩
  .refine .inr ⟨e,?_⟩;simpa only[bl,hpt' i e]using hb
 have hnx:(nxt o [d] Y r [nb]).hp =xo Y.hp d nb:=by simp[nxt,hw,qq]
 have hget_d:hget (xo Y.hp d nb) d=nb:=qb hk;have hget_ne:∀i,i≠d->hget (xo Y.hp d nb) i=hget Y.hp i:=fun i hi=>zx hi
 refine⟨M',upd pt d (some w.heap.size),ow,S,?_,?_,by rw[uf];exact hdf.mono hV⟩
 .rw[hnx];have hge:=hg.ext he;exact {
   os:=hge.os,tape:=hge.tape,output:=hge.output,size:=hge.size,keep:=hge.keep
   fresh:=fun b hb=>hb.elim (fun h=>hge.fresh b h) fun e=>by subst e;simp
   m0:=fun b hb=>.inl (hg.m0 b hb)
   m1:=hg.m1
   mt:=fun i b hb=>(hbl i b hb).elim (fun h=>.inr h.2) fun h=>.inl (hg.mt i b h.2)
   gm:=fun b hb=>.inl (hg.gm b hb)
   gl:=hg.gl
   gd:=fun i b hb hS=>(hbl i b hb).elim (fun h=>by have:=hg.fresh b (hg.gm b hS);omega) fun h=>hg.gd i b h.2 hS
   loc:=fun i b hb=>(hbl i b hb).elim (fun h=>.inl (by rw[h.2];exact hg.size)) fun h=>hg.loc i b h.2
   farp:=fun i b hi hb=>by rw[hpt' i O]at hb;exact hg.farp i b hi hb
   farw:=hg.farw
   inj:=fun i j b hi hj=>by
    rcases hbl i b hi with ⟨e1,e2⟩|⟨e1,e2⟩<;>rcases hbl j b hj with ⟨e3,e4⟩|⟨e3,e4⟩
    .rw[e1,e3]
    .have:=hg.fresh b (hg.mt j b e4);omega
    .have:=hg.fresh b (hg.mt i b e2);omega
    .exact hg.inj i j b e2 e4
   dpt:=fun i b hb=>by
    by_cases e:i=d
    .subst e;rw[hget_d];exact hnb
    .rw[hpt' i e]at hb;rw[hget_ne i e];exact hg.dpt i b hb
   dow:=fun i b hb=>by
    have e:i≠d:=fun e=>by subst e;rw[hown]at hb;cases hb
    rw[hget_ne i e];exact hg.dow i b hb
   blk:=fun i=>by
    by_cases e:i=d
    .subst e;rw[hget_d];exact hB M pt ow S hg hs _ hV
    .rw[hget_ne i e];exact(hg.blk i).mono (hpt' i e) rfl hV (fun _=>hg.ptow) (fun _ _ _ hb=>he.get hb) (fun _ _ _ hb=>he.get hb)}
 .intro pt' ow' hag;rw[hnx]at hag;have hag':Agr Y.hp pt pt' ow ow':=fun i hi=>by
   have e:i≠d:=fun e=>by subst e;rw[hd]at hi;simp[Blk.isFree]at hi
   have:=hag i (by rw[hget_ne i e];exact hi)
   rwa [hpt' i e]at this
  have hptd:pt' d=some w.heap.size:=by
   have:=(hag d (by rw[hget_d];exact zbr hnb)).1;rwa [wm]at this
  obtain⟨h1,h2⟩:=hs pt' ow' hag';have hle:∀is:List Nat,Env.le ⟨zo w M,pt',ow'⟩ ⟨zo (w.alloc ob) M',pt',ow'⟩ is:=fun is=>⟨hV,fun _ _=>⟨fun _ h=>h,fun _ h=>h⟩⟩
  refine⟨?_,fun i l' b cs' T' hl' hb hcs=>?_⟩
  .have h1':=h1.imp _ _ (hle _);simp only[nxt]
   cases ho:o.dst with
   |none=>simpa[Act.put]using h1'
   |some d'=>
    rw[ue];exact h1'.set (hr _ hptd) d'
  .rw[hnx]at hl';by_cases e:i=d
   .subst e;rw[hget_d]at hl';subst hl';rw[wm]at hb;cases hb
    obtain⟨cs,Ty,rfl,hrs⟩:=hl l' rfl M pt ow S hg hs pt' ow' hag';rw[hnew]at hcs;cases hcs
    exact hrs.imp _ _ (hle _)
   .rw[hget_ne i e]at hl';rw[hpt' i e]at hb;obtain⟨b',cs'',T'',h3,h4⟩:=hg.cel i l' hl';rw[hb]at h3;cases h3
    have:=he.get h4;rw[hcs]at this;cases this
    exact(h2 i l' b cs' T' hl' hb h4).imp _ _ (hle _)
theorem Rel.new(h:Rel c Y a w){d:Nat}(hd:hget Y.hp d=.free)(hlo:d<=999999)(l:List AV)(cs:Array Value)(Ty:TypeId)(hw:wr o.op=true)
 (hl:∀M pt ow S,Good c M pt ow S Y.hp w->zdj Y a w M pt ow->∀pt' ow',Agr Y.hp pt pt' ow ow'->Rs ⟨zo w M,pt',ow'⟩ l cs.toList):
 Rel c (nxt o [d] Y (.ptr d 0) [.cells l]) (a.put o.dst (.pointer (some ⟨w.heap.size,0,none⟩))) (w.alloc (.cells cs Ty)):=by
 refine h.newB hd hlo (.cells l) (.cells cs Ty) _ _ hw rfl (fun M pt ow S hg hs V' hV=>⟨w.heap.size,cs,Ty,wm _ _ _,by show(w.heap.push _)[w.heap.size]? =_;simp⟩) (fun ρ hρ=>?_) fun l' e M pt ow S hg hs pt' ow' hag=>?_
 .simp only[R];exact⟨⟨_,rfl⟩,fun b hb=>by rw[hρ]at hb;cases hb;rfl⟩
 .cases e;exact⟨cs,Ty,rfl,hl M pt ow S hg hs pt' ow' hag⟩
theorem zr0(hT:TabOK P T)(hlo:Nat.ble (ve o) 99999=true)(h:Rel c Y a w){t:TypeId}(ho:o.op=.alloc t)(he:qo T C (.alloc t) (ve o) (zm Y.sl) (nd T o Y) (qj Y.hp (nd T o Y)) E):Snd P F T c o Y a w E:=by
 have hn:nd T o Y= [ve o]:=by simp[nd,ho,xt]
 rw[hn,jb]at he;simp only[qo]at he;split at he
 .rename_i hf;simp at hf;obtain⟨i,hmem,he⟩:=qu _ _ _ he;have hi:=hT.ti _ _ hmem;obtain⟨inf,z,hinf,_,_,hz,_,hzr⟩:=hi.inf;refine⟨_,_,he,fun Q=>?_⟩;rw[hn];refine ur (v:=.pointer (some ⟨w.heap.size,0,none⟩)) (w':=w.alloc (.cells z.cells t)) ?_ (h.new hf (by have:=Nat.le_of_ble_eq_true hlo;omega) _ z.cells t (by simp[wr,ho]) fun M pt ow S _ _ pt' ow' _=>hzr _);simp[execOp,ho,Instr.alloc,zv8 hinf hz,newVar,newRow,newObj,Sem.run]
 .exact he.elim
theorem zz4(hlo:Nat.ble (ve o) 99999=true)(h:Rel c Y a w){t:TypeId}{x:Operand}(ho:o.op=.box t x)(he:qo T C (.box t x) (ve o) (zm Y.sl) (nd T o Y) (qj Y.hp (nd T o Y)) E):Snd P F T c o Y a w E:=by
 have hn:nd T o Y= [ve o]:=by simp[nd,ho,xt]
 rw[hn,jb]at he;simp only[qo]at he;split at he
 .rename_i hf h1;simp at hf;refine⟨_,_,he,fun Q=>?_⟩;rw[hn];refine ur (v:=.pointer (some ⟨w.heap.size,0,none⟩)) (w':=w.alloc (.cells (a.eval x).cells t)) ?_ (h.new hf (by have:=Nat.le_of_ble_eq_true hlo;omega) _ (a.eval x).cells t (by simp[wr,ho]) fun M pt ow S _ hs pt' ow' hag=>(zc (hs pt' ow' hag).1 x).cells h1);simp[execOp,ho,Instr.box,newVar,newRow,newObj,Sem.run]
 .exact he.elim
structure Wr(w w':World)(b:Nat):Prop where
 os:w'.os=w.os
 tape:w'.tape=w.tape
 output:w'.output=w.output
 size:w'.heap.size=w.heap.size
 other:∀b',b'≠b->w'.heap[b']? =w.heap[b']?
theorem Rel.writeB(h:Rel c Y a w){i b:Nat}{nb:Blk}{w':World}(hW:Wr w w' b)(hw:wr o.op=true)(r:AV)(hra:r=.any)
 (hc:∀M pt ow S,Good c M pt ow S Y.hp w->zdj Y a w M pt ow->bl pt ow i=some b/\nb.isPt=(hget Y.hp i).isPt /\nb.isBuf=(hget Y.hp i).isBuf /\(hget Y.hp i).isFree =false/\nb.isFree=false/\
   (∀V':kf,(∀b o,zo w M b o->V' b o)->uc w' V' pt ow S i nb)/\
   (∀l,nb=.cells l->∃cs Ty,w'.heap[b]? =some (.cells cs Ty (0,0))/\∀pt' ow',Agr Y.hp pt pt' ow ow'->Rs ⟨zo w M,pt',ow'⟩ l cs.toList)):
 Rel c (nxt o [i] Y r [nb]) (a.put o.dst undef) w':=by
 obtain⟨M,pt,ow,S,hg,hs,hdf⟩:=h;obtain⟨hbl,hnp,hnw,hfr,hfr',hbk,hl'⟩:=hc M pt ow S hg hs;have hk:uh Y.hp i:=zr (by
  intro e;unfold bl at hbl
  cases hq:pt i with
  |some z=>have:=hg.dpt i z hq;rw[e]at this;cases this
  |none=>
   rw[hq]at hbl
   cases hq2:ow i with
   |none=>rw[hq2]at hbl;cases hbl
   |some z=>have:=hg.dow i z hq2;rw[e]at this;cases this)
 have hMb:=hg.mt i b hbl;have hnx:(nxt o [i] Y r [nb]).hp =xo Y.hp i nb:=by simp[nxt,hw,qq]
 have hget_i:hget (xo Y.hp i nb) i=nb:=qb hk;have hget_ne:∀j,j≠i->hget (xo Y.hp i nb) j=hget Y.hp j:=fun j hj=>zx hj
 have hV:∀b' ob,zo w M b' ob->zo w' M b' ob:=zy fun b' ob hm hb'=>⟨hm,by rw[hW.other b' (fun e=>hm (e▸hMb))];exact hb'⟩
 have hne:∀j b',j≠i->bl pt ow j=some b'->b'≠b:=fun j b' hj hb' e=>hj (hg.inj j i b (e▸hb') hbl)
 have hSb:∀b' ob,S b'->w.heap[b']? =some ob->w'.heap[b']? =some ob:=fun b' ob hS hb'=>by
  rw[hW.other b' (fun e=>hg.gd i b hbl (e▸hS))];exact hb'
 refine⟨M,pt,ow,S,?_,?_,by rw[uf];exact hdf.mono hV⟩
 .rw[hnx];exact {
   os:=hW.os.trans hg.os,tape:=hW.tape.trans hg.tape,output:=hW.output.trans hg.output
   size:=by rw[hW.size];exact hg.size
   keep:=fun b' hb' hm=>by
    have:b'≠b:=fun e=>by
     rcases hg.loc i b hbl with h1|h1
     .omega
     .exact hm (e▸h1.1)
    rw[hW.other b' this];exact hg.keep b' hb' hm
   fresh:=fun b' hb'=>by rw[hW.size];exact hg.fresh b' hb'
   m0:=hg.m0,m1:=hg.m1,mt:=hg.mt,loc:=hg.loc,farp:=hg.farp,farw:=hg.farw,inj:=hg.inj,gm:=hg.gm,gl:=hg.gl,gd:=hg.gd
   dpt:=fun j b' hb'=>by
    by_cases e:j=i
    .subst e;rw[hget_i,hnp];exact hg.dpt j b' hb'
    .rw[hget_ne j e];exact hg.dpt j b' hb'
   dow:=fun j h' hb'=>by
    by_cases e:j=i
    .subst e;rw[hget_i,hnw];exact hg.dow j h' hb'
    .rw[hget_ne j e];exact hg.dow j h' hb'
   blk:=fun j=>by
    by_cases e:j=i
    .subst e;rw[hget_i];exact hbk _ hV
    .rw[hget_ne j e];exact(hg.blk j).mono rfl rfl hV (fun _=>hg.ptow) (fun b' _ hb' hcs=>by rw[hW.other b' (hne j b' e hb')];exact hcs) hSb}
 .intro pt' ow' hag;rw[hnx]at hag;have hag':Agr Y.hp pt pt' ow ow':=fun j hj=>by
   by_cases e:j=i
   .subst e;exact hag j (by rw[hget_i];exact hfr')
   .exact hag j (by rw[hget_ne j e];exact hj)
  obtain⟨h1,h2⟩:=hs pt' ow' hag';have hle:∀is:List Nat,Env.le ⟨zo w M,pt',ow'⟩ ⟨zo w' M,pt',ow'⟩ is:=fun is=>⟨hV,fun _ _=>⟨fun _ h=>h,fun _ h=>h⟩⟩
  refine⟨?_,fun j l'' b' cs'' T'' hl'' hb' hcs''=>?_⟩
  .simp only[nxt];have h1':=h1.imp _ _ (hle _)
   cases hod:o.dst with
   |none=>simpa[Act.put]using h1'
   |some d=>rw[ue];exact h1'.set (by rw[hra];simp[R]) d
  .rw[hnx]at hl'';by_cases e:j=i
   .subst e;rw[hget_i]at hl'';obtain⟨cs,Ty,h3,h4⟩:=hl' l'' hl'';have hbb:b'=b:=by simp only[bl,hb']at hbl;cases hbl;rfl
    subst hbb;rw[h3]at hcs'';cases hcs''
    exact(h4 pt' ow' hag').imp _ _ (hle _)
   .rw[hget_ne j e]at hl'';rw[hW.other b' (hne j b' e (by simp[bl,hb']))]at hcs'';exact(h2 j l'' b' cs'' T'' hl'' hb' hcs'').imp _ _ (hle _)
theorem Wr.row(w:World)(b:Nat)(cs':Array Value):Wr w (w.setRow b cs') b:=
 ⟨rfl,rfl,rfl,OC,fun b' hb'=>setRow_other w b b' cs' hb'⟩
theorem Rel.write(h:Rel c Y a w){i:Nat}{l l':List AV}(hi:hget Y.hp i=.cells l)(hw:wr o.op=true)(r:AV)(cs cs':Array Value)(Ty:TypeId)(b:Nat)
 (hb:∀M pt ow S,Good c M pt ow S Y.hp w->zdj Y a w M pt ow->pt i=some b/\∀pt' ow',Agr Y.hp pt pt' ow ow'->Rs ⟨zo w M,pt',ow'⟩ l' cs'.toList) (hcs:w.heap[b]? =some (.cells cs Ty (0,0))) (hra:r=.any):
 Rel c (nxt o [i] Y r [.cells l']) (a.put o.dst undef) (w.setRow b cs'):=by
 refine h.writeB (Wr.row w b cs') hw r hra fun M pt ow S hg hs=>?_
 obtain⟨h1,h2⟩:=hb M pt ow S hg hs;have h3:=setRow_heap w b cs cs' Ty (0,0) hcs;rw[hi];exact⟨by simp[bl,h1],rfl,rfl,rfl,rfl,fun V' _=>⟨b,cs',Ty,h1,h3⟩,fun l e=>by cases e;exact⟨cs',Ty,h3,h2⟩⟩
end
