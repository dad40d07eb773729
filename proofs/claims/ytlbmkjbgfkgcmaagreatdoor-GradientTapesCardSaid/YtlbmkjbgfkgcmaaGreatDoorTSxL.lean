/- Growing slices. -/
import Derived.Test.YtlbmkjbgfkgcmaaGreatDoorTSxK
set_option linter.all false
open List renaming getElem?_eq_some_iff->q0,getElem?_append_right->q2,getElem?_append_left->q3,getElem?_eq_getElem->q4,getElem?_map->qC,range->qF
open Nat renaming mul_le_mul_right->q1,lt_of_lt_of_le->qA,mul_comm->qB,succ_mul->qD,le_trans->qE
namespace Go.Sx
open Go
theorem Leaf.oneCell{V:kf}{u:AV}{v:Value}(h:Leaf V u v):v.oneCell'=true:=by cases h<;>rfl
theorem zc8{w:World}{e:TypeId}{k:Elt}{xs:List k.T}{h:Value}{V:kf}(hb:zae w V e k xs h):∃vals:List Value,vals.length=xs.length*k.size/\
 (∀(i:Nat)(x:k.T),xs[i]? =some x->∀(j:Nat)(u:AV),(k.cells x)[j]? =some u->∃v,vals[i*k.size+j]? =some v/\Leaf V u v)/\
 ((h=.slice none 0 0/\xs= [])\/∃b cap cs,h=.slice (some ⟨b,0,none⟩) xs.length cap/\w.heap[b]? =some (.cells cs e (0,0))/\xs.length<=cap/\cap<=maxLen/\cs.size=cap*k.size/\cs.toList.take (xs.length*k.size)=vals):=by
 rcases hb with ⟨h1,h2⟩|⟨b,cap,cs,h1,h2,h3,h4,h5,h6⟩
 .subst h2;exact⟨[],OC,OC,.inl ⟨h1,rfl⟩⟩
 .have hle:xs.length*k.size<=cs.toList.length:=by simp;rw[h5];exact q1 _ h3
  refine⟨cs.toList.take (xs.length*k.size),by rw[List.length_take];omega,fun i x hx j u hu=>?_,.inr ⟨b,cap,cs,h1,h2,h3,h4,h5,rfl⟩⟩;obtain⟨v,hv,hl⟩:=h6 i x hx j u hu;refine⟨v,?_,hl⟩;have hi:i<xs.length:=(q0.1 hx).1;have hj:j<k.size:=by have:=(q0.1 hu).1;rwa [qn]at this
  have:i*k.size+j<xs.length*k.size:=by
   calc i*k.size+j<i*k.size+k.size:=by omega
    _=(i+1)*k.size:=by rw[qD]
    _<=xs.length*k.size:=q1 _ O
  rw[List.getElem?_take,Z6 this];simpa using hv
theorem zbh{w:World}{M:Nat->Prop}{k:Elt}{ys:List k.T}{ao:Option Addr}{n cap:Nat}(h:Leaf (zo w M) (.sl k ys) (.slice ao n cap))(hne:ys≠ []):
 n=ys.length/\∃b p,ao=some ⟨b,p,none⟩/\∃vals:List Value,vals.length=ys.length*k.size/\(∀j v,vals[j]? =some v->w.cell? ⟨b,p+j,none⟩=some v)/\(∀v∈vals,v.oneCell'=true)/\
  ∀(i:Nat)(x:k.T),ys[i]? =some x->∀(j:Nat)(u:AV),(k.cells x)[j]? =some u->∃v,vals[i*k.size+j]? =some v/\Leaf (zo w M) u v:=by
 cases h with
 |sl _ _ _ _ _ b p hn hc hm ha hel=>
  refine⟨hn,b,p,ha hne,?_⟩;have hpos:=Elt.size_pos k;have key:∀q,q<ys.length*k.size->∃v,w.cell? ⟨b,p+q,none⟩=some v/\v.oneCell'=true/\∀(x:k.T),ys[q/k.size]? =some x->∀u,(k.cells x)[q % k.size]? =some u->Leaf (zo w M) u v:=by
   intro q hq;have hi:q/k.size<ys.length:=by
    rw[Nat.div_lt_iff_lt_mul hpos];exact hq
   have hx:ys[q/k.size]? =some ys[q/k.size]:=by simp[hi]
   have hat:=hel _ _ hx;have hr:q % k.size<k.size:=Nat.mod_lt _ hpos
   cases hat with
   |mk _ _ _ _ f h1 h2=>
    obtain⟨cs,T,fr,hv,hc'⟩:=h1 _ hr;have e:p+q=p+q/k.size*k.size+q % k.size:=by
     have:=Nat.div_add_mod q k.size;rw[qB]at this;omega
    have hul:q % k.size<(k.cells ys[q/k.size]).length :=by rw[qn];exact hr
    have hlf:=h2 _ _ (q4 hul);refine⟨f (q % k.size),?_,hlf.oneCell,fun x hx' u hu=>?_⟩
    .rw[e];simp only[World.cell?,hv.2];simpa using hc'
    .rw[hx]at hx';cases hx'
     exact h2 _ _ hu
  refine⟨(qF (ys.length*k.size)).map fun q=>(w.cell? ⟨b,p+q,none⟩).getD undef,OC,fun j v hv=>?_,fun v hv=>?_,fun i x hx j u hu=>?_⟩
  .rw[qC]at hv
   cases hr:(qF (ys.length*k.size))[j]? with
   |none=>rw[hr]at hv;simp at hv
   |some z=>
    have hj:j<ys.length*k.size:=by have:=(q0.1 hr).1;simpa using this
    have hz:z=j:=by have:=(q0.1 hr).2;simpa using this.symm
    subst hz;obtain⟨v',hv',_⟩:=key z hj;rw[hr]at hv;simp[hv']at hv;subst hv;exact hv'
  .obtain⟨q,hq,rfl⟩:=List.mem_map.1 hv;obtain⟨v',hv',h1,_⟩:=key q (by simpa using hq);rw[hv'];exact h1
  .have hi:i<ys.length:=(q0.1 hx).1;have hj:j<k.size:=by have:=(q0.1 hu).1;rwa [qn]at this
   have hq:i*k.size+j<ys.length*k.size:=by
    calc i*k.size+j<i*k.size+k.size:=by omega
     _=(i+1)*k.size:=by rw[qD]
     _<=ys.length*k.size:=q1 _ O
   obtain⟨v',hv',_,hlf⟩:=key _ hq;have hd:(i*k.size+j)/k.size=i:=by
    rw[qB,Nat.mul_add_div hpos,Nat.div_eq_of_lt hj,Nat.add_zero]
   have hm':(i*k.size+j) % k.size=j:=by
    rw[qB,Nat.mul_add_mod,Nat.mod_eq_of_lt hj]
   refine⟨v',?_,hlf x (by rw[hd];exact hx) u (by rw[hm'];exact hu)⟩;rw[qC,q4 (by simpa using hq)];simp[hv']
theorem zaz{V V':kf}{k:Elt}{xs ys:List k.T}{vs us:List Value}(hV:∀b o,V b o->V' b o)(hl:vs.length=xs.length*k.size)
 (h1:∀(i:Nat)(x:k.T),xs[i]? =some x->∀(j:Nat)(u:AV),(k.cells x)[j]? =some u->∃v,vs[i*k.size+j]? =some v/\Leaf V u v)
 (h2:∀(i:Nat)(x:k.T),ys[i]? =some x->∀(j:Nat)(u:AV),(k.cells x)[j]? =some u->∃v,us[i*k.size+j]? =some v/\Leaf V u v):
 ∀(i:Nat)(x:k.T),(xs++ys)[i]? =some x->∀(j:Nat)(u:AV),(k.cells x)[j]? =some u->∃v,(vs++us)[i*k.size+j]? =some v/\Leaf V' u v:=by
 intro i x hx j u hu;have hj:j<k.size:=by have:=(q0.1 hu).1;rwa [qn]at this
 by_cases hi:i<xs.length
 .rw[q3 hi]at hx;obtain⟨v,hv,hlf⟩:=h1 i x hx j u hu;have:i*k.size+j<vs.length:=(q0.1 hv).1;exact⟨v,by rw[q3 this];exact hv,hlf.mono hV⟩
 .rw[q2 O]at hx;obtain⟨v,hv,hlf⟩:=h2 _ x hx j u hu;have hge:xs.length*k.size<=i*k.size:=q1 _ O;refine⟨v,?_,hlf.mono hV⟩;rw[q2 O,hl];rw[show i*k.size+j-xs.length*k.size=(i-xs.length)*k.size+j from by rw[Nat.sub_mul];omega];exact hv
section
variable {P:Program} {T:Tab} {F:Wf} {C:Con} {c:Ctx} {o:Oper} {Y:St} {a:Act} {w:World} {E:AV->List Blk->Prop} {ids:List Nat} {bs:List Blk} {dst:Nat}
def ze0(hp:Hp)(old:Option Nat)(d:Nat)(nb:Blk):Hp:=xo (match old with
 |some i=>xo hp i .dead
 |none=>hp) d nb
def zm3(ow:Nat->Option Value)(old:Option Nat)(d:Nat)(v:Value):Nat->Option Value:=upd (match old with
 |some i=>upd ow i none
 |none=>ow) d (some v)
def zdu(ow:Nat->Option Value):Option Nat->Option Nat
 |some i=>(match ow i with
  |some (.slice (some a) _ _)=>some a.block
  | _=>none)
 |none=>none
theorem Rel.buf(h:Rel c Y a w){w':World}{d:Nat}(hd:hget Y.hp d=.free)(hlo:d<=999999\/(1500000<=d/\d<=1999998))(old:Option Nat)(hold:∀i,old=some i->(i<1000000\/1500000<=d)/\∃e k xs,hget Y.hp i=.buf e k xs)(e:TypeId)(k:Elt)(xs:List k.T)(v:Value)
 (hos:w'.os=w.os) (htape:w'.tape=w.tape) (hout:w'.output=w.output) (hsize:w.heap.size<=w'.heap.size) (σ':St) (hhp:σ'.hp=ze0 Y.hp old d (.buf e k xs)) (hsl:σ'.sl=match o.dst with
   |some q=>Y.sl.set q (.own d)
   |none=>Y.sl)
 (hk:∀M pt ow S,Good c M pt ow S Y.hp w->zdj Y a w M pt ow->(∀b,b<w.heap.size->zdu ow old≠some b->w'.heap[b]? =w.heap[b]?)/\
   (∀(M':Nat->Prop),(∀b,M' b->M b\/(w.heap.size<=b))->zae w' (zo w' M') e k xs v)/\
   (∃ad n cap,v=.slice ad n cap/\∀p,ad=some p->(zdu ow old=some p.block\/w.heap.size<=p.block)/\p.block<w'.heap.size)):
 Rel c σ' (a.put o.dst v) w':=by
 obtain⟨M,pt,ow,S,hg,hs,hdf⟩:=h;obtain⟨hsame,hbuf,ad,n,cap,hv,had⟩:=hk M pt ow S hg hs;have hkey:uh Y.hp d:=zr (by rw[hd];simp);have hnone:pt d=none/\ow d=none:=⟨hg.ptn (by rw[hd];rfl),hg.own (by rw[hd];rfl)⟩;have hod:∀i,old=some i->i≠d:=fun i hi e'=>by obtain⟨_,_,_,_,h'⟩:=hold i hi;rw[e',hd]at h';cases h'
 let M':Nat->Prop:=fun b=>M b\/(w.heap.size<=b/\∃p,ad=some p/\p.block=b)
 have hrow:∀b,zdu ow old=some b->M b:=fun b hb=>by
  unfold zdu at hb;split at hb
  .rename_i i;split at hb
   .rename_i p _ _ hq;cases hb
    refine hg.mt i _ ?_;have:pt i=none:=hg.ptow hq;simp[bl,this,hq]
   .cases hb
  .cases hb
 have hV:∀b ob,zo w M b ob->zo w' M' b ob:=zy fun b ob hm hb=>⟨fun h'=>h'.elim hm fun h=>by have:=zj hb;omega,by
  rw[hsame b (zj hb) (fun e'=>hm (hrow b e'))];exact hb⟩
 have hget_d:hget (ze0 Y.hp old d (.buf e k xs)) d=.buf e k xs:=by
  unfold ze0;refine qb ?_;split
  .exact zf1.2 hkey
  .exact hkey
 have hget_old:∀i,old=some i->hget (ze0 Y.hp old d (.buf e k xs)) i=.dead :=fun i hi=>by
  obtain⟨_,_,_,_,h'⟩:=hold i hi;unfold ze0;rw[zx (hod i hi),hi];exact qb (zr (by rw[h'];simp))
 have hget_ne:∀i,i≠d->old≠some i->hget (ze0 Y.hp old d (.buf e k xs)) i=hget Y.hp i:=fun i hi ho=>by
  unfold ze0;rw[zx hi];split
  .rename_i j;exact zx fun e'=>ho (by rw[e'])
  .rfl
 have how_d:zm3 ow old d v d=some v:=wm _ _ _;have how_old:∀i,old=some i->zm3 ow old d v i=none:=fun i hi=>by
  unfold zm3;rw[ud _ _ (hod i hi),hi];exact wm _ _ _
 have how_ne:∀i,i≠d->old≠some i->zm3 ow old d v i=ow i:=fun i hi ho=>by
  unfold zm3;rw[ud _ _ hi];split
  .rename_i j;exact ud _ _ fun e'=>ho (by rw[e'])
  .rfl
 have hpt_old:∀i,old=some i->pt i=none:=fun i hi=>by
  obtain⟨_,_,_,_,h'⟩:=hold i hi;exact hg.ptn (by rw[h'];rfl)
 have hbl:∀i b,bl pt (zm3 ow old d v) i=some b->(i=d/\∃p,ad=some p/\p.block=b)\/(i≠d/\old≠some i/\bl pt ow i=some b):=fun i b hb=>by
  by_cases e1:i=d
  .subst e1;unfold bl at hb;rw[hnone.1,how_d,hv]at hb
   cases ad with
   |none=>simp at hb
   |some p=>simp at hb;exact .inl ⟨rfl,p,rfl,hb⟩
  .by_cases e2:old=some i
   .simp only[bl,hpt_old i e2,how_old i e2]at hb;cases hb
   .refine .inr ⟨e1,e2,?_⟩;simpa only[bl,how_ne i e1 e2]using hb
 have hrowi:∀i b,old≠some i->bl pt ow i=some b->zdu ow old≠some b:=fun i b ho hb hr=>by
  unfold zdu at hr;split at hr
  .rename_i j;split at hr
   .rename_i p _ _ hq;cases hr
    have hptj:=hpt_old j rfl;exact ho (by rw[hg.inj i j _ hb (by simp[bl,hptj,hq])])
   .cases hr
  .cases hr
 have hsame':∀i b ob,old≠some i->bl pt ow i=some b->w.heap[b]? =some ob->w'.heap[b]? =some ob:=fun i b ob ho hb hh=>by
  rw[hsame b (zj hh) (hrowi i b ho hb)];exact hh
 have hrS:∀b,S b->zdu ow old≠some b:=fun b hS hr=>by
  unfold zdu at hr;split at hr
  .rename_i j;split at hr
   .rename_i p _ _ hq;cases hr
    exact hg.gd j _ (by simp[bl,hpt_old j rfl,hq]) hS
   .cases hr
  .cases hr
 refine⟨M',pt,zm3 ow old d v,S,?_,?_,by rw[uf];exact hdf.mono hV⟩
 .rw[hhp];exact {
   os:=hos.trans hg.os,tape:=htape.trans hg.tape,output:=hout.trans hg.output
   size:=qE hg.size hsize
   keep:=fun b hb hm=>by
    have hbs:b<w.heap.size:=qA hb hg.size;have:zdu ow old≠some b:=fun hr=>by
     unfold zdu at hr;split at hr
     .rename_i j;split at hr
      .rename_i p _ _ hq;cases hr
       have hptj:=hpt_old j rfl;rcases hg.loc j p.block (by simp[bl,hptj,hq])with h1|h1
       .omega
       .exact hm h1.1
      .cases hr
     .cases hr
    rw[hsame b hbs this];exact hg.keep b hb hm
   fresh:=fun b hb=>by
    rcases hb with hb|⟨_,p,hp,rfl⟩
    .exact qA (hg.fresh b hb) hsize
    .exact(had p hp).2
   m0:=fun b hb=>.inl (hg.m0 b hb)
   m1:=hg.m1
   gm:=fun b hb=>.inl (hg.gm b hb)
   gl:=hg.gl
   gd:=fun i b hb hS=>by
    rcases hbl i b hb with ⟨_,p,hp,rfl⟩|⟨_,_,h3⟩
    .rcases(had p hp).1 with h1|h1
     .exact hrS _ hS h1
     .have:=hg.fresh _ (hg.gm _ hS);omega
    .exact hg.gd i b h3 hS
   mt:=fun i b hb=>by
    rcases hbl i b hb with ⟨_,p,hp,rfl⟩|⟨_,_,h3⟩
    .rcases(had p hp).1 with h1|h1
     .exact .inl (hrow _ h1)
     .exact .inr ⟨h1,p,hp,rfl⟩
    .exact .inl (hg.mt i b h3)
   loc:=fun i b hb=>by
    rcases hbl i b hb with ⟨hid,p,hp,rfl⟩|⟨_,_,h3⟩
    .rcases(had p hp).1 with h1|h1
     .unfold zdu at h1;split at h1
      .rename_i j;split at h1
       .rename_i q _ _ hq;have hptj:=hpt_old j rfl;simp at h1;rw[<-h1];rcases hg.loc j q.block (by simp[bl,hptj,hq])with h2|h2
        .exact .inl h2
        .exact .inr ⟨h2.1,by have:=(hold j rfl).1;omega⟩
       .cases h1
      .cases h1
     .exact .inl (qE hg.size h1)
    .exact hg.loc i b h3
   farp:=hg.farp
   farw:=fun i h' hi hb=>by
    by_cases e2:old=some i
    .rw[how_old i e2]at hb;cases hb
    .by_cases e1:i=d
     .exact .inr O
     .rw[how_ne i e1 e2]at hb;exact hg.farw i h' hi hb
   inj:=fun i j b hi hj=>by
    rcases hbl i b hi with ⟨e1,p,hp,rfl⟩|⟨e1,e2,e3⟩<;>rcases hbl j _ hj with ⟨e4,q,hq,e5⟩|⟨e4,e5,e6⟩
    .rw[e1,e4]
    .rcases(had p hp).1 with h1|h1
     .exact absurd h1 (hrowi j _ e5 e6)
     .have:=hg.fresh _ (hg.mt j _ e6);omega
    .rcases(had q hq).1 with h1|h1
     .rw[e5]at h1;exact absurd h1 (hrowi i _ e2 e3)
     .have:=hg.fresh _ (hg.mt i _ e3);omega
    .exact hg.inj i j b e3 e6
   dpt:=fun i b hb=>by
    have e1:i≠d:=fun e1=>by subst e1;rw[hnone.1]at hb;cases hb
    have e2:old≠some i:=fun e2=>by rw[hpt_old i e2]at hb;cases hb
    rw[hget_ne i e1 e2];exact hg.dpt i b hb
   dow:=fun i h' hb=>by
    by_cases e1:i=d
    .subst e1;rw[hget_d];rfl
    .by_cases e2:old=some i
     .rw[how_old i e2]at hb;cases hb
     .rw[how_ne i e1 e2]at hb;rw[hget_ne i e1 e2];exact hg.dow i h' hb
   blk:=fun i=>by
    by_cases e1:i=d
    .subst e1;rw[hget_d];exact⟨v,how_d,hbuf M' fun b hb=>hb.imp id fun h=>h.1⟩
    .by_cases e2:old=some i
     .rw[hget_old i e2];trivial
     .rw[hget_ne i e1 e2];exact(hg.blk i).mono rfl (how_ne i e1 e2) hV (fun _=>hg.ptow) (fun b _ hb hh=>hsame' i b _ e2 hb hh) (fun b _ hS hh=>by rw[hsame b (zj hh) (hrS b hS)];exact hh)}
 .intro pt' ow' hag;rw[hhp]at hag
  let ow2:Nat->Option Value:=fun i=>if old=some i then ow i else ow' i
  have hag2:Agr Y.hp pt pt' ow ow2:=fun i hi=>by
   by_cases e2:old=some i
   .refine⟨?_,by simp[ow2,e2]⟩;exact(hag i (by rw[hget_old i e2];rfl)).1
   .have e1:i≠d:=fun e1=>by subst e1;rw[hd]at hi;simp[Blk.isFree]at hi
    have:=hag i (by rw[hget_ne i e1 e2];exact hi);refine⟨this.1,?_⟩;simp only[ow2,e2,if_false];rw[this.2,how_ne i e1 e2]
  obtain⟨h1,h2⟩:=hs pt' ow2 hag2;have hle:∀is:List Nat,Env.le ⟨zo w M,pt',ow2⟩ ⟨zo w' M',pt',ow'⟩ is:=fun is=>⟨hV,fun i _=>⟨fun _ h=>h,fun h' hh=>by
   by_cases e2:old=some i
   .have:=(hag i (by rw[hget_old i e2];rfl)).2;rw[how_old i e2]at this
    change ow' i=some h' at hh
    rw[this]at hh;cases hh
   .change ow2 i=some h'
    simp only[ow2,e2,if_false];exact hh⟩⟩
  refine⟨?_,fun i l b cs Ty hl hb hcs=>?_⟩
  .rw[hsl];have h1':=h1.imp _ _ (hle _)
   cases hod':o.dst with
   |none=>simpa[Act.put]using h1'
   |some q=>
    simp only;rw[ue];refine h1'.set ?_ q;simp only[R];refine⟨⟨ad,n,cap,hv⟩,fun h' hh=>?_⟩;have:=(hag d (by rw[hget_d];rfl)).2;rw[how_d]at this;rw[this]at hh;cases hh;rfl
  .rw[hhp]at hl;have e1:i≠d:=fun e1=>by subst e1;rw[hget_d]at hl;cases hl
   have e2:old≠some i:=fun e2=>by rw[hget_old i e2]at hl;cases hl
   rw[hget_ne i e1 e2]at hl;obtain⟨b',cs',Ty',h3,h4⟩:=hg.cel i l hl;rw[hb]at h3;cases h3
   have:=hsame' i b _ e2 (by simp[bl,hb]) h4;rw[hcs]at this;cases this
   exact(h2 i l b cs Ty hl hb h4).imp _ _ (hle _)
end
