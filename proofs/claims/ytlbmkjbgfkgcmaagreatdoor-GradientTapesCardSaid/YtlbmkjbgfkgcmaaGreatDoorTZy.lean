/- A variable in a box that holds a function and is not written again becomes data. -/
import Derived.Test.YtlbmkjbgfkgcmaaGreatDoorTZz
import Derived.Laws.MakeOwn
set_option linter.all false
open Array renaming length_toList->qH,getElem?_append_left->qJ,getElem?_eq_some_iff->qK,size_append->qM,getElem?_eq_none->qP,replicate->w2
open List renaming getElem?_eq_some_iff->q0,getElem?_eq_getElem->qA,length_append->qB,size_toArray->qC,getElem?_set_ne->qD,getElem?_set_self->qE,getElem?_toArray->qF,replicate->qI,getElem?_replicate->qN,getElem?_set->qX,length_take->qZ
open Nat renaming mul_le_mul_right->qG,le_refl->qL,zero_add->qO,eq_of_beq_eq_true->qQ,le_of_ble_eq_true->qR,add_mul->qS,lt_of_lt_of_le->qT,beq->qU,ble->qV,le_trans->qW,zero_mul->qY,mul_one->w1,lt_or_ge->w3
open Go.Builtin renaming zeroCells->w6
open Go.Fence renaming wide->w4
open Go.Region renaming binds->w5
open Go.Result renaming andThen_ok->w8
open Go.Value renaming slice->w7,oneCell'->w9
namespace Go.Sx
open Go
theorem Rel.freezeF{c:Ctx}{a:Act}{w:World}{sl:List AV}{hp:Hp}(h:Rel c ⟨sl,hp⟩ a w){t id n:Nat}(ht:sl[t]? =some (.ptr id 0))(hi:hget hp id=.cells [.fn n []])(hlo:id<=999999)
 (h1:id∉wk (sl.set t .any)) (h2:id∉zc4 (xo hp id .dead)):Rel c ⟨sl.set t (.rp .f0 n 0),xo hp id .dead⟩ a w:=by
 obtain⟨M,pt,ow,S,hg,hs,hdf⟩:=h;obtain⟨b0,cs0,Ty0,hp0,hh0⟩:=hg.cel id _ hi;have hv0:cs0.toList= [.func (.func n) #[] #[]]:=by
  have:=(hs pt ow (Agr.refl _ _ _)).2 id _ b0 cs0 Ty0 hi hp0 hh0
  match hcl:cs0.toList,this with
  | [v],⟨hv,_⟩=>
    simp only[R]at hv;obtain⟨vs,rfl,hr⟩:=hv;obtain⟨l⟩:=vs
    cases l with
    |nil=>rfl
    |cons x l=>simp[Rs]at hr
 let M':Nat->Prop:=fun b=>M b/\b≠b0
 let pt':Nat->Option Nat:=fun i=>if i=id then none else pt i
 have hpt':∀i,i≠id->pt' i=pt i:=fun i e=>by simp only[pt',Z7 e]
 have hpi:pt' id=none:=by simp only[pt',if_true]
 have hV:∀b ob,zo w M b ob->zo w M' b ob:=zy fun b ob hm hb=>⟨fun h'=>hm h'.1,hb⟩
 have hcell:zb5 (zo w M') b0 0 (.func (.func n) #[] #[]):=⟨cs0,Ty0,(0,0),⟨fun h=>h.2 rfl,hh0⟩,by rw[<-Array.getElem?_toList,hv0];rfl⟩;have how:ow id=none:=hg.own (by rw[hi];rfl);have hbl:∀i b,bl pt' ow i=some b->i≠id/\bl pt ow i=some b:=fun i b hb=>by
  by_cases e:i=id
  .subst e;simp only[bl,hpi,how]at hb;cases hb
  .exact⟨e,by simpa only[bl,hpt' i e]using hb⟩
 have hbid:bl pt ow id=some b0:=by simp[bl,hp0]
 have hk:uh hp id:=zr (by rw[hi];simp);have hgt:∀i,i≠id->hget (xo hp id .dead) i=hget hp i:=fun i e=>zx e
 have hgi:hget (xo hp id .dead) id=.dead :=qb hk;refine⟨M',pt',ow,S,?_,?_,hdf.mono hV⟩
 .exact {
   os:=hg.os,tape:=hg.tape,output:=hg.output,size:=hg.size,keep:=hg.keep
   fresh:=fun b hb=>hg.fresh b hb.1
   m0:=fun b hb=>⟨hg.m0 b hb,fun e=>by
    subst e;rcases hg.loc id b hbid with h1|h1
    .have:=hg.m1 b hb;omega
    .omega⟩
   m1:=hg.m1
   mt:=fun i b hb=>⟨hg.mt i b (hbl i b hb).2,fun e=>(hbl i b hb).1 (hg.inj i id b (hbl i b hb).2 (e▸hbid))⟩
   gm:=fun b hb=>⟨hg.gm b hb,fun e=>hg.gd id b0 hbid (e▸hb)⟩
   gl:=hg.gl
   gd:=fun i b hb=>hg.gd i b (hbl i b hb).2
   loc:=fun i b hb=>hg.loc i b (hbl i b hb).2
   farp:=fun i b hi hb=>hg.farp i b hi (by rw[<-hpt' i O];exact hb)
   farw:=hg.farw
   inj:=fun i j b hi hj=>hg.inj i j b (hbl i b hi).2 (hbl j b hj).2
   dpt:=fun i b hb=>by
    have e:i≠id:=fun e=>by subst e;rw[hpi]at hb;cases hb
    rw[hgt i e];exact hg.dpt i b (by rw[<-hpt' i e];exact hb)
   dow:=fun i x hb=>by
    have e:i≠id:=fun e=>by subst e;rw[how]at hb;cases hb
    rw[hgt i e];exact hg.dow i x hb
   blk:=fun i=>by
    by_cases e:i=id
    .subst e;rw[hgi];trivial
    .rw[hgt i e];exact(hg.blk i).mono (hpt' i e) rfl hV (fun _=>hg.ptow) (fun _ _ _ h=>h) (fun _ _ _ h=>h)}
 .intro pt3 ow3 hag
  let pt4:Nat->Option Nat:=fun i=>if i=id then some b0 else pt3 i
  have h4i:pt4 id=some b0:=by simp only[pt4,if_true]
  have h4n:∀i,i≠id->pt4 i=pt3 i:=fun i e=>by simp only[pt4,Z7 e]
  have hag':Agr hp pt pt4 ow ow3:=fun i hi'=>by
   by_cases e:i=id
   .subst e;exact⟨by rw[h4i,hp0],(hag i (by rw[hgi];rfl)).2⟩
   .have:=hag i (by rw[hgt i e];exact hi');rw[hpt' i e]at this;exact⟨by rw[h4n i e];exact this.1,this.2⟩
  obtain⟨g1,g2⟩:=hs pt4 ow3 hag';have hle:∀ids:List Nat,id∉ids->Env.le ⟨zo w M,pt4,ow3⟩ ⟨zo w M',pt3,ow3⟩ ids:=fun ids hn=>⟨hV,fun i hi=>by
   have e:i≠id:=fun e=>hn (e▸hi)
   exact⟨fun b hb=>by show pt4 i=some b;rw[h4n i e];exact hb,fun x hx=>hx⟩⟩
  refine⟨?_,fun i l b cs Ty hl hb hcs=>?_⟩
  .obtain⟨v,hv,hr⟩:=g1.get ht;simp only[R]at hr;have hv2:=hr.2 b0 h4i;have hlt:=(q0.1 hv).1;have xo:a.tmps.toList.set t v=a.tmps.toList:=by
    rw[<-(q0.1 hv).2];exact List.set_getElem_self hlt
   have g3:=Rs.set (a:=.any) (v:=v) trivial t g1;rw[xo]at g3;have g4:=g3.imp _ _ (hle _ h1);have g5:=Rs.set (a:=.rp .f0 n 0) (v:=v) (by simp only[R];exact⟨b0,0,hv2,.of0 hcell⟩) t g4;rw[xo,List.set_set]at g5;exact g5
  .by_cases e:i=id
   .subst e;rw[hgi]at hl;cases hl
   .have zc4:=jv hl;rw[hgt i e]at hl;exact(g2 i l b cs Ty hl (by rw[<-hpt' i e];exact hb) hcs).imp _ _ (hle _ fun hj=>h2 (zc4 id hj))
def fzOk(sl:List AV)(hp:Hp)(t id n:Nat):Bool:=(match sl[t]? with
    |some (.ptr i 0)=>qU i id
    | _=>false)&&(match hget hp id with
    |.cells [.fn m []]=>qU m n
    | _=>false)&&qV id 999999&&zde [id] (wk (sl.set t .any))&&zde [id] (zc4 (xo hp id .dead))
theorem za1{P:Program}{T:Tab}{res:List ResultVar}{ex:List Nat}{rv:AV}{H':Hp}{x:Code}{sl:List AV}{hp:Hp}(t id n:Nat)(hok:fzOk sl hp t id n=true)
 (h:SemOK P T res ex rv H' x ⟨sl.set t (.rp .f0 n 0),xo hp id .dead⟩):SemOK P T res ex rv H' x ⟨sl,hp⟩:=by
 simp only[fzOk,Bool.and_eq_true]at hok;obtain⟨⟨⟨⟨h1,h2⟩,h3⟩,h4⟩,h5⟩:=hok;split at h1
 case h_2=>cases h1
 rename_i i hi;have:=qQ h1;subst this;split at h2
 case h_2=>cases h2
 rename_i m hm;have:=qQ h2;subst this;exact⟨fun c0 a w Q hr hq=>h.sem c0 a w Q (hr.freezeF hi hm (qR h3) ((jr _ _).1 h4 _ OC) ((jr _ _).1 h5 _ OC)) hq⟩
def zhq(J:GJ):Prop:=∀(S S':Nat->Prop)(V V':kf)(w w':World),CLe V V'->J S V w->J S' V' w'
theorem zhq.stab{J:GJ}(h:zhq J):zu3 J:=fun S V V' w w' hV _ hj=>h S S V V' w w' hV hj
def andJ(J K:GJ):GJ:=fun S V w=>J S V w/\K S V w
theorem zu3.and{J K:GJ}(h1:zu3 J)(h2:zu3 K):zu3 (andJ J K):=fun S V V' w w' hV hS h=>⟨h1 S V V' w w' hV hS h.1,h2 S V V' w w' hV hS h.2⟩
def qgc(K:GJ):Prop:=∀(S S':Nat->Prop)(V:kf)(w:World),(∀b,S b->S' b)->K S V w->K S' V w
theorem zed{J:GJ}{i:Nat}:hget [(qi,.gst J)] i=if i=qi then .gst J else .dead :=by
 rw[zf];by_cases h:qi=i
 .rw[Z6 h,Z6 h.symm]
 .rw[Z7 h,Z7 fun e=>h e.symm];rfl
theorem zh8.lift{P:Program}{f:Nat}{J K:GJ}{A:List AV}{r:AV}(hJ:zhq J)(hK:zu3 K)(hM:qgc K)(h:zh8 P f [(qi,.gst J)] A r [(qi,.gst J)]):zh8 P f [(qi,.gst (andJ J K))] A r [(qi,.gst (andJ J K))]:=by
 have hnp:∀(J:GJ)i,(hget [(qi,.gst J)] i).isPt =false/\(hget [(qi,.gst J)] i).isBuf =false:=fun J i=>by
  rw[zed];split<;>exact⟨rfl,rfl⟩
 have hcon:∀(J:GJ)(w:World)(M:Nat->Prop)(pt pt':Nat->Option Nat)(ow ow':Nat->Option Value),zfa [(qi,.gst J)] w M pt ow pt' ow':=fun J w M pt pt' ow ow' i l b cs T hl=>by
  have:=(hnp J i).1;rw[hl]at this;cases this
 refine⟨h.1,fun w M pt ow S vs hcore hcont hargs=>?_⟩;have hpt:∀i,pt i=none:=fun i=>hcore.ptn (hnp _ i).1
 have how:∀i,ow i=none:=fun i=>hcore.own (hnp _ i).2
 have hbl:∀i b,¬bl pt ow i=some b:=fun i b hb=>by simp[bl,hpt,how]at hb
 have hb:=hcore.blk qi;rw[zed,Z6 rfl]at hb;obtain⟨_,_,hj,hk⟩:=hb;have hc0:Core M pt ow (fun _=>False) [(qi,.gst J)] w:= {
  fresh:=hcore.fresh,mt:=hcore.mt,inj:=hcore.inj,gm:=fun _ h=>h.elim,gd:=fun _ _ _ h=>h
  dpt:=fun i b hb=>by rw[hpt]at hb;cases hb
  dow:=fun i b hb=>by rw[how]at hb;cases hb
  blk:=fun i=>by
   rw[zed];split
   .rename_i e;exact⟨e,hJ.stab,hJ _ _ _ _ _ _ (fun _ _ _ _ h=>h) hj⟩
   .trivial}
 refine(h.2 w M pt ow (fun _=>False) vs hc0 (hcon _ _ _ _ _ _ _) hargs).mono ?_;rintro e w' ⟨v,M',pt',ow',S',he,hc,hk',hr,hL⟩;have hpt':∀i,pt' i=none:=fun i=>hc.ptn (hnp _ i).1
 have how':∀i,ow' i=none:=fun i=>hc.own (hnp _ i).2
 have hsame:∀b o,S b->w.heap[b]? =some o->w'.heap[b]? =some o:=fun b o _ ho=>by
  rw[hL.same b (zj ho) (fun i=>hbl i b) id];exact ho
 have hV:∀b o,zo w M b o->zo w' M' b o:=zy fun b o hm hb=>⟨fun h'=>(hL.mn b h').elim hm fun h=>by have:=zj hb;omega,by
  rw[hL.same b (zj hb) (fun i=>hbl i b) id];exact hb⟩
 have hb':=hc.blk qi;rw[zed,Z6 rfl]at hb';obtain⟨_,_,hj'⟩:=hb';refine⟨v,M',pt',ow',fun b=>S b\/S' b,he,{
  fresh:=hc.fresh,mt:=hc.mt,inj:=hc.inj
  gm:=fun b hb=>hb.elim (fun h=>hL.mm b (hcore.gm b h)) (hc.gm b)
  gd:=fun i b hb=>by simp[bl,hpt',how']at hb
  dpt:=fun i b hb=>by rw[hpt']at hb;cases hb
  dow:=fun i b hb=>by rw[how']at hb;cases hb
  blk:=fun i=>by
   rw[zed];split
   .rename_i e;exact⟨e,hJ.stab.and hK,hJ _ _ _ _ _ _ (fun _ _ _ _ h=>h) hj',hM S _ _ _ (fun _=>.inl) (hK S _ _ w w' (.of hV) hsame hk)⟩
   .trivial},hcon _ _ _ _ _ _ _,hr,{
  os:=hL.os,tape:=hL.tape,output:=hL.output,size:=hL.size
  same:=fun b hb hn hS=>hL.same b hb hn id
  mm:=hL.mm,mn:=hL.mn
  sn:=fun b hb=>hb.elim .inl fun h=>(hL.sn b h).elim (fun h=>h.elim) .inr
  lept:=hL.lept,leow:=hL.leow}⟩
theorem Rel.gst{c:Ctx}{Y:St}{a:Act}{w:World}(h:Rel c Y a w){J J':GJ}(hJ:hget Y.hp qi=.gst J)(hst:zu3 J'){w':World}(hos:w'.os=w.os)(htape:w'.tape=w.tape)(hout:w'.output=w.output)
 (hsize:w.heap.size<=w'.heap.size) (d:Option Nat) (r:AV) (v:Value) (hr:∀ρ,R ρ r v)
 (hk:∀M pt ow S,Good c M pt ow S Y.hp w->zdj Y a w M pt ow->J S (zo w M) w->(∀b,S b->M b)->(∀b,M b->b<w.heap.size)->(∀b,b<w.heap.size->¬S b->w'.heap[b]? =w.heap[b]?)/\
   J' (fun b=>S b\/(w.heap.size<=b/\b<w'.heap.size)) (zo w' (fun b=>M b\/(w.heap.size<=b/\b<w'.heap.size))) w'):
 Rel c ⟨match d with|some q=>Y.sl.set q r|none=>Y.sl,xo Y.hp qi (.gst J')⟩ (a.put d v) w':=by
 obtain⟨M,pt,ow,S,hg,hs,hd⟩:=h;have hbJ:=hg.blk qi;rw[hJ]at hbJ;obtain⟨hsame,hJ'⟩:=hk M pt ow S hg hs hbJ.2.2 hg.gm hg.fresh;have hkey:uh Y.hp qi:=zr (by rw[hJ];simp);have hV:∀b o,zo w M b o->zo w' (fun b=>M b\/(w.heap.size<=b/\b<w'.heap.size)) b o:=zy fun b o hm hb=>⟨fun h'=>h'.elim hm fun h=>by have:=zj hb;omega,by
  rw[hsame b (zj hb) fun hS=>hm (hg.gm b hS)];exact hb⟩
 have hbls:∀i b o,bl pt ow i=some b->w.heap[b]? =some o->w'.heap[b]? =some o:=fun i b o hb ho=>by rw[hsame b (zj ho) (hg.gd i b hb)];exact ho
 refine⟨_,pt,ow,fun b=>S b\/(w.heap.size<=b/\b<w'.heap.size),{
  os:=hos.trans hg.os,tape:=htape.trans hg.tape,output:=hout.trans hg.output
  size:=qW hg.size hsize
  keep:=fun b hb hm=>by
   rw[hsame b (qT hb hg.size) fun hS=>by
    rcases hg.gl b hS with h1|h1
    .omega
    .exact hm h1.1]
   exact hg.keep b hb hm
  fresh:=fun b hb=>hb.elim (fun h=>qT (hg.fresh b h) hsize) fun h=>h.2
  m0:=fun b hb=>.inl (hg.m0 b hb)
  m1:=hg.m1
  mt:=fun i b hb=>.inl (hg.mt i b hb)
  inj:=hg.inj
  gm:=fun b hb=>hb.imp (hg.gm b) id
  gd:=fun i b hb hS=>hS.elim (hg.gd i b hb) fun h=>by have:=hg.fresh b (hg.mt i b hb);omega
  gl:=fun b hb=>hb.elim (hg.gl b) fun h=>.inl (qW hg.size h.1)
  loc:=hg.loc,farp:=hg.farp,farw:=hg.farw
  dpt:=fun i b hb=>by
   have:=hg.dpt i b hb;by_cases e:i=qi
   .subst e;rw[hJ]at this;cases this
   .rw[zx e];exact this
  dow:=fun i b hb=>by
   have:=hg.dow i b hb;by_cases e:i=qi
   .subst e;rw[hJ]at this;cases this
   .rw[zx e];exact this
  blk:=fun i=>by
   by_cases e:i=qi
   .subst e;rw[qb hkey];exact⟨rfl,hst,hJ'⟩
   .rw[zx e];have hb:=hg.blk i
    revert hb
    generalize hget Y.hp i=B;intro hb
    cases B with
    |gst J2=>exact absurd hb.1 e
    |free=>trivial
    |dead=>trivial
    |cells l=>exact uc.mono (S:=fun _=>False) (x:=.cells l) rfl rfl hV (fun _=>hg.ptow) (fun b o=>hbls i b o) (fun _ _ h=>h.elim) hb
    |buf e k xs=>exact uc.mono (S:=fun _=>False) (x:=.buf e k xs) rfl rfl hV (fun _=>hg.ptow) (fun b o=>hbls i b o) (fun _ _ h=>h.elim) hb
    |map kk vk m=>exact uc.mono (S:=fun _=>False) (x:=.map kk vk m) rfl rfl hV (fun _=>hg.ptow) (fun b o=>hbls i b o) (fun _ _ h=>h.elim) hb},?_,by rw[uf];exact hd.mono hV⟩
 intro pt' ow' hag;have hag2:Agr Y.hp pt pt' ow ow':=fun i hi=>hag i (by
  by_cases e:i=qi
  .subst e;rw[qb hkey];rfl
  .rw[zx e];exact hi)
 obtain⟨h1,h2⟩:=hs pt' ow' hag2;have hle:∀is:List Nat,Env.le ⟨zo w M,pt',ow'⟩ ⟨zo w' (fun b=>M b\/(w.heap.size<=b/\b<w'.heap.size)),pt',ow'⟩ is:=fun is=>⟨hV,fun _ _=>⟨fun _ h=>h,fun _ h=>h⟩⟩
 refine⟨?_,fun i l b cs T hl hb hcs=>?_⟩
 .have h3:=h1.imp _ _ (hle _)
  cases d with
  |none=>simpa[Act.put]using h3
  |some q=>rw[ue];exact h3.set (hr _) q
 .have e:i≠qi:=fun e=>by subst e;rw[qb hkey]at hl;cases hl
  rw[zx e]at hl;obtain⟨b',cs',T',h3,h4⟩:=hg.cel i l hl;rw[hb]at h3;cases h3
  have h5:=hbls i b _ (by simp[bl,hb]) h4;rw[hcs]at h5;cases h5
  exact(h2 i l b cs T hl hb h4).imp _ _ (hle _)
def zba(S:Nat->Prop)(V:kf)(w:World)(e:TypeId)(k:Elt)(b0:Nat)(hs:List Value)(rows:List (List k.T)):Prop:=
 ∀(j:Nat)(h:Value)(r:List k.T),hs[j]? =some h->rows[j]? =some r->zae w V e k r h/\∀b,vbl h=some b->(S b/\b0<b)/\∀(j':Nat)(h':Value),hs[j']? =some h'->vbl h'=some b->j'=j
def pdH(hs:List Value){α:Type}:Option (Nat×Value×α)->List Value
 |none=>hs
 |some (i,h,_)=>hs.set i h
def pdR{α:Type}(rows:List α):Option (Nat×Value×α)->List α
 |none=>rows
 |some (i,_,r)=>rows.set i r
def zh7(E e:TypeId)(k:Elt)(b0 cap:Nat)(hs:List Value)(rows:List (List k.T))(pd:Option (Nat×Value×List k.T)):GJ:=fun S V w=>
 S b0/\hs.length=rows.length/\rows.length<=cap/\cap<=maxLen/\(∃cs:Array Value,w.heap[b0]? =some (.cells cs E (0,0))/\cs.size=cap/\∀(j:Nat)(h:Value),hs[j]? =some h->cs[j]? =some h)/\
 zba S V w e k b0 (pdH hs pd) (pdR rows pd)
theorem zae.one{w:World}{V:kf}{e:TypeId}{k:Elt}{xs:List k.T}{h:Value}(hb:zae w V e k xs h):h.oneCell'=true:=by
 rcases hb with ⟨rfl,_⟩|⟨b,cap,cs,rfl,_⟩<;>rfl
theorem zba.cmono{S:Nat->Prop}{V V':kf}{w w':World}{e:TypeId}{k:Elt}{b0:Nat}{hs:List Value}{rows:List (List k.T)}(hV:CLe V V')(hS:∀b o,S b->w.heap[b]? =some o->w'.heap[b]? =some o)
 (h:zba S V w e k b0 hs rows):zba S V' w' e k b0 hs rows:=fun j x r hx hr=>by
 obtain⟨h1,h2⟩:=h j x r hx hr;exact⟨h1.cmono hV fun b cap cs hh hcs=>hS b _ (h2 b (by simp[vbl,hh])).1.1 hcs,h2⟩
theorem zh7.stab{E e:TypeId}{k:Elt}{b0 cap:Nat}{hs:List Value}{rows:List (List k.T)}{pd:Option (Nat×Value×List k.T)}:zu3 (zh7 E e k b0 cap hs rows pd):=fun S V V' w w' hV hS h=>by
 obtain⟨h1,h2,h3,h4,⟨cs,h5,h6,h7⟩,h8⟩:=h;exact⟨h1,h2,h3,h4,⟨cs,hS _ _ h1 h5,h6,h7⟩,h8.cmono hV hS⟩
theorem zh7.mono{E e:TypeId}{k:Elt}{b0 cap:Nat}{hs:List Value}{rows:List (List k.T)}{pd:Option (Nat×Value×List k.T)}:qgc (zh7 E e k b0 cap hs rows pd):=fun S S' V w hS h=>by
 obtain⟨h1,h2,h3,h4,h5,h8⟩:=h;refine⟨hS _ h1,h2,h3,h4,h5,fun j x r hx hr=>?_⟩;obtain⟨h9,h10⟩:=h8 j x r hx hr;exact⟨h9,fun b hb=>⟨⟨hS _ (h10 b hb).1.1,(h10 b hb).1.2⟩,(h10 b hb).2⟩⟩
def OpX(P:Program)(o:Oper)(Y:St)(K:St->Prop):Prop:=o.guard=none/\∀(c0:Ctx)(a:Act)(w:World)(Q:Exit->Act->World->Prop),Rel c0 Y a w->o.wpIn w4 0 P a w (fun a w=>∃G,K G/\Rel c0 G a w) Q
section
variable {P:Program} {T:Tab}
theorem OpT.x{o:Oper}{Y σ':St}{K:St->Prop}(h:OpT P o Y σ')(hk:K σ'):OpX P o Y K:=⟨h.1,fun c0 a w Q hr=>Oper.wpIn_mono (fun a w hr=>⟨σ',hk,hr⟩) (h.2 c0 a w Q hr)⟩
theorem OpX.sound{ops:Array Oper}{Q:Exit->Act->World->Prop}{i:Nat}{o:Oper}{Y:St}{S:St->Prop}(hi:ops[i]? =some o)(h:OpX P o Y S){c0:Ctx}{a:Act}{w:World}(hr:Rel c0 Y a w){K:Act->World->Prop}(hK:∀a w,(∃G,S G/\Rel c0 G a w)->K a w):
 wpOpIn w4 0 P ops Q i K a w:=by
 unfold wpOpIn;simp only[hi];rcases jw hr (ops:=ops) (run:=fun _=>True) (skip:=fun _=>False) (o:=o) (by unfold zat;rw[h.1];trivial)with ⟨hw,_⟩|⟨_,hk⟩
 .rw[Z6 hw];exact Oper.wpIn_mono hK (h.2 c0 a w Q hr)
 .exact hk.elim
def yn(J0:GJ)(E e:TypeId)(k:Elt)(b0 cap:Nat)(hs:List Value)(rows:List (List k.T))(pd:Option (Nat×Value×List k.T)):GJ:=andJ J0 (zh7 E e k b0 cap hs rows pd)
theorem ztd{c:Ctx}{Y:St}{a:Act}{w:World}(h:Rel c Y a w){J0:GJ}(hV:zhq J0)(hJ:hget Y.hp qi=.gst J0){o:Oper}{t E e:TypeId}{k:Elt}{l c':Operand}(ho:o.op=.makeSlice t l c'){d:Nat}(hd:o.dst=some d)
 {n:Nat} (hl:zm Y.sl l=.int .i64 n) (hc:zm Y.sl c'=.int .i64 n) (hu:P.underlying t=some (.slice E)) {inf:TypeInfo} (hi:P.info? E=some inf) (hs:inf.size=1) (hz:inf.zero=some (.slice none 0 0)) (hb:inf.bytes<=100) (hn:n<=1000000)
 {K:Act->World->Prop} {Q:Exit->Act->World->Prop}
 (hK:∀a' w',c.w0.heap.size<=w.heap.size->Rel c ⟨Y.sl.set d (.val (.slice (some ⟨w.heap.size,0,none⟩) n n)),xo Y.hp qi (.gst (yn J0 E e k w.heap.size n (qI n (.slice none 0 0)) (qI n []) none))⟩ a' w'->K a' w'):
 o.wpIn w4 0 P a w K Q:=by
 obtain⟨M0,pt0,ow0,S0,hg0,hs0,hr0⟩:=h.own;have hel:a.eval l=.int .i64 n:=by have:=zc hr0 l;rw[hl]at this;exact this
 have hec:a.eval c'=.int .i64 n:=by have:=zc hr0 c';rw[hc]at this;exact this
 have hrun:=run_make (P:=P) w t E inf _ hu hi hz .i64 .i64 n n O O (by
  have:(inf.bytes:Int)*n<=100*1000000:=Int.mul_le_mul O O O O;omega) O
 simp only[Int.toNat_natCast]at hrun;refine ur (F:=⟨w4,.inl rfl⟩) (v:=.slice (some ⟨w.heap.size,0,none⟩) n n) (w':=w.alloc (.cells (madeCells (w7 none 0 0).cells (n*inf.size)) E)) ?_ (hK _ _ hg0.size ?_)
 .simp only[execOp,ho,hel,hec];simp[hrun]
 .rw[hd];have hex:=Ext.alloc w (.cells (madeCells (w7 none 0 0).cells (n*inf.size)) E);have hnew:(w.alloc (.cells (madeCells (w7 none 0 0).cells (n*inf.size)) E)).heap[w.heap.size]? =some (.cells (madeCells (w7 none 0 0).cells (n*inf.size)) E (0,0)):=by
   show(w.heap.push _)[w.heap.size]? =_;simp
  refine h.gst (d:=some d) (w':=w.alloc (.cells (madeCells (w7 none 0 0).cells (n*inf.size)) E)) hJ (hV.stab.and zh7.stab) rfl rfl rfl hex.size _ _ (fun ρ=>by simp[R,w9]) fun M pt ow S hgM hsM hj hSM hM=>⟨fun b hb _=>hex.block b hb,hV _ _ _ _ _ _ ?_ hj,?_,OC,OC,by unfold maxLen;omega,⟨_,hnew,by rw[size_madeCells,hs,w1],fun j x hx=>?_⟩,fun j x r hx hr=>?_⟩
  .exact .of (zy fun b o hm hb=>⟨fun h'=>h'.elim hm fun h=>by have:=zj hb;omega,hex.get hb⟩)
  .exact .inr ⟨qL _,OC⟩
  .rw[qN]at hx;split at hx
   .rename_i hj;cases hx
    rw[hs,w1];simp[madeCells,hj,Value.cells,Nat.mod_one]
   .cases hx
  .simp only[pdH]at hx;simp only[pdR]at hr;rw[qN]at hx hr;split at hx
   .rename_i hj;rw[Z6 hj]at hr;cases hx;cases hr
    exact⟨.inl ⟨rfl,rfl⟩,fun b hb=>by simp[vbl]at hb⟩
   .cases hx
theorem zfw{Y:St}{o:Oper}{t E:TypeId}{x i:Operand}{b0 n cap:Nat}{j:Int}(hg:o.guard=none)(ho:o.op=.indexAddr t x i){d:Nat}(hd:o.dst=some d)(hu:P.underlying t=some (.slice E)){inf:TypeInfo}(hi:P.info? E=some inf)(hs:inf.size=1)
 (hx:zm Y.sl x=.val (.slice (some ⟨b0,0,none⟩) n cap)) (hj:zm Y.sl i=.int .i64 j) (h0:0<=j) (h1:j<n):OpT P o Y ⟨Y.sl.set d (.val (.pointer (some ⟨b0,j.toNat,none⟩))),Y.hp⟩:=by
 refine⟨hg,fun c0 a w Q h=>?_⟩;obtain⟨M0,pt0,ow0,S0,hg0,hs0,hr0⟩:=h.own;have hex:a.eval x=.slice (some ⟨b0,0,none⟩) n cap:=by have:=zc hr0 x;rw[hx]at this;exact this.1
 have hej:a.eval i=.int .i64 j:=by have:=zc hr0 i;rw[hj]at this;exact this
 have hw:wr o.op=false:=by simp[wr,ho]
 refine ur (F:=⟨w4,.inl rfl⟩) (v:=.pointer (some ⟨b0,j.toNat,none⟩)) (w':=w) ?_ ?_
 .simp only[execOp,ho,Instr.indexAt,hej,asIntOf,Sem.run_bind,Sem.run_pure,w8,zaj hu,hex,h0,h1,true_and,if_true,and_self,zcu hi,wt];simp[hs]
 .have:=h.val o [] [] (.val (.pointer (some ⟨b0,j.toNat,none⟩))) (.pointer (some ⟨b0,j.toNat,none⟩)) hw fun _ _ _ _ _ _ _ _ _=>by simp[R,w9]
  simpa[nxt,hw,hd]using this
theorem zot{Y:St}{o:Oper}{t:TypeId}{ti:TI}{x:Operand}{J0:GJ}{E e:TypeId}{k:Elt}{b0 cap j:Nat}{hs:List Value}{rows:List (List k.T)}{hv:Value}(hg:o.guard=none)(ho:o.op=.load t x){d:Nat}(hd:o.dst=some d)(hti:TIOK P t ti)(hsz:ti.sz=1)(hag:ti.agg=false)
 (hJ:hget Y.hp qi=.gst (yn J0 E e k b0 cap hs rows none)) (hx:zm Y.sl x=.val (.pointer (some ⟨b0,j,none⟩))) (hh:hs[j]? =some hv):OpT P o Y ⟨Y.sl.set d (.val hv),Y.hp⟩:=by
 refine⟨hg,fun c0 a w Q h=>?_⟩;obtain⟨M0,pt0,ow0,S0,hg0,hs0,hr0⟩:=h.own;have hex:a.eval x=.pointer (some ⟨b0,j,none⟩):=by have:=zc hr0 x;rw[hx]at this;exact this.1
 have hw:wr o.op=false:=by simp[wr,ho]
 have hbJ:=hg0.blk qi;rw[hJ]at hbJ;obtain⟨_,_,_,h1,h2,h3,h4,⟨cs,h5,h6,h7⟩,h8⟩:=hbJ;have h8:zba S0 (zo w M0) w e k b0 hs rows:=h8;have hone:hv.oneCell'=true:=by
  have hj:=(q0.1 hh).1;exact(h8 j hv rows[j] hh (qA O)).1.one
 have hcell:w.cell? ⟨b0,j+0,none⟩=some hv:=by simp[World.cell?,h5,h7 j hv hh]
 refine ur (F:=⟨w4,.inl rfl⟩) (v:=hv) (w':=w) ?_ ?_
 .have:=zsk hti (w:=w) (b:=b0) (o:=j) [hv] (by rw[hsz];rfl) fun q v hq=>by
   match q,hq with
   |0,hq=>cases hq;exact hcell
   |q+1,hq=>simp at hq
  rw[hag]at this;simp only[execOp,ho,Instr.loadAt,hex,Instr.sureAddr,Sem.run_bind,Sem.run_pure,w8,this];simp
 .have:=h.val o [] [] (.val hv) hv hw fun _ _ _ _ _ _ _ _ _=>by simp[R,hone]
  simpa[nxt,hw,hd]using this
theorem zwu{α:Type}{l:List α}{i:Nat}{x:α}(h:i<l.length):zar l i [x]=l.set i x:=by
 rw[List.set_eq_take_append_cons_drop,Z6 h];simp[zar]
theorem zos{Y:St}{o:Oper}{t:TypeId}{x y:Operand}{J0:GJ}{E e:TypeId}{k:Elt}{b0 cap i:Nat}{hs:List Value}{rows:List (List k.T)}{h':Value}{r':List k.T}(hg:o.guard=none)(ho:o.op=.store t x y)(hd:o.dst=none)(hV:zhq J0)
 {inf:TypeInfo} (hinf:P.info? t=some inf) (hs1:inf.size=1)
 (hJ:hget Y.hp qi=.gst (yn J0 E e k b0 cap hs rows (some (i,h',r')))) (hx:zm Y.sl x=.val (.pointer (some ⟨b0,i,none⟩))) (hy:zm Y.sl y=.val h') (hi:i<hs.length):
 OpT P o Y ⟨Y.sl,xo Y.hp qi (.gst (yn J0 E e k b0 cap (hs.set i h') (rows.set i r') none))⟩:=by
 refine⟨hg,fun c0 a w Q h=>?_⟩;obtain⟨M0,pt0,ow0,S0,hg0,hs0,hr0⟩:=h.own;have hex:a.eval x=.pointer (some ⟨b0,i,none⟩):=by have:=zc hr0 x;rw[hx]at this;exact this.1
 have hey:a.eval y=h':=by have:=zc hr0 y;rw[hy]at this;exact this.1
 have hone:h'.oneCell'=true:=by have:=zc hr0 y;rw[hy]at this;rw[<-hey];exact this.2
 have hc1:h'.cells= #[h']:=by cases h'<;>first|rfl|(simp[w9]at hone)
 have hbJ:=hg0.blk qi;rw[hJ]at hbJ;obtain⟨_,_,_,h1,h2,h3,h4,⟨cs,h5,h6,h7⟩,h8⟩:=hbJ;have hil:i<rows.length:=by
  have h2:hs.length=rows.length:=h2;omega
 have hrun:=zoj (P:=P) (w:=w) (t:=t) hinf (b:=b0) (off:=i) h5 (v:=h') (by rw[hc1,hs1];rfl) (by rw[hc1];simp;omega) (by rw[hc1];intro u hu;simp at hu;rw[hu];exact hone);refine znu (F:=⟨w4,.inl rfl⟩) (w':=w.setRow b0 (zar cs.toList i h'.cells.toList).toArray) ?_ ?_
 .simp only[execOp,ho,Instr.storeAt,hex,hey,Instr.sureAddr,Sem.run_bind,Sem.run_pure,w8,hrun]
 .rw[hd];have hoth:∀b,b≠b0->(w.setRow b0 (zar cs.toList i h'.cells.toList).toArray).heap[b]? =w.heap[b]? :=fun b hb=>setRow_other w b0 b _ hb
  refine h.gst (d:=none) (r:=.any) (w':=w.setRow b0 (zar cs.toList i h'.cells.toList).toArray) hJ (hV.stab.and zh7.stab) rfl rfl rfl OC _ (fun ρ=>by simp[R]) fun M pt ow S hgM hsM hj hSM hM=>?_
  obtain⟨hj0,k1,k2,k3,k4,⟨cs2,k5,k6,k7⟩,k8⟩:=hj;rw[h5]at k5;cases k5
  have k8:zba S (zo w M) w e k b0 (hs.set i h') (rows.set i r'):=k8;have hcl:CLe (zo w M) (zo (w.setRow b0 (zar cs.toList i h'.cells.toList).toArray) fun b=>M b\/(w.heap.size<=b/\b<(w.setRow b0 (zar cs.toList i h'.cells.toList).toArray).heap.size)):=
   .of (zy fun b o hm hb=>⟨fun h=>h.elim hm fun h=>by have:=zj hb;omega,by rw[hoth b fun e=>hm (e▸hSM _ k1)];exact hb⟩)
  refine⟨fun b _ hS=>hoth b fun e=>hS (e▸k1),hV _ _ _ _ _ _ hcl hj0,.inl k1,by simpa using k2,by simpa using k3,k4,⟨_,setRow_heap w b0 cs _ E (0,0) h5,?_,fun j x hx=>?_⟩,fun j x r hx hr=>?_⟩
  .rw[qC,jf _ _ _ (by rw[hc1];simp;omega)];simpa using k6
  .rw[hc1,show(#[h']:Array Value).toList = [h']from rfl,zwu (by have:=qH (xs:=cs);omega),qF,qX];rw[qX]at hx;by_cases e2:i=j
   .subst e2;rw[Z6 rfl]at hx⊢;rw[Z6 (by have:=qH (xs:=cs);omega)];rw[Z6 hi]at hx;exact hx
   .rw[Z7 e2]at hx⊢;have:=k7 j x hx;simpa using this
  .obtain⟨q1,q2⟩:=k8 j x r hx hr;exact⟨q1.cmono hcl fun b cap cs hh hcs=>by rw[hoth b (by have:=(q2 b (by simp[vbl,hh])).1.2;omega)];exact hcs,fun b hb=>⟨⟨.inl (q2 b hb).1.1,(q2 b hb).1.2⟩,(q2 b hb).2⟩⟩
theorem zor{Y:St}{o:Oper}{cl:Call}{s x:Operand}{t:TypeId}{J0:GJ}{E e:TypeId}{k:Elt}{b0 cap i:Nat}{hs:List Value}{rows:List (List k.T)}{hv:Value}{row:List k.T}{y:k.T}(hg:o.guard=none)(ho:o.op=.call cl)(hcl:cl.callee=.builtin .append)
 (ha:cl.args= #[s,x]) (ht:cl.argTypes= #[t,t]) {d:Nat} (hd:o.dst=some d) (hV:zhq J0) (hu:P.underlying t=some (.slice e)) {inf:TypeInfo} {zv:Value} (hinf:P.info? e=some inf) (hz:inf.zero=some zv) (hsize:inf.size=k.size) (hzs:zv.cells.size=k.size)
 (hJ:hget Y.hp qi=.gst (yn J0 E e k b0 cap hs rows none)) (hx:zm Y.sl x=.sl k [y]) (hsl:zm Y.sl s=.val hv) (hi:hs[i]? =some hv) (hr:rows[i]? =some row) (hby:(row.length+1)*inf.bytes<=140737488355328) (hb1:1<=inf.bytes):
 OpX P o Y fun G=>∃h',G=⟨Y.sl.set d (.val h'),xo Y.hp qi (.gst (yn J0 E e k b0 cap hs rows (some (i,h',row++ [y]))))⟩:=by
 refine⟨hg,fun c0 a w Q h=>?_⟩;obtain⟨M0,pt0,ow0,S0,hg0,hs0,hr0⟩:=h.own;have hes:a.eval s=hv:=by have:=zc hr0 s;rw[hsl]at this;exact this.1
 have hrun:∀v w',(Builtin.append_ #[t,t] o.type #[a.eval s,a.eval x]).run P w=.ok v w'->(execOp a.eval o).run P w=.ok (.value v) w':=fun v w' hv=>by
  simp[execOp,ho,resolve,hcl,ha,ht,invoke,builtin,hv]
 have hbJ:=hg0.blk qi;rw[hJ]at hbJ;obtain⟨_,_,_,h1,h2,h3,h4,h5,h8⟩:=hbJ;have h8:zba S0 (zo w M0) w e k b0 hs rows:=h8;obtain⟨hbuf,hblk⟩:=h8 i hv row hi hr;have hx0:=zc hr0 x;rw[hx]at hx0;simp only[R]at hx0;cases hxv:a.eval x<;>rw[hxv]at hx0<;>(try (cases hx0;done))
 rename_i ao n cap';obtain⟨hnl,b,p,hao,vals,hvl,hvc,hv1,_⟩:=zbh hx0 OC;subst hnl;subst hao;have hlen1:([y]:List k.T).length =1:=rfl;rw[hlen1]at hvl;have hxe:a.eval x=.slice (some ⟨b,p,none⟩) 1 cap':=hxv;have hrl:row.length+1<=maxLen:=by
  unfold maxLen;have:(row.length+1)*1<=(row.length+1)*inf.bytes:=Nat.mul_le_mul_left _ hb1;omega
 have hpos:=Elt.size_pos k;have yv:∀M pt ow S,Good c0 M pt ow S Y.hp w->zdj Y a w M pt ow->∀(j:Nat)(u:AV),(k.cells y)[j]? =some u->∃v,vals[j]? =some v/\Leaf (zo w M) u v:=by
  intro M pt ow S hg hs j u hu;have hx1:=zc (hs pt ow (Agr.refl _ _ _)).1 x;rw[hx,hxe]at hx1;simp only[R]at hx1;obtain⟨_,b2,p2,hao2,vals2,hvl2,hvc2,_,hlf2⟩:=zbh hx1 OC;simp at hao2;obtain⟨rfl,rfl⟩:=hao2;obtain⟨v,hv,hl⟩:=hlf2 0 y rfl j u hu;rw[qY,qO]at hv;have hjl:=(q0.1 hv).1;rw[hlen1]at hvl2;have h9:=hvc2 j v hv;have h10:=hvc j vals[j] (qA O);rw[h9]at h10;exact⟨v,by rw[qA O];exact h10.symm▸rfl,hl⟩
 have fin:∀(h':Value)(w':World),h'.oneCell'=true->w'.os=w.os->w'.tape=w.tape->w'.output=w.output->w.heap.size<=w'.heap.size->(execOp a.eval o).run P w=.ok (.value h') w'->
  (∀b,b<w.heap.size->vbl hv≠some b->w'.heap[b]? =w.heap[b]?)->(∀b,vbl h'=some b->vbl hv=some b\/(w.heap.size<=b/\b<w'.heap.size))->
  (∀M pt ow S,Good c0 M pt ow S Y.hp w->zdj Y a w M pt ow->zae w (zo w M) e k row hv->(∀b o,zo w M b o->zo w' (fun b=>M b\/(w.heap.size<=b/\b<w'.heap.size)) b o)->zae w' (zo w' (fun b=>M b\/(w.heap.size<=b/\b<w'.heap.size))) e k (row++ [y]) h')->
  o.wpIn w4 0 P a w (fun a w=>∃G,(∃h',G=⟨Y.sl.set d (.val h'),xo Y.hp qi (.gst (yn J0 E e k b0 cap hs rows (some (i,h',row++ [y]))))⟩)/\Rel c0 G a w) Q:=by
  intro h' w' hone hos htp hou hsz hex hsame hvb hbf;refine ur (F:=⟨w4,.inl rfl⟩) hex ⟨_,⟨h',rfl⟩,?_⟩;rw[hd];refine h.gst (d:=some d) (r:=.val h') (w':=w') hJ (hV.stab.and zh7.stab) hos htp hou hsz _ (fun ρ=>by simp[R,hone]) fun M pt ow S hgM hsM hj hSM hM=>?_
  obtain⟨hj0,k1,k2,k3,k4,⟨cs2,k5,k6,k7⟩,k8⟩:=hj;have k8:zba S (zo w M) w e k b0 hs rows:=k8;obtain⟨q1,q2⟩:=k8 i hv row hi hr;have hbS:∀b,vbl hv=some b->S b:=fun b hb=>(q2 b hb).1.1
  have hVV:∀b o,zo w M b o->zo w' (fun b=>M b\/(w.heap.size<=b/\b<w'.heap.size)) b o:=
   zy fun b o hm hb=>⟨fun h=>h.elim hm fun h=>by have:=zj hb;omega,by rw[hsame b (zj hb) fun e=>hm (hSM _ (hbS b e))];exact hb⟩
  have hb0:w'.heap[b0]? =w.heap[b0]? :=hsame b0 (zj k5) fun e=>by have:=(q2 _ e).1.2;omega
  refine⟨fun b hb hS=>hsame b hb fun e=>hS (hbS b e),hV _ _ _ _ _ _ (.of hVV) hj0,.inl k1,k2,k3,k4,⟨cs2,by rw[hb0];exact k5,k6,k7⟩,fun j z r hz hr'=>?_⟩;simp only[pdH]at hz⊢;simp only[pdR]at hr';have hjr:j<rows.length:=by have:=(q0.1 hr').1;simpa using this
  by_cases e2:i=j
  .subst e2;rw[qE (by rw[k2];exact hjr)]at hz;rw[qE hjr]at hr';cases hz;cases hr'
   refine⟨hbf M pt ow S hgM hsM q1 hVV,fun b hb=>⟨?_,fun j' z' hz' hb'=>?_⟩⟩
   .rcases hvb b hb with h9|h9
    .exact⟨.inl (hbS b h9),(q2 b h9).1.2⟩
    .exact⟨.inr h9,by have:=zj k5;omega⟩
   .by_cases e3:i=j'
    .exact e3.symm
    .rw[qD e3]at hz';rcases hvb b hb with h9|h9
     .exact(q2 b h9).2 j' z' hz' hb'
     .have hjl:j'<rows.length:=by have:=(q0.1 hz').1;omega
      have:=hM _ (hSM _ ((k8 j' z' _ hz' (qA hjl)).2 b hb').1.1);omega
  .rw[qD e2]at hz;rw[qD e2]at hr';obtain⟨q3,q4⟩:=k8 j z r hz hr';have hne:∀b,vbl z=some b->vbl hv≠some b:=fun b hb e=>e2 ((q4 b hb).2 i hv hi e)
   refine⟨q3.mono hVV fun b cap cs hh hcs=>by rw[hsame b (zj hcs) (hne b (by simp[vbl,hh]))];exact hcs,fun b hb=>⟨⟨.inl (q4 b hb).1.1,(q4 b hb).1.2⟩,fun j' z' hz' hb'=>?_⟩⟩;by_cases e3:i=j'
   .subst e3;rw[qE (by rw[k2];have:=(q0.1 hr).1;exact this)]at hz';cases hz'
    rcases hvb b hb' with h9|h9
    .exact absurd h9 (hne b hb)
    .have:=hM _ (hSM _ (q4 b hb).1.1);omega
   .rw[qD e3]at hz';exact(q4 b hb).2 j' z' hz' hb'
 have hvl':vals.length=1*inf.size:=by rw[hvl,hsize]
 have hvc':∀j v,vals[j]? =some v->w.cell? ((⟨b,p,none⟩:Addr).add j)=some v:=fun j v hj=>by rw[wt];exact hvc j v hj
 rcases hbuf with ⟨hh,hrow⟩|⟨b1,cap1,cs1,hh,hcs1,hc1,hc2,hc3,hc4⟩
 .subst hh;subst hrow;have hr':=run_append_nil (P:=P) w t o.type e inf zv hu hinf hz ⟨b,p,none⟩ 1 cap' vals hvl' hvc' O O (by simp at hby;omega);have hcap:=grownCap_ge w 1 0 e;have hcm:=grownCap_le_maxLen w 1 0 e (by unfold maxLen;omega);have hex:Ext w (w.drew.alloc (.cells (vals.toArray++w6 zv.cells (grownCap w 1 0 e-1)) e)):=by
   have:=Ext.alloc w.drew (.cells (vals.toArray++w6 zv.cells (grownCap w 1 0 e-1)) e);exact⟨this.os,this.tape,this.output,this.size,this.block⟩
  refine fin _ _ rfl hex.os hex.tape hex.output hex.size (hrun _ _ (by rw[hes,hxe];exact hr')) (fun b hb _=>hex.block b hb) (fun b hb=>?_) fun M pt ow S hgM hsM _ hVV=>?_
  .simp[vbl]at hb;subst hb;exact .inr ⟨qL _,OC⟩
  .refine .inr ⟨w.heap.size,_,_,rfl,heap_alloc_new w.drew _,hcap,hcm,?_,fun q z hz q2 u hu=>?_⟩
   .rw[qM,qC,size_zeroCells,hzs,hvl,<-qS];congr 1;omega
   .match q,hz with
    |0,hz=>
     cases hz
     obtain⟨v,hv,hlf⟩:=yv M pt ow S hgM hsM q2 u hu;have hlt:=(q0.1 hv).1;refine⟨v,?_,hlf.mono hVV⟩;rw[qY,qO,qJ (by simpa using hlt)];simpa using hv
    |q+1,hz=>simp at hz
 .subst hh;have hvb1:vbl (w7 (some ⟨b1,0,none⟩) row.length cap1)=some b1:=rfl;obtain⟨vals0,hvl0,hlf0,hc0⟩:=zc8 (V:=zo w M0) (.inr ⟨b1,cap1,cs1,rfl,hcs1,hc1,hc2,hc3,hc4⟩:zae w (zo w M0) e k row (.slice (some ⟨b1,0,none⟩) row.length cap1));have hvlo:(cs1.toList.take (row.length*k.size)).length =row.length*k.size:=by
   rw[qZ];have:row.length*k.size<=cs1.toList.length:=by simp;rw[hc3];exact qG _ hc1
   omega
  have ov:∀M,zae w (zo w M) e k row (.slice (some ⟨b1,0,none⟩) row.length cap1)->∀(i:Nat)(x:k.T),row[i]? =some x->∀(j:Nat)(u:AV),(k.cells x)[j]? =some u->∃v,(cs1.toList.take (row.length*k.size))[i*k.size+j]? =some v/\Leaf (zo w M) u v:=by
   intro M hb;obtain⟨vals0,hvl0,hlf0,hc0⟩:=zc8 hb;rcases hc0 with ⟨hc0,_⟩|⟨b3,cap3,cs3,hh3,hcs3,_,_,_,htk⟩
   .simp at hc0
   .simp at hh3;obtain⟨rfl,rfl⟩:=hh3;rw[hcs1]at hcs3;simp at hcs3;subst hcs3;rw[htk];exact hlf0
  have yv':∀M pt ow S,Good c0 M pt ow S Y.hp w->zdj Y a w M pt ow->∀(i:Nat)(x:k.T),[y][i]? =some x->∀(j:Nat)(u:AV),(k.cells x)[j]? =some u->∃v,vals[i*k.size+j]? =some v/\Leaf (zo w M) u v:=by
   intro M pt ow S hgM hsM q x hx j u hu
   match q,hx with
   |0,hx=>cases hx;rw[qY,qO];exact yv M pt ow S hgM hsM j u hu
   |q+1,hx=>simp at hx
  by_cases hroom:row.length+1<=cap1
  .have hfit:row.length*inf.size+vals.length<=cs1.size:=by
    rw[hvl,hsize,hc3,<-qS];exact qG _ hroom
   have hr':=run_append_room (P:=P) w t o.type e inf hu hinf b1 row.length cap1 cs1 hcs1 ⟨b,p,none⟩ 1 cap' vals hvl' hvc' hv1 hroom hfit;refine fin (.slice (some ⟨b1,0,none⟩) (row.length+1) cap1) (w.setRow b1 (cs1.toList.take (row.length*inf.size)++vals++cs1.toList.drop (row.length*inf.size+vals.length)).toArray) rfl rfl rfl rfl OC (hrun _ _ (by rw[hes,hxe];exact hr')) (fun b' _ hb'=>setRow_other w b1 b' _ fun e'=>hb' (by rw[hvb1,e'])) (fun b hb=>.inl hb) fun M pt ow S hgM hsM hbM hVV=>?_
   refine .inr ⟨b1,cap1,_,by rw[qB];rfl,setRow_heap w b1 cs1 _ e _ hcs1,by rw[qB];exact hroom,hc2,?_,fun q z hz q2 u hu=>?_⟩
   .simp only[qC,qB,qZ,List.length_drop,qH];rw[<-hc3];omega
   .obtain⟨v,hv,hlf⟩:=zaz hVV hvlo (ov M hbM) (yv' M pt ow S hgM hsM) q z hz q2 u hu;refine⟨v,?_,hlf⟩;have hlt:=(q0.1 hv).1;rw[hsize,qF,List.getElem?_append_left hlt];exact hv
  .have hr':=run_append_grow (P:=P) w t o.type e inf zv hu hinf hz ⟨b1,0,none⟩ row.length cap1 (cs1.toList.take (row.length*k.size)) (by rw[hvlo,hsize])
    (fun j v hj=>by
      rw[wt,qO];rw[List.getElem?_take]at hj;split at hj
      .simp only[World.cell?,hcs1];simpa using hj
      .simp at hj) ⟨b,p,none⟩ 1 cap' vals hvl' hvc' O (by unfold maxLen at hrl;omega) (growslice_fits O hby)
   have hcap:=grownCap_ge w (row.length+1) cap1 e;have hcm:=grownCap_le_maxLen w (row.length+1) cap1 e hrl;have hex:Ext w (w.drew.alloc (.cells ((cs1.toList.take (row.length*k.size)).toArray ++vals.toArray++w6 zv.cells (grownCap w (row.length+1) cap1 e-(row.length+1))) e)):=by
    have:=Ext.alloc w.drew (.cells ((cs1.toList.take (row.length*k.size)).toArray ++vals.toArray++w6 zv.cells (grownCap w (row.length+1) cap1 e-(row.length+1))) e);exact⟨this.os,this.tape,this.output,this.size,this.block⟩
   refine fin _ _ rfl hex.os hex.tape hex.output hex.size (hrun _ _ (by rw[hes,hxe];exact hr')) (fun b hb _=>hex.block b hb) (fun b hb=>?_) fun M pt ow S hgM hsM hbM hVV=>?_
   .simp[vbl]at hb;subst hb;exact .inr ⟨qL _,OC⟩
   .refine .inr ⟨w.heap.size,_,_,by rw[qB];rfl,heap_alloc_new w.drew _,by rw[qB];exact hcap,hcm,?_,fun q z hz q2 u hu=>?_⟩
    .rw[qM,qM,qC,qC,size_zeroCells,hzs,hvl,hvlo,<-qS,<-qS];congr 1;omega
    .obtain⟨v,hv,hlf⟩:=zaz hVV hvlo (ov M hbM) (yv' M pt ow S hgM hsM) q z hz q2 u hu;refine⟨v,?_,hlf⟩;have hlt:=(q0.1 hv).1;rw[qJ (by simpa using hlt),List.append_toArray,qF];exact hv
end
section
variable {P:Program} {T:Tab}
theorem zky(hm:P.follows .mixedOrders =true){id:Nat}{ops:Array Oper}{Y:St}{n:St->Prop}{e:Nat->St->Prop}{r:St->Prop}(S:(Nat->Bool)->St->Prop){σ0:St}(hdep:depB ops=true)
 (hS0:S (fun i=>qV ops.size i) σ0) (h0:leS Y σ0) (hfr:zde (zeh σ0.hp) σ0.ids=true)
 (step:∀(L:Nat->Bool)(i:Nat)(o:Oper),(∀j oj,ops[j]? =some oj->L j=true->∀e∈oj.after,w5 .any e=true->L e.on=true)->ops[i]? =some o->L i=false->
   (∀e∈o.after,w5 .any e=true->L e.on=true)->∀G,S L G->OpX P o G (S (je L i)))
 (hend:∀G,S (fun _=>true) G->n G):Tri P (.region id ops true) Y (K3 n e r):=by
 refine⟨fun c0 a w Q hr hq=>wpIn_region_any hm ?_⟩;have main:∀(fuel:Nat)(listed:Array Bool)(a:Act)(w:World),listed.size=ops.size->qfp listed ops.size<=fuel->
  (∀j oj,ops[j]? =some oj->listed.getD j true=true->∀e∈oj.after,w5 .any e=true->listed.getD e.on true=true)->
  (∃G,S (fun i=>listed.getD i true) G/\Rel c0 G a w)->wpAnyIn w4 0 P .any ops Q fuel listed a w:=by
  have hfin:∀(listed:Array Bool)(a:Act)(w:World),(∀i,listed.getD i true=true)->(∃G,S (fun i=>listed.getD i true) G/\Rel c0 G a w)->Q .normal a w:=fun listed a w h hr=>by
   have:(fun i=>listed.getD i true)=fun _=>true:=funext h
   rw[this]at hr;obtain⟨G,h1,h2⟩:=hr;exact hq .normal _ a w h2 (hend G h1)
  intro fuel
  induction fuel with
  |zero=>
   intro listed a w hs hc hcl hr;have hall:∀i,listed.getD i true=true:=fun i=>by
    cases h:listed.getD i true with
    |true=>rfl
    |false=>
     have hi:i<listed.size:=by
      rcases w3 i listed.size with h'|h'
      .exact h'
      .simp[qP h']at h
     have:=zpt (n:=ops.size) O h;omega
   refine⟨?_,hfin listed a w hall hr⟩;refine List.eq_nil_iff_forall_not_mem.2 fun j hj=>?_
   have:=(mem_ready.1 hj).1;rw[hall j]at this;cases this
  |succ fuel ih=>
   intro listed a w hs hc hcl hr;refine⟨fun h=>hfin listed a w (zqy hdep h hs) hr,fun i hi=>?_⟩;obtain⟨hu,o,ho,hdeps⟩:=mem_ready.1 hi;have hio:=(qK.1 ho).1;have hd:∀e∈o.after,w5 .any e=true->listed.getD e.on true=true:=fun e he hb=>by
    have h1:=hdeps e he hb;have h2:=zmc hdep ho he hb;have h3:e.on<listed.size:=O;simpa[h3]using h1
   obtain⟨G,hτ,hr⟩:=hr;refine OpX.sound ho (step (fun i=>listed.getD i true) i o hcl ho hu hd G hτ) hr fun a' w' hx=>ih _ a' w' (by simpa using hs) ?_ ?_ ?_
   .have:=zpt (n:=ops.size) hio hu;omega
   .intro j oj hoj hj e he hb;by_cases hij:i=e.on
    .rw[<-hij];have:i<listed.size:=O;simp[this]
    .rw[getD_set_ne true hij];by_cases hij2:i=j
     .subst hij2;rw[ho]at hoj;cases hoj
      exact hd e he hb
     .rw[getD_set_ne true hij2]at hj;exact hcl j oj hoj hj e he hb
   .have:(fun j=>(listed.setIfInBounds i true).getD j true)=je (fun i=>listed.getD i true) i:=by
     funext j
     unfold je
     cases h:qU j i with
     |true=>
      have:=(zd _ _).1 h;subst this;have:j<listed.size:=O;simp[this]
     |false=>
      have:=(zt _ _).1 h;simp only[cond_false];exact getD_set_ne true (Ne.symm this)
    rw[this];exact hx
 refine main ops.size _ a _ OC ?_ ?_ ?_
 .unfold qfp;exact qW List.countP_le_length OC
 .intro j oj hoj hj;have hlt:=(qK.1 hoj).1;simp[hlt]at hj
 .have:(fun i=>(w2 ops.size false).getD i true)=fun i=>qV ops.size i:=by
   funext i
   rcases w3 i ops.size with h|h
   .have:qV ops.size i=false:=by
     cases e:qV ops.size i with
     |true=>have:=qR e;omega
     |false=>rfl
    simp[h,this]
   .have:qV ops.size i=true:=Nat.ble_eq_true_of_le h;simp[qP (xs:=w2 ops.size false) (i:=i) (by simpa using h),this]
  rw[this];exact⟨σ0,hS0,(hr.weaken h0 hfr).drawn _⟩
def rgn(n:Nat):Code->Option (Array Oper)
 |.region id ops _=>bif qU id n then some ops else none
 |.seq a b=>match rgn n a with
   |some x=>some x
   |none=>rgn n b
 |.cond _ a b=>match rgn n a with
   |some x=>some x
   |none=>rgn n b
 |.block _ b=>rgn n b
 |.loop b=>rgn n b
 | _=>none
def opsOf(n:Nat)(c:Code):Array Oper:=(rgn n c).getD #[]
theorem OpX.mono{P:Program}{o:Oper}{Y:St}{K K':St->Prop}(h:OpX P o Y K)(hk:∀G,K G->K' G):OpX P o Y K':=
 ⟨h.1,fun c0 a w Q hr=>Oper.wpIn_mono (fun _ _ ⟨G,h1,h2⟩=>⟨G,hk G h1,h2⟩) (h.2 c0 a w Q hr)⟩
theorem zt8{ops:Array Oper}{j:Nat}{o:Oper}{L:Nat->Bool}(ho:ops[j]? =some o)(hd:∀e∈o.after,w5 .any e=true->L e.on=true)(q:Nat)
 (hq:(ops[j]?.map fun o=>o.after.toList.any fun e=>w5 .any e&&qU e.on q)=some true):L q=true:=by
 rw[ho]at hq;simp only[Option.map_some,Option.some.injEq,List.any_eq_true,Bool.and_eq_true]at hq;obtain⟨e,he,h1,h2⟩:=hq;have:=hd e (by simpa using he) h1;rw[(zd _ _).1 h2]at this;exact this
theorem zy2{ops:Array Oper}{L:Nat->Bool}(hcl:∀j oj,ops[j]? =some oj->L j=true->∀e∈oj.after,w5 .any e=true->L e.on=true){a q:Nat}
 (hq:(ops[a]?.map fun o=>o.after.toList.any fun e=>w5 .any e&&qU e.on q)=some true) (ha:L a=true):L q=true:=by
 cases ho:ops[a]? with
 |none=>rw[ho]at hq;cases hq
 |some oa=>exact zt8 ho (hcl a oa ho ha) q hq
def endL(v:Value)(y:AV):List AV->List AV->Prop
 | [],[]=>True
 |a::l,b::m=>(b=.any \/a=b\/(a=.val v/\b=y))/\endL v y l m
 | _,_=>False
theorem Rs.endL{ρ ρ':Env}{v:Value}{y:AV}(hle:∀is,ρ.le ρ' is)(hy:R ρ' y v):∀ {l m:List AV}{vs:List Value},endL v y l m->Rs ρ l vs->Rs ρ' m vs
 | [],[],vs,_,h=>by cases vs<;>exact h
 |a::l,b::m,[],_,h=>by simp[Rs]at h
 |a::l,b::m,u::vs,he,h=>by
  simp only[Rs]at h⊢;refine⟨?_,Rs.endL hle hy he.2 h.2⟩;rcases he.1 with rfl|rfl|⟨rfl,rfl⟩
  .simp[R]
  .exact h.1.imp _ _ (hle _)
  .have:=h.1;simp only[R]at this;rw[this.1];exact hy
 | [],_::_,_,he,_=>he.elim
 | _::_,[],_,he,_=>he.elim
theorem Rel.rowsEnd{c:Ctx}{Y:St}{a:Act}{w:World}(h:Rel c Y a w){J0:GJ}{E e:TypeId}{k kk:Elt}(f:List k.T->kk.T)(hf:∀r,kk.cells (f r)= [.sl k r])(hkk:kk.size=1){b0 cap:Nat}{hs:List Value}{rows:List (List k.T)}(hV:zhq J0)(hb:c.w0.heap.size<=b0)
 (hJ:hget Y.hp qi=.gst (yn J0 E e k b0 cap hs rows none)) {sl':List AV} (hsl:endL (.slice (some ⟨b0,0,none⟩) rows.length cap) (.sl kk (rows.map f)) Y.sl sl'):Rel c ⟨sl',xo Y.hp qi (.gst J0)⟩ a w:=by
 obtain⟨M,pt,ow,S,hg,hs',hd⟩:=h;have hbJ:=hg.blk qi;rw[hJ]at hbJ;obtain⟨_,_,hj0,k1,k2,k3,k4,⟨cs,k5,k6,k7⟩,k8⟩:=hbJ;have k8:zba S (zo w M) w e k b0 hs rows:=k8;have hkey:uh Y.hp qi:=zr (by rw[hJ];simp)
 let Zq:Nat->Prop:=fun b=>b=b0\/∃(j:Nat)(x:Value),hs[j]? =some x/\vbl x=some b
 have hZS:∀b,Zq b->S b:=fun b hz=>by
  rcases hz with rfl|⟨j,x,hx,hxb⟩
  .exact k1
  .have hj:j<rows.length:=by have:=(q0.1 hx).1;omega
   exact((k8 j x _ hx (qA hj)).2 b hxb).1.1
 have hZ0:∀b,Zq b->b0<=b:=fun b hz=>by
  rcases hz with rfl|⟨j,x,hx,hxb⟩
  .exact qL _
  .have hj:j<rows.length:=by have:=(q0.1 hx).1;omega
   exact Nat.le_of_lt ((k8 j x _ hx (qA hj)).2 b hxb).1.2
 let M':Nat->Prop:=fun b=>M b/\¬Zq b
 have hVw:∀b ob,zo w M b ob->zo w M' b ob:=zy fun b ob hm hb=>⟨fun h'=>hm h'.1,hb⟩
 have hleaf:Leaf (zo w M') (.sl kk (rows.map f)) (.slice (some ⟨b0,0,none⟩) rows.length cap):=by
  refine .sl kk _ _ _ _ b0 0 OC k3 k4 (fun _=>rfl) (zf7 (fun h=>h.2 (.inl rfl)) k5 (fun i x hx q u hu=>?_) fun i x hx=>?_)
  .rw[List.getElem?_map,Option.map_eq_some_iff]at hx;obtain⟨r,hr,rfl⟩:=hx;rw[hf]at hu
   match q,hu with
   |0,hu=>
    cases hu
    have hi:i<hs.length:=by have:=(q0.1 hr).1;omega
    have hx:=qA hi;refine⟨hs[i],by rw[hkk,w1,Nat.add_zero];exact k7 i _ hx,?_⟩;obtain⟨q1,q2⟩:=k8 i _ r hx hr;rcases q1 with ⟨h1,h2⟩|⟨b,cap2,cs2,h1,h2,h3,h4,h5,h6⟩
    .rw[h1,h2];exact .sl k [] none 0 0 0 0 rfl (qL _) OC OC OC
    .have hnM:¬M' b:=fun h=>h.2 (.inr ⟨i,_,hx,by rw[h1];rfl⟩)
     rw[h1];refine .sl k r _ _ _ b 0 rfl h3 h4 (fun _=>rfl) (zf7 hnM h2 (fun i x hx q u hu=>?_) fun i x hx=>?_)
     .obtain⟨v,hv,hl⟩:=h6 i x hx q u hu;exact⟨v,hv,hl.mono hVw⟩
     .have:=(q0.1 hx).1;rw[h5];exact qG _ O
   |q+1,hu=>simp at hu
  .have:=(q0.1 hx).1;rw[hkk,k6];simp at this;omega
 refine⟨M',pt,ow,fun b=>S b/\¬Zq b,{
  os:=hg.os,tape:=hg.tape,output:=hg.output,size:=hg.size,keep:=hg.keep
  fresh:=fun b hb=>hg.fresh b hb.1
  m0:=fun b hb=>⟨hg.m0 b hb,fun hz=>by have:=hg.m1 b hb;have:=hZ0 b hz;omega⟩
  m1:=hg.m1
  mt:=fun i b hb=>⟨hg.mt i b hb,fun hz=>hg.gd i b hb (hZS b hz)⟩
  inj:=hg.inj
  gm:=fun b hb=>⟨hg.gm b hb.1,hb.2⟩
  gd:=fun i b hb hS=>hg.gd i b hb hS.1
  gl:=fun b hb=>hg.gl b hb.1
  loc:=hg.loc,farp:=hg.farp,farw:=hg.farw
  dpt:=fun i b hb=>by
   have:=hg.dpt i b hb;by_cases e:i=qi
   .subst e;rw[hJ]at this;cases this
   .rw[zx e];exact this
  dow:=fun i b hb=>by
   have:=hg.dow i b hb;by_cases e:i=qi
   .subst e;rw[hJ]at this;cases this
   .rw[zx e];exact this
  blk:=fun i=>by
   by_cases e:i=qi
   .subst e;rw[qb hkey];exact⟨rfl,hV.stab,hV _ _ _ _ _ _ (.of hVw) hj0⟩
   .rw[zx e];have hb:=hg.blk i
    revert hb
    generalize hget Y.hp i=B;intro hb
    cases B with
    |gst J2=>exact absurd hb.1 e
    |free=>trivial
    |dead=>trivial
    |cells l=>exact uc.mono (S:=fun _=>False) (x:=.cells l) rfl rfl hVw (fun _=>hg.ptow) (fun _ _ _ h=>h) (fun _ _ h=>h.elim) hb
    |buf e k xs=>exact uc.mono (S:=fun _=>False) (x:=.buf e k xs) rfl rfl hVw (fun _=>hg.ptow) (fun _ _ _ h=>h) (fun _ _ h=>h.elim) hb
    |map kk vk m=>exact uc.mono (S:=fun _=>False) (x:=.map kk vk m) rfl rfl hVw (fun _=>hg.ptow) (fun _ _ _ h=>h) (fun _ _ h=>h.elim) hb},?_,hd.mono hVw⟩
 intro pt' ow' hag;have hag2:Agr Y.hp pt pt' ow ow':=fun i hi=>hag i (by
  by_cases e:i=qi
  .subst e;rw[qb hkey];rfl
  .rw[zx e];exact hi)
 obtain⟨h1,h2⟩:=hs' pt' ow' hag2;have hle:∀is:List Nat,Env.le ⟨zo w M,pt',ow'⟩ ⟨zo w M',pt',ow'⟩ is:=fun is=>⟨hVw,fun _ _=>⟨fun _ h=>h,fun _ h=>h⟩⟩
 refine⟨Rs.endL hle (by simp only[R];exact hleaf) hsl h1,fun i l b cs T hl hb hcs=>?_⟩;have e:i≠qi:=fun e=>by subst e;rw[qb hkey]at hl;cases hl
 rw[zx e]at hl;exact(h2 i l b cs T hl hb hcs).imp _ _ (hle _)
theorem zv2{res:List ResultVar}{ex:List Nat}{rv:AV}{H':Hp}{x mid rest:Code}{Y:St}{J0:GJ}(hV:zhq J0){E e:TypeId}{k kk:Elt}(f:List k.T->kk.T)(hf:∀r,kk.cells (f r)= [.sl k r])(hkk:kk.size=1)
 {cap:Nat} (OK:List (List k.T)->Prop) (σ1:Nat->St) (σ2:Nat->List Value->List (List k.T)->St) (sl3:List (List k.T)->List AV)
 (hmk:∀(c:Ctx)(a:Act)(w:World)(Q:Exit->Act->World->Prop),Rel c Y a w->(∀b0 a' w',c.w0.heap.size<=b0->Rel c (σ1 b0) a' w'->Q .normal a' w')->x.wpIn w4 0 P Q a w)
 (hmid:∀b0,Tri P mid (σ1 b0) (K3 (fun G=>∃hs rows,OK rows/\leS G (σ2 b0 hs rows)) (fun _ _=>False) (fun _=>False)))
 (hfr:∀b0 hs rows,zde (zeh (σ2 b0 hs rows).hp) (σ2 b0 hs rows).ids =true)
 (h2:∀b0 hs rows,OK rows->hget (σ2 b0 hs rows).hp qi=.gst (yn J0 E e k b0 cap hs rows none)/\endL (.slice (some ⟨b0,0,none⟩) rows.length cap) (.sl kk (rows.map f)) (σ2 b0 hs rows).sl (sl3 rows))
 (h3:∀b0 hs rows,OK rows->SemOK P T res ex rv H' rest ⟨sl3 rows,xo (σ2 b0 hs rows).hp qi (.gst J0)⟩):SemOK P T res ex rv H' (.seq x (.seq mid rest)) Y:=by
 refine⟨fun c0 a w Q hr hq=>wpIn_seq (hmk c0 a w _ hr fun b0 a' w' hb hr'=>wpIn_seq ((hmid b0).run c0 a' w' _ hr' fun ex G a w hr hk=>?_))⟩
 cases ex with
 |normal=>
  obtain⟨hs,rows,hok,hle⟩:=hk;have hr2:=hr.weaken hle (hfr b0 hs rows);obtain⟨e1,e2⟩:=h2 b0 hs rows hok;exact(h3 b0 hs rows hok).sem c0 a w Q (hr2.rowsEnd f hf hkk hV hb e1 e2) hq
 |exit i=>exact hk.elim
 |ret=>exact hk.elim
 | _=>exact hk.elim
theorem zr6(hT:TabOK P T)(hmx:P.follows .mixedOrders =true)(sp:List Nat){res:List ResultVar}{ex:List Nat}{rv:AV}{H':Hp}{x m1 m2 rest:Code}{Y:St}{J0:GJ}(hV:zhq J0){E e:TypeId}{k kk:Elt}(f:List k.T->kk.T)(hf:∀r,kk.cells (f r)= [.sl k r])(hkk:kk.size=1)
 {cap:Nat} (OK:List (List k.T)->Prop) (σ1:Nat->St) (σ2:Nat->List Value->List (List k.T)->St) (sl3:List (List k.T)->List AV)
 (hmk:∀(c:Ctx)(a:Act)(w:World)(Q:Exit->Act->World->Prop),Rel c Y a w->(∀b0 a' w',c.w0.heap.size<=b0->Rel c (σ1 b0) a' w'->Q .normal a' w')->x.wpIn w4 0 P Q a w)
 (hmid:∀b0,zmf P T sp m1 (σ1 b0) (fun G=>zmf P T sp m2 G (fun G=>∃hs rows,OK rows/\leS G (σ2 b0 hs rows)) (fun _ _=>False) (fun _=>False)) (fun _ _=>False) (fun _=>False))
 (hfr:∀b0 hs rows,zde (zeh (σ2 b0 hs rows).hp) (σ2 b0 hs rows).ids =true)
 (h2:∀b0 hs rows,OK rows->hget (σ2 b0 hs rows).hp qi=.gst (yn J0 E e k b0 cap hs rows none)/\endL (.slice (some ⟨b0,0,none⟩) rows.length cap) (.sl kk (rows.map f)) (σ2 b0 hs rows).sl (sl3 rows))
 (h3:∀b0 hs rows,OK rows->SemOK P T res ex rv H' rest ⟨sl3 rows,xo (σ2 b0 hs rows).hp qi (.gst J0)⟩):SemOK P T res ex rv H' (.seq x (.seq m1 (.seq m2 rest))) Y:=by
 refine⟨fun c0 a w Q hr hq=>wpIn_seq ?_⟩;refine hmk c0 a w _ hr fun b0 a' w' hb hr'=>wpIn_seq ((un hT hmx sp m1 _ _ _ _ (hmid b0)).run c0 a' w' _ hr' fun ex G a w hr hk=>?_)
 cases ex with
 |normal=>
  refine wpIn_seq ((un hT hmx sp m2 _ _ _ _ hk).run c0 a w _ hr fun ex G a w hr hk=>?_)
  cases ex with
  |normal=>
   obtain⟨hs,rows,hok,hle⟩:=hk;have hr2:=hr.weaken hle (hfr b0 hs rows);obtain⟨e1,e2⟩:=h2 b0 hs rows hok;exact(h3 b0 hs rows hok).sem c0 a w Q (hr2.rowsEnd f hf hkk hV hb e1 e2) hq
  |exit i=>exact hk.elim
  |ret=>exact hk.elim
  | _=>exact hk.elim
 |exit i=>exact hk.elim
 |ret=>exact hk.elim
 | _=>exact hk.elim
theorem zli(hT:TabOK P T){id:Nat}{ops:Array Oper}{sl:List AV}{hp:Hp}(l1 l2:List Oper){o:Oper}(hops:ops.toList=l1++o::l2)(hg:o.guard=none){J0:GJ}(hV:zhq J0){σa:St}(hJ:hget σa.hp qi=.gst J0)
 {t E e:TypeId} {k:Elt} {l c':Operand} (ho:o.op=.makeSlice t l c') {d:Nat} (hd:o.dst=some d) {n:Nat} (hl:zm σa.sl l=.int .i64 n) (hc:zm σa.sl c'=.int .i64 n) (hu:P.underlying t=some (.slice E)) {inf:TypeInfo} (hi:P.info? E=some inf)
 (hs:inf.size=1) (hz:inf.zero=some (.slice none 0 0)) (hb:inf.bytes<=100) (hn:n<=1000000) (σ1:Nat->St)
 (h1:zkd sl fun sl=>ztx hp fun hp=>qcv T (CN P) ops.toList l1 ⟨sl,hp⟩ fun Y=>Y=σa)
 (h2:∀b0,qcv T (CN P) ops.toList l2 ⟨σa.sl.set d (.val (.slice (some ⟨b0,0,none⟩) n n)),xo σa.hp qi (.gst (yn J0 E e k b0 n (qI n (.slice none 0 0)) (qI n []) none))⟩ fun Y=>Y=σ1 b0):
 ∀(c:Ctx)(a:Act)(w:World)(Q:Exit->Act->World->Prop),Rel c ⟨sl,hp⟩ a w->(∀b0 a' w',c.w0.heap.size<=b0->Rel c (σ1 b0) a' w'->Q .normal a' w')->(Code.region id ops false).wpIn w4 0 P Q a w:=by
 rw[vf,um]at h1;simp only[zs0]at h1 h2;intro c a w Q hr hq;refine wpIn_region_list ?_;rw[hops];refine zjw hT (fun Y a w hr hk=>?_) l1 _ a w hr h1;subst hk;refine wpListIn_step fun K' hK'=>?_
 rcases jw hr (ops:=ops) (run:=fun _=>True) (skip:=fun _=>False) (o:=o) (by unfold zat;rw[hg];trivial)with ⟨hw,_⟩|⟨_,hk⟩
 .rw[Z6 hw];refine ztd (e:=e) (k:=k) hr hV hJ ho hd hl hc hu hi hs hz hb hn fun a' w' hle hr'=>hK' _ _ ?_
  exact zcc (F:=⟨w4,.inl rfl⟩) hT (fun Y a w hr hk=>by subst hk;exact hq _ _ _ hle hr) l2 _ a' w' hr' (h2 _)
 .exact hk.elim
end
