/- A function's contract from the execution of its body. -/
import Derived.Test.YtlbmkjbgfkgcmaaGreatDoorTSxV
set_option linter.all false
open Nat renaming le_of_ble_eq_true->q0,ble->q1
namespace Go.Sx
open Go
section
variable {P:Program} {T:Tab} {c:Ctx} {Y:St} {a:Act} {w:World}
def qcq(tmps:Array Value):ResultVar->Sem Value
 |.tmp t=>pure (tmps.getD t undef)
 |.cell a t=>do loadVar t (<-asAddr (tmps.getD a undef))
theorem zai(hT:TabOK P T)(h:Rel c Y a w):∀(res:List ResultVar)(K:List AV->Prop),qac T res Y K->
 ∃l,K l/\∃vs,(res.mapM (qcq a.tmps)).run P w=.ok vs w/\∀M pt ow S,Good c M pt ow S Y.hp w->zdj Y a w M pt ow->Rs ⟨zo w M,pt,ow⟩ l vs
 | [],K,hk=>⟨[],hk,[],OC,fun _ _ _ _ _ _=>by simp[Rs]⟩
 |.tmp t::r,K,hk=>by
   simp only[qac]at hk;rw[zg6]at hk;obtain⟨l,hK,vs,hrun,hrs⟩:=zai hT h r _ hk;refine⟨_,hK,a.tmps.getD t undef::vs,?_,fun M pt ow S hg hs=>?_⟩
   .rw[List.mapM_cons];simp[qcq,hrun]
   .simp only[Rs];exact⟨zc (hs pt ow (Agr.refl _ _ _)).1 (.tmp t),hrs M pt ow S hg hs⟩
 |.cell d t::r,K,hk=>by
   simp only[qac]at hk;split at hk
   .rename_i i off hp;split at hk
    .rename_i l hl;obtain⟨ti,hmem,hk⟩:=qu _ _ _ hk;have hti:=hT.ti _ _ hmem;obtain⟨u,hk,hlen,hrr⟩:=zd7 hti hk;obtain⟨l',hK,vs,hrun,hrs⟩:=zai hT h r _ hk;obtain⟨M,pt,ow,S,hg,hs,hr⟩:=h.own;have hx:=zc hr (.tmp d);have hp':zm Y.sl (.tmp d)=.ptr i off:=hp;rw[hp']at hx;simp only[R]at hx;obtain⟨b,cs,Ty,hb,hcs⟩:=hg.cel i l hl;have hxe:=hx.2 b hb;have hrs1:=(hs pt ow (Agr.refl _ _ _)).2 i l b cs Ty hl hb hcs;have hcell:∀j v,((cs.toList.drop off).take ti.sz)[j]? =some v->w.cell? ⟨b,off+j,none⟩=some v:=fun j v hv=>by
      rw[List.getElem?_take]at hv;split at hv
      .simp only[World.cell?,hcs];simpa[List.getElem?_drop]using hv
      .simp at hv
     have hlv:((cs.toList.drop off).take ti.sz).length =ti.sz:=((hrs1.drop off).take ti.sz).length.symm.trans hlen;have hload:=zsk hti (w:=w) _ hlv hcell;refine⟨_,hK,(if ti.agg then .agg ((cs.toList.drop off).take ti.sz).toArray else((cs.toList.drop off).take ti.sz).headD undef)::vs,?_,fun M' pt' ow' S' hg' hs'=>?_⟩
     .rw[List.mapM_cons];have hxe':a.tmps.getD d undef=.pointer (some ⟨b,off,none⟩):=hxe;simp[qcq,hxe',asAddr,hload,hrun]
     .simp only[Rs];refine⟨?_,hrs M' pt' ow' S' hg' hs'⟩;obtain⟨b',cs',Ty',hb',hcs'⟩:=hg'.cel i l hl;have hx':=zc (hs' pt' ow' (Agr.refl _ _ _)).1 (.tmp d);rw[hp']at hx';simp only[R]at hx';have:=hx'.2 b' hb';rw[hxe]at this;simp at this;subst this;rw[hcs]at hcs';simp at hcs';obtain⟨rfl,rfl⟩:=hcs';exact hrr _ _ (((hs' pt' ow' (Agr.refl _ _ _)).2 i l b cs Ty hl hb' hcs).drop off |>.take ti.sz)
    .exact hk.elim
   .exact hk.elim
theorem zgi{fn:Func}{tmps:Array Value}{vs:List Value}(h:(fn.results.toList.mapM (qcq tmps)).run P w=.ok vs w){ρ:Env}{l:List AV}(hr:Rs ρ l vs):
 ∃v,(results fn tmps).run P w=.ok v w/\R ρ (zla l) v:=by
 have e:results fn tmps=(fn.results.toList.mapM (qcq tmps)>>= fun vs=>pure (if h:vs.toArray.size=1 then vs.toArray[0]else .tuple vs.toArray)):=by
  unfold results;rw[Array.mapM_eq_mapM_toList];rw[map_eq_pure_bind,bind_assoc];simp only[pure_bind];have hfun:(fun x:ResultVar=>match x with
   |.tmp t=>(pure (tmps.getD t undef):Sem Value)
   |.cell a t=>do loadVar t (<-asAddr (tmps.getD a undef)))=qcq tmps:=by funext x;cases x<;>rfl
  rw[<-hfun];rfl
 rw[e];refine⟨_,by simp only[Sem.run_bind,h,Result.andThen_ok,Sem.run_pure];rfl,?_⟩
 match l,vs,hr with
 | [],[],_=>simp[zla,R,Rs]
 | [x],[v],hr=>simp only[Rs]at hr;simpa[zla]using hr.1
 |x::y::l,v::u::vs,hr=>
  have:¬((v::u::vs).toArray.size =1):=OC;rw[dif_neg this];simp only[zla,R];exact⟨_,rfl,hr⟩
 | [],_::_,hr=>simp[Rs]at hr
 | _::_,[],hr=>simp[Rs]at hr
 | [_],_::_::_,hr=>simp[Rs]at hr
 | _::_::_,[_],hr=>simp[Rs]at hr
theorem Rel.unmark(h:Rel c Y a w){D:Nat}{Ds:List Nat}(hd:a.defers=(D::Ds).map zd2):w.heap[D]? =some (.deferred (some []))/\Rel c Y {a with defers:=Ds.map zd2} (w.putObj D (.deferred none)):=by
 obtain⟨M,pt,ow,S,hg,hs,Ds',h1,h2,h3⟩:=h;have e:Ds'=D::Ds:=by
  have hinj:∀l m:List Nat,l.map zd2=m.map zd2->l=m:=by
   intro l
   induction l with
   |nil=>intro m h;cases m with
    |nil=>rfl
    |cons _ _=>simp at h
   |cons x l ih=>intro m h;cases m with
    |nil=>simp at h
    |cons y m=>
     simp only[List.map_cons,List.cons.injEq]at h;rw[ih m h.2];have:=h.1;simp[zd2]at this;rw[this]
  exact hinj _ _ (h1.symm.trans hd)
 subst e;obtain⟨hD0,hDM,hD⟩:=h3 D OC;rw[List.nodup_cons]at h2;have hne:∀b,b≠D->(w.putObj D (.deferred none)).heap[b]? =w.heap[b]? :=fun b hb=>World.putObj_heap_other hb
 have hV:CLe (zo w M) (zo (w.putObj D (.deferred none)) M):=fun b cs T fr hv=>⟨hv.1,by
  rw[hne b fun e=>by rw[e]at hv;have:=hv.2;rw[hD]at this;cases this];exact hv.2⟩
 have hMD:∀b,M b->b≠D:=fun b hb e=>hDM (e▸hb)
 refine⟨hD,M,pt,ow,S,?_,?_,Ds,rfl,h2.2,fun D' hD'=>⟨(h3 D' (by simp[hD'])).1,(h3 D' (by simp[hD'])).2.1,by
  rw[hne D' fun e=>h2.1 (e▸hD')];exact(h3 D' (by simp[hD'])).2.2⟩⟩
 .exact {
   os:=hg.os,tape:=hg.tape,output:=hg.output
   size:=by simpa[World.putObj]using hg.size
   keep:=fun b hb hm=>by rw[hne b O];exact hg.keep b hb hm
   fresh:=fun b hb=>by simpa[World.putObj]using hg.fresh b hb
   m0:=hg.m0,m1:=hg.m1,mt:=hg.mt,gm:=hg.gm,gd:=hg.gd,inj:=hg.inj,dpt:=hg.dpt,dow:=hg.dow,loc:=hg.loc,gl:=hg.gl,farp:=hg.farp,farw:=hg.farw
   blk:=fun i=>(hg.blk i).cmono rfl rfl hV (fun _=>hg.ptow) (fun b o hb hh=>by rw[hne b (hMD b (hg.mt i b hb))];exact hh) (fun b o hb hh=>by rw[hne b (hMD b (hg.gm b hb))];exact hh)}
 .intro pt' ow' hag;obtain⟨h4,h5⟩:=hs pt' ow' hag;refine⟨Rs.cmono hV _ _ h4,fun i l b cs Ty hl hb hcs=>?_⟩;rw[hne b (hMD b (hg.mt i b (by simp[bl,hb])))]at hcs;exact Rs.cmono hV _ _ (h5 i l b cs Ty hl hb hcs)
theorem zbq{fn:Func}{R:Ending->World->Prop}(tm:Array Value)(hR:∀w',Rel c Y {tmps:=tm,defers:= []} w'->∃v,(results fn tm).run P w'=.ok v w'/\R (.returned v) w'):
 ∀(Ds:List Nat)(w:World),Rel c Y {tmps:=tm,defers:=Ds.map zd2} w->LeavesInM Fence.wide 0 P fn tm R (Ds.map zd2) .returning w
 | [],w,h=>hR w h
 |D::Ds,w,h=>by
  obtain⟨h1,h2⟩:=h.unmark (D:=D) (Ds:=Ds) rfl;exact⟨OC,.inl ⟨D,_,rfl,run_takeDeferred h1,zbq tm hR Ds _ h2⟩⟩
theorem zkh:∀ {n:Nat}{l:List Nat},far n l=true->∀i∈l,1000000<=i/\i<2000000+n/\(i<1500000\/1999999<=i)
 | _,[],_,i,hi=>by simp at hi
 |n,j::l,h,i,hi=>by
  simp only[far]at h;split at h
  .rename_i e1 e2 e3;rcases List.mem_cons.1 hi with rfl|hi
   .refine⟨q0 e1,q0 e2,?_⟩;rcases Bool.or_eq_true _ _▸e3 with h1|h1
    .exact .inl (q0 h1)
    .exact .inr (q0 h1)
   .exact zkh h i hi
  .cases h
theorem ztl:∀(h:Hp),keys h=h.map (·.1)
 | []=>rfl
 |(i,b)::r=>by simp[keys,ztl r]
theorem znp:∀(h:Hp),zqv h=h.map (·.2)
 | []=>rfl
 |(i,b)::r=>by simp[zqv,znp r]
theorem za4{h:Hp}{i:Nat}:i∈keys h<->uh h i:=by rw[ztl];exact Iff.rfl
theorem zc9:∀ {H:Hp}{i:Nat},yf (H.map (·.2))=true->(hget H i).isFree =false
 | [],_,_=>rfl
 |(j,b)::H,i,h=>by
  rw[zf];split
  .cases b<;>simp[yf]at h<;>rfl
  .exact zc9 (by cases b<;>simp[yf]at h<;>simpa using h)
theorem znq{ρ:Env}:∀n:Nat,Rs ρ (uo n) (List.replicate n undef)
 |0=>by simp[uo,Rs]
 |n+1=>by simp only[uo,List.replicate_succ,Rs];exact⟨by simp[R],znq n⟩
theorem zg1(f:Nat->Nat):∀ {H:Hp}{i:Nat},i∈keys H->(∀j∈keys H,f j=f i->j=i)->hget (zew f H) (f i)=(hget H i).mapI f
 | [],_,h,_=>by simp[keys]at h
 |(j,b)::r,i,h,hf=>by
  simp only[zew];rw[zf,zf];by_cases e:j=i
  .rw[Z6 e,Z6 (by rw[e])]
  .rw[Z7 e,Z7 fun e'=>e (hf j (by simp[keys]) e')];simp only[keys,List.mem_cons]at h;exact zg1 f (h.resolve_left fun h'=>e h'.symm) fun k hk=>hf k (by simp[keys,hk])
theorem uc.unren{w:World}{V:kf}{pt pt':Nat->Option Nat}{ow ow':Nat->Option Value}{S:Nat->Prop}{i j:Nat}{x:Blk}(f:Nat->Nat)(hpt:pt' i=pt j)(how:ow' i=ow j)(hS:j=qi->i=qi)(h:uc w V pt ow S j (x.mapI f)):uc w V pt' ow' S i x:=by
 cases x with
 |free=>trivial
 |dead=>trivial
 |cells l=>simpa only[Blk.mapI,uc,hpt]using h
 |buf e k xs=>simpa only[Blk.mapI,uc,how]using h
 |map a b m=>simpa only[Blk.mapI,uc,hpt]using h
 |gst J=>
  obtain⟨h1,h2,h3⟩:=h;exact⟨hS h1,h2,h3⟩
theorem zyy{ex:List Nat}{i:Nat}(h:i<2000000):exI ex i=i:=by
 unfold exI;have:q1 2000000 i=false:=by
  cases e:q1 2000000 i with
  |false=>rfl
  |true=>have:=q0 e;omega
 rw[this]
theorem qe9{ex:List Nat}{i:Nat}(h:2000000<=i)(h2:i<2000000+ex.length):exI ex i=ex[i-2000000]'(O):=by
 unfold exI;have:q1 2000000 i=true:=Nat.ble_eq_true_of_le h;rw[this];simp only[];rw[List.getD_eq_getElem?_getD,List.getElem?_eq_getElem O];rfl
open Classical in
set_option maxHeartbeats 1000000 in
end
