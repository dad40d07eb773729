/- A loop over a function; a piece of code. -/
import Derived.Test.YtlbmkjbgfkgcmaaGreatDoorTSxR
set_option linter.all false
open Bool renaming false_eq_true->q1,and_eq_true->q2
open List renaming mem_cons->q0,mem_append->q3,nodup_cons->q4
open Go.World renaming putObj->qA,putObj_heap_same->qB,alloc_heap_new->qC
namespace Go.Sx
open Go
theorem qcz(is:List Nat)(j:Nat):j∈zfe is<->∃i,i∈is/\j=zfu i:=by
 induction is with
 |nil=>simp[zfe]
 |cons k l ih=>
  simp only[zfe,q0,ih];constructor
  .rintro(h|⟨i,h1,h2⟩)
   .exact⟨k,.inl rfl,h⟩
   .exact⟨i,.inr h1,h2⟩
  .rintro⟨i,h1|h1,h2⟩
   .exact .inl (h1▸h2)
   .exact .inr ⟨i,h1,h2⟩
theorem zv7{i j:Nat}(h:zfu i=zfu j):i=j:=by unfold zfu at h;omega
mutual
theorem R.mvl{V:kf}{pt pt':Nat->Option Nat}{ow ow':Nat->Option Value}{is:List Nat}(h:∀i∈is,pt' (zfu i)=pt i):∀(a:AV)(v:Value),R ⟨V,pt,ow⟩ a v->R ⟨V,pt',ow'⟩ (a.mvl is) v
 |.any,_,_=>by simp[AV.mvl,R]
 |.bool _,_,hr=>by simpa[AV.mvl,R]using hr
 |.int _ _,_,hr=>by simpa[AV.mvl,R]using hr
 |.str _,_,hr=>by simpa[AV.mvl,R]using hr
 |.nilp,_,hr=>by simpa[AV.mvl,R]using hr
 |.ptr i o,v,hr=>by
   simp only[AV.mvl];split
   .rename_i e;simp only[R]at hr⊢;rw[h i ((wy _ _).1 e)];exact hr
   .simp[R]
 |.rp t x o,v,hr=>by simpa only[AV.mvl,R]using hr
 |.opt i s j o,v,hr=>by simp[AV.mvl,R]
 |.ow i s j n,v,hr=>by simp[AV.mvl,R]
 |.nilsl,_,hr=>by simpa[AV.mvl,R]using hr
 |.sl t ys,v,hr=>by simpa only[AV.mvl,R]using hr
 |.own i,v,hr=>by simp[AV.mvl,R]
 |.agg l,v,hr=>by
   simp only[AV.mvl,R]at hr⊢;obtain⟨vs,hv,hr⟩:=hr;exact⟨vs,hv,Rs.mvl h l _ hr⟩
 |.tup l,v,hr=>by
   simp only[AV.mvl,R]at hr⊢;obtain⟨vs,hv,hr⟩:=hr;exact⟨vs,hv,Rs.mvl h l _ hr⟩
 |.fn f l,v,hr=>by
   simp only[AV.mvl,R]at hr⊢;obtain⟨vs,hv,hr⟩:=hr;exact⟨vs,hv,Rs.mvl h l _ hr⟩
 |.nilf,_,hr=>by simpa[AV.mvl,R]using hr
 |.mp i,v,hr=>by
   simp only[AV.mvl];split
   .rename_i e;simp only[R]at hr⊢;rw[h i ((wy _ _).1 e)];exact hr
   .simp[R]
 |.nilm,_,hr=>by simpa[AV.mvl,R]using hr
 |.ub _ _,_,hr=>by simpa only[AV.mvl,R]using hr
 |.cb _,_,hr=>by simpa[AV.mvl,R]using hr
 |.val _,_,hr=>by simpa[AV.mvl,R]using hr
theorem Rs.mvl{V:kf}{pt pt':Nat->Option Nat}{ow ow':Nat->Option Value}{is:List Nat}(h:∀i∈is,pt' (zfu i)=pt i):∀(l:List AV)(vs:List Value),Rs ⟨V,pt,ow⟩ l vs->Rs ⟨V,pt',ow'⟩ (zkr is l) vs
 | [],[],_=>by simp[zkr,Rs]
 | [],_::_,hr=>by simp[Rs]at hr
 | _::_,[],hr=>by simp[Rs]at hr
 |a::l,v::vs,hr=>by
  simp only[zkr,Rs]at hr⊢;exact⟨R.mvl h a v hr.1,Rs.mvl h l vs hr.2⟩
end
mutual
theorem qa6(is:List Nat):∀(a:AV),∀j∈(a.mvl is).ids,j∈zfe is
 |.any,_,h=>by simp[AV.mvl,AV.ids]at h
 |.bool _,_,h=>by simp[AV.mvl,AV.ids]at h
 |.int _ _,_,h=>by simp[AV.mvl,AV.ids]at h
 |.str _,_,h=>by simp[AV.mvl,AV.ids]at h
 |.nilp,_,h=>by simp[AV.mvl,AV.ids]at h
 |.ptr i o,j,h=>by
   simp only[AV.mvl]at h;split at h
   .rename_i e;simp[AV.ids]at h;subst h;exact(qcz _ _).2 ⟨i,(wy _ _).1 e,rfl⟩
   .simp[AV.ids]at h
 |.rp t x o,_,h=>by simp[AV.mvl,AV.ids]at h
 |.opt i s j o,_,h=>by simp[AV.mvl,AV.ids]at h
 |.ow i s j n,_,h=>by simp[AV.mvl,AV.ids]at h
 |.nilsl,_,h=>by simp[AV.mvl,AV.ids]at h
 |.sl t ys,_,h=>by simp[AV.mvl,AV.ids]at h
 |.own i,_,h=>by simp[AV.mvl,AV.ids]at h
 |.agg l,j,h=>zd9 is l j (by simpa[AV.mvl,AV.ids]using h)
 |.tup l,j,h=>zd9 is l j (by simpa[AV.mvl,AV.ids]using h)
 |.fn f l,j,h=>zd9 is l j (by simpa[AV.mvl,AV.ids]using h)
 |.nilf,_,h=>by simp[AV.mvl,AV.ids]at h
 |.mp i,j,h=>by
   simp only[AV.mvl]at h;split at h
   .rename_i e;simp[AV.ids]at h;subst h;exact(qcz _ _).2 ⟨i,(wy _ _).1 e,rfl⟩
   .simp[AV.ids]at h
 |.nilm,_,h=>by simp[AV.mvl,AV.ids]at h
 |.ub _ _,_,h=>by simp[AV.mvl,AV.ids]at h
 |.cb _,_,h=>by simp[AV.mvl,AV.ids]at h
 |.val _,_,h=>by simp[AV.mvl,AV.ids]at h
theorem zd9(is:List Nat):∀(l:List AV),∀j∈wk (zkr is l),j∈zfe is
 | [],_,h=>by simp[zkr,wk]at h
 |a::l,j,h=>by
  simp only[zkr,wk,q3]at h;exact h.elim (qa6 is a j) (zd9 is l j)
end
def psG:List Nat->List AV->List AV->List AV
 |p::ps,v::vs,sl=>psG ps vs (sl.set p v)
 | _,_,sl=>sl
theorem zih:∀(ps:List Nat)(vs sl:List AV)(K:List AV->Prop),zmx ps vs sl K->ps.length=vs.length/\K (psG ps vs sl)
 | [],[],sl,K,h=>⟨rfl,h⟩
 | [],_::_,_,_,h=>h.elim
 | _::_,[],_,_,h=>h.elim
 |p::ps,v::vs,sl,K,h=>by
  simp only[zmx]at h;rw[zg6,zfs]at h;obtain⟨h1,h2⟩:=zih ps vs _ K h;exact⟨by simp[h1],h2⟩
theorem zyg{ρ:Env}:∀(ps:List Nat)(vs:List AV)(us:List Value)(sl:List AV)(t:Array Value),Rs ρ vs us->Rs ρ sl t.toList->Rs ρ (psG ps vs sl) ((ps.zip us).foldl (fun t(p,v)=>t.setIfInBounds p v) t).toList
 | [],_,_,sl,t,_,h=>by simpa[psG]using h
 |p::ps,[],[],sl,t,_,h=>by simpa[psG]using h
 |p::ps,[],_::_,_,_,h,_=>by simp[Rs]at h
 |p::ps,_::_,[],_,_,h,_=>by simp[Rs]at h
 |p::ps,v::vs,u::us,sl,t,h,h'=>by
  simp only[Rs]at h;simp only[psG,List.zip_cons_cons,List.foldl_cons];exact zyg ps vs us _ _ h.2 (by rw[Array.toList_setIfInBounds];exact h'.set h.1 p)
theorem ztq:∀(ps:List Nat)(vs sl:List AV)(j:Nat),j∈wk (psG ps vs sl)->j∈wk vs\/j∈wk sl
 | [],_,_,_,h=>.inr (by simpa[psG]using h)
 | _::_,[],_,_,h=>.inr (by simpa[psG]using h)
 |p::ps,v::vs,sl,j,h=>by
  simp only[psG]at h;rcases ztq ps vs _ j h with h|h
  .exact .inl (by simp[wk,h])
  .have:∀(l:List AV)(q:Nat),j∈wk (l.set q v)->j∈v.ids\/j∈wk l:=by
    intro l
    induction l with
    |nil=>intro q h;exact .inr (by simpa using h)
    |cons a l ih=>
     intro q h
     cases q with
     |zero=>simp only[List.set_cons_zero,wk,q3]at h⊢;exact h.imp id .inr
     |succ q=>
      simp only[List.set_cons_succ,wk,q3]at h⊢;rcases h with h|h
      .exact .inr (.inl h)
      .exact(ih q h).imp id .inr
   rcases this sl p h with h|h
   .exact .inl (by simp[wk,h])
   .exact .inr h
theorem kz:∀ {X:List Nat}{H:Hp}{i:Nat},i∈X->hget (zhx (wl X) H) i=.free
 | [],_,_,h=>by simp at h
 |j::X,H,i,h=>by
  simp only[wl,zhx];rw[zf];by_cases e:j=i
  .rw[Z6 e]
  .rw[Z7 e];exact kz ((q0.1 h).resolve_left fun h=>e h.symm)
theorem qa:∀ {X:List Nat}{H:Hp}{i:Nat},i∉X->hget (zhx (wl X) H) i=hget H i
 | [],_,_,_=>rfl
 |j::X,H,i,h=>by
  simp only[q0,not_or]at h;simp only[wl,zhx];rw[zf,Z7 (fun e=>h.1 e.symm)];exact qa h.2
theorem zg0(h:Hp):∀ {H:Hp}{i:Nat},uh H i->hget (zh0 h H) i=hget h i
 | [],_,hk=>by simp[uh]at hk
 |(j,b)::H,i,hk=>by
  simp only[zh0];rw[zf];by_cases e:j=i
  .rw[Z6 e,e]
  .rw[Z7 e];refine zg0 h ?_;simp only[uh,List.map_cons,q0]at hk;exact hk.resolve_left fun h=>e h.symm
theorem zj6{h H:Hp}(hl:leH h H (zh0 h H) H)(i:Nat):leB h H i (hget h i) (hget H i):=by
 by_cases hk:uh H i
 .have:=znc hl i;rwa [zg0 _ hk]at this
 .have:hget H i=.dead :=by
   cases e:hget H i<;>first|rfl|exact absurd (zr (by rw[e];simp)) hk
  rw[this];cases hget h i<;>simp[leB]
theorem zgz:∀(is:List Nat)(bs:List Blk)(i:Nat),hget (wh (zfe is) bs) (zfu i)=hget (wh is bs) i
 | [],_,_=>rfl
 | _::_,[],_=>rfl
 |j::is,b::bs,i=>by
  simp only[zfe,wh];rw[zf,zf,zgz is bs i];by_cases e:j=i
  .rw[Z6 e,Z6 (by rw[e])]
  .rw[Z7 e,Z7 fun h=>e (zv7 h)]
theorem yg:∀ {is:List Nat}{bs:List Blk}{i:Nat},zck is bs=true->i∈is->hget (wh is bs) i∈bs
 | [],_,_,_,h=>by simp at h
 | _::_,[],_,h,_=>by simp[zck]at h
 |j::is,b::bs,i,h,hi=>by
  simp only[zck]at h;simp only[wh];rw[zf];by_cases e:j=i
  .rw[Z6 e];simp
  .rw[Z7 e];exact List.mem_cons_of_mem _ (yg h ((q0.1 hi).resolve_left fun h=>e h.symm))
def zfl(b:Blk):Prop:=(∃l,b=.cells l/\wk l= [])\/∃kk vk m,b=.map kk vk m
theorem zou{l:List Nat}(h:qap l=true):l= []:=by cases l<;>first|rfl|cases h
theorem uw:∀ {bs:List Blk},za2 bs=true->∀b∈bs,zfl b
 | [],_,b,hb=>by simp at hb
 |x::bs,h,b,hb=>by
  cases x<;>simp only[za2,q2,q1]at h
  case cells l=>
   rcases q0.1 hb with rfl|hb
   .exact .inl ⟨l,rfl,zou h.1⟩
   .exact uw h.2 b hb
  case map kk vk m=>
   rcases q0.1 hb with rfl|hb
   .exact .inr ⟨_,_,_,rfl⟩
   .exact uw h b hb
theorem zfl.isPt{b:Blk}(h:zfl b):b.isPt=true:=by
 rcases h with ⟨l,rfl,_⟩|⟨kk,vk,m,rfl⟩<;>rfl
theorem zj5:∀ {l:List Nat},qc1 l=true->∀i∈l,i<=999998
 | [],_,i,hi=>by simp at hi
 |j::l,h,i,hi=>by
  simp only[qc1,q2]at h;rcases q0.1 hi with rfl|hi
  .exact Nat.le_of_ble_eq_true h.1
  .exact zj5 h.2 i hi
theorem zan:∀ {l:List Nat},zdy l=true->l.Nodup
 | [],_=>OC
 |j::l,h=>by
  simp only[zdy,q2,Bool.not_eq_true']at h;rw[q4];refine⟨fun hm=>?_,zan h.2⟩;have:=(wy l j).2 hm;rw[this]at h;simp at h
section
variable {P:Program} {T:Tab} {F:Wf} {c:Ctx} {G:St} {a:Act} {w:World}
theorem vw(w:World){l b:Nat}(ob:Obj)(h:b≠l):(w.putObj l ob).heap[b]? =w.heap[b]? :=World.putObj_heap_other h
theorem Rel.touch(h:Rel c G a w){l:Nat}(ob:Obj)(hm:c.M0 l)(hn:¬c.mine l)(hl:l<c.w0.heap.size)(hw0:c.w0.heap[l]? ≠none):
 Rel {c with w0:=c.w0.putObj l ob} G a (w.putObj l ob):=by
 obtain⟨M,pt,ow,S,hg,hs,hd⟩:=h;have hlM:M l:=hg.m0 l hm;have hV:∀b o,zo w M b o->zo (w.putObj l ob) M b o:=zy fun b o hm' hb=>⟨hm',by rw[vw w ob (show b≠l from fun e=>hm' (e▸hlM))];exact hb⟩
 have hbl:∀i b,bl pt ow i=some b->b≠l:=fun i b hb e=>by
  rcases hg.loc i b hb with h1|h1
  .omega
  .exact hn (e▸h1.1)
 have hS:∀b,S b->b≠l:=fun b hb e=>by
  rcases hg.gl b hb with h1|h1
  .omega
  .exact hn (e▸h1.1)
 have hlw:l<w.heap.size:=hg.fresh l hlM;refine⟨M,pt,ow,S,?_,?_,(by obtain⟨Ds,h1,h2,h3⟩:=hd.mono hV;exact⟨Ds,h1,h2,fun D hD=>⟨by simpa[qA]using(h3 D hD).1,(h3 D hD).2⟩⟩)⟩
 .exact {
   os:=hg.os,tape:=hg.tape,output:=hg.output
   size:=by simpa[qA]using hg.size
   keep:=fun b hb hm'=>by
    have hb':b<c.w0.heap.size:=by simpa[qA]using hb
    by_cases e:b=l
    .subst e;show(w.putObj b ob).heap[b]? =(c.w0.putObj b ob).heap[b]?;rw[qB hlw,qB hl]
    .show(w.putObj l ob).heap[b]? =(c.w0.putObj l ob).heap[b]?;rw[vw _ _ e,vw _ _ e];exact hg.keep b hb' hm'
   fresh:=fun b hb=>by simpa[qA]using hg.fresh b hb
   m0:=hg.m0
   m1:=fun b hb=>by simpa[qA]using hg.m1 b hb
   mt:=hg.mt,gm:=hg.gm,gd:=hg.gd,inj:=hg.inj,dpt:=hg.dpt,dow:=hg.dow
   loc:=fun i b hb=>by simpa[qA]using hg.loc i b hb
   gl:=fun b hb=>by simpa[qA]using hg.gl b hb
   farp:=hg.farp,farw:=hg.farw
   blk:=fun i=>(hg.blk i).mono rfl rfl hV (fun _=>hg.ptow) (fun b o hb hh=>by rw[vw _ _ (hbl i b hb)];exact hh) (fun b o hb hh=>by rw[vw _ _ (hS b hb)];exact hh)}
 .intro pt' ow' hag;obtain⟨h1,h2⟩:=hs pt' ow' hag;have hle:∀is:List Nat,Env.le ⟨zo w M,pt',ow'⟩ ⟨zo (w.putObj l ob) M,pt',ow'⟩ is:=fun is=>⟨hV,fun _ _=>⟨fun _ h=>h,fun _ h=>h⟩⟩
  refine⟨h1.imp _ _ (hle _),fun i m b cs Ty hm' hb hcs=>?_⟩;rw[vw _ _ (hbl i b (by simp[bl,hb]))]at hcs;exact(h2 i m b cs Ty hm' hb hcs).imp _ _ (hle _)
def ptB(is:List Nat)(pt:Nat->Option Nat):Nat->Option Nat:=fun j=>if j-1000000∈is/\1000000<=j then pt (j-1000000)else none
theorem zgp{is:List Nat}{pt:Nat->Option Nat}{i:Nat}(h:i∈is):ptB is pt (zfu i)=pt i:=by
 unfold ptB zfu;rw[Z6 ⟨by rw[Nat.add_sub_cancel];exact h,O⟩,Nat.add_sub_cancel]
theorem zol{is:List Nat}{pt:Nat->Option Nat}{j b:Nat}(h:ptB is pt j=some b):∃i,i∈is/\j=zfu i/\pt i=some b:=by
 unfold ptB at h;split at h
 .rename_i e;exact⟨_,e.1,by unfold zfu;omega,h⟩
 .cases h
def qgs(w:World)(V:kf)(pt:Nat->Option Nat)(i:Nat):Blk->Prop
 |.cells l=>∃b cs T,pt i=some b/\w.heap[b]? =some (.cells cs T (0,0))/\Rs ⟨V,fun _=>none,fun _=>none⟩ l cs.toList
 |.map kk vk m=>∃b es clk,pt i=some b/\w.heap[b]? =some (.map es clk)/\zxv V kk vk m es clk
 | _=>False
structure GhostJ(is:List Nat)(pt:Nat->Option Nat)(bs:List Blk)(sl:List AV)(tm:Array Value)(D l:Nat)(rc:Loop)(S:Nat->Prop)(V:kf)(w:World):Prop where
 sd:S D
 sl_:S l
 hd:w.heap[D]? =some (.deferred (some []))
 hl:w.heap[l]? =some (.loop rc)
 si:∀i∈is,∀b,pt i=some b->S b
 bk:∀i∈is,qgs w V pt i (hget (wh is bs) i)
 rs:Rs ⟨V,ptB is pt,fun _=>none⟩ (zkr is sl) tm.toList
theorem Env.le_view{V V':kf}{pt:Nat->Option Nat}{ow:Nat->Option Value}(h:∀b o,V b o->V' b o)(is:List Nat):Env.le ⟨V,pt,ow⟩ ⟨V',pt,ow⟩ is:=⟨h,fun _ _=>⟨fun _ h=>h,fun _ h=>h⟩⟩
theorem qgs.mono{w w':World}{V V':kf}{pt:Nat->Option Nat}{i:Nat}{x:Blk}(hV:CLe V V')(hb:∀b o,pt i=some b->w.heap[b]? =some o->w'.heap[b]? =some o)(h:qgs w V pt i x):qgs w' V' pt i x:=by
 cases x with
 |cells l=>obtain⟨b,cs,T,h1,h2,h3⟩:=h;exact⟨b,cs,T,h1,hb b _ h1 h2,h3.cmono hV⟩
 |map kk vk m=>obtain⟨b,es,clk,h1,h2,h3⟩:=h;exact⟨b,es,clk,h1,hb b _ h1 h2,h3.cmono hV⟩
 | _=>exact h
theorem GhostJ.stab(is:List Nat)(pt:Nat->Option Nat)(bs:List Blk)(sl:List AV)(tm:Array Value)(D l:Nat)(rc:Loop):zu3 (GhostJ is pt bs sl tm D l rc):=
 fun S V V' w w' hV hS h=>⟨h.sd,h.sl_,hS _ _ h.sd h.hd,hS _ _ h.sl_ h.hl,h.si,fun i hi=>(h.bk i hi).mono hV fun b o hb hh=>hS b o (h.si i hi b hb) hh,h.rs.cmono hV⟩
theorem zeb(x:Blk)(i:Nat):hget [(qi,x)] i=if qi=i then x else .dead :=by rw[zf];rfl
def ztf(rc:Loop)(lv:Bool)(pe:Code):Loop:=bif lv then rc else {rc with state:=.done,pending:=some pe}
def zkq(P:Program)(T:Tab)(code:Code):Prop:=∀(F:Wf)(c:Ctx)(G:St)(K:Exit->St->Prop)(Q:Exit->Act->World->Prop)(a:Act)(w:World),
 Rel c G a w->ji T (CN P) false code G K->(∀e G a w,Rel c G a w->K e G->Q e a w)->code.wpIn F.F 0 P Q a w
set_option maxHeartbeats 1000000 in
theorem zv4{asg body:Code}(ihA:zkq P T asg)(ihB:zkq P T body){is:List Nat}{pt:Nat->Option Nat}{bs bs':List Blk}{sl:List AV}{tm:Array Value}{D l fn:Nat}{ps:Array Tmp}{X:List Nat}{A:List AV}{lv:Bool}{pe:Code}
 (hinj:∀i∈is,∀j∈is,∀b,pt i=some b->pt j=some b->i=j) (hlt:∀i∈is,∀b,pt i=some b->b<D) (hlD:l=D+1)
 (hpl:za2 bs=true) (hle1:zck is bs=true) (hpl':za2 bs'=true) (hle2:zck is bs'=true) (hX:∀i∈X,i∉zfe is) (hA:qap (wk A)=true) (rc:Loop)
 (hrc:rc= {state:=.ready,pending:=none,fn:=fn,tmps:=tm,params:=ps,assign:=asg,body:=body,defers:=D})
 (hk:zmx ps.toList A (zkr is sl) fun sl=>ji T (CN P) false asg ⟨sl,zhx (wl X) (wh (zfe is) bs)⟩ fun e U=>match e with
   |.normal =>ji T (CN P) false body U fun e U=>match e with
     |.normal =>lv=true/\zqs is bs' U
     |.exit id=>lv=false/\pe=.exit id/\zqs is bs' U
     |.ret =>lv=false/\pe=.ret /\zqs is bs' U
     | _=>False
   | _=>False):
 CbOK P l [(qi,.gst (GhostJ is pt bs sl tm D l rc))] A (.bool lv) [(qi,.gst (GhostJ is pt bs' sl tm D l (ztf rc lv pe)))]:=by
 intro W M2 pt2 ow2 S2 vs hcore hconts hvs;have hpt2:∀i,pt2 i=none:=fun i=>hcore.ptn (by rw[zeb];split<;>rfl)
 have how2:∀i,ow2 i=none:=fun i=>hcore.own (by rw[zeb];split<;>rfl)
 have hb2:∀i b,bl pt2 ow2 i≠some b:=fun i b h=>by simp[bl,hpt2,how2]at h
 have hJ:=hcore.blk qi;rw[zeb,Z6 rfl]at hJ;obtain⟨_,_,hJ⟩:=hJ;obtain⟨hlen,hk⟩:=zih _ _ _ _ hk;have hA':=zou hA;have hy:=run_yield (P:=P) (args:=vs.toArray) hJ.hl (by rw[hrc];simp;rw[<-hvs.length,<-hlen];simp);refine⟨rc.fn,_,rc.assign,rc.body,hy,roundIn_of_wpIn trivial ?_⟩;have hlM:M2 l:=hcore.gm l hJ.sl_;have hlW:l<W.heap.size:=zj hJ.hl;have hDW:D<W.heap.size:=zj hJ.hd
 let c1:Ctx:= {M0:=M2,w0:=W,mine:=fun b=>∃i,i∈is/\pt i=some b,sm:=fun _=>False,pt0:=ptB is pt,ow0:=fun _=>none}
 have hmine:∀b,c1.mine b->b<D/\S2 b:=fun b ⟨i,hi,hb⟩=>⟨hlt i hi b hb,hJ.si i hi b hb⟩
 have hblB:∀j b,bl (ptB is pt) (fun _=>none) j=some b->∃i,i∈is/\j=zfu i/\pt i=some b:=fun j b h=>by
  unfold bl at h
  cases hq:ptB is pt j with
  |some z=>rw[hq]at h;cases h;exact zol hq
  |none=>rw[hq]at h;cases h
 have hgetb:∀i,i∈is->hget (zhx (wl X) (wh (zfe is) bs)) (zfu i)=hget (wh is bs) i:=fun i hi=>by
  rw[qa fun h=>hX _ h ((qcz _ _).2 ⟨i,hi,rfl⟩),zgz]
 have hpb:∀i,i∈is->zfl (hget (wh is bs) i):=fun i hi=>uw hpl _ (yg hle1 hi)
 have hrel:Rel c1 ⟨psG ps.toList A (zkr is sl),zhx (wl X) (wh (zfe is) bs)⟩ {tmps:=(rc.params.zip vs.toArray).foldl (fun tmps(t,a)=>tmps.setIfInBounds t a) rc.tmps,defers:= []} W:=by
  refine⟨M2,ptB is pt,fun _=>none,fun _=>False,?_,?_,.nil⟩
  .exact {
    os:=rfl,tape:=rfl,output:=rfl,size:=Nat.le_refl _,keep:=fun _ _ _=>rfl,fresh:=hcore.fresh,m0:=fun _ h=>h,m1:=hcore.fresh
    mt:=fun j b hb=>by obtain⟨i,h1,h2,h3⟩:=hblB j b hb;exact hcore.gm b (hJ.si i h1 b h3)
    inj:=fun j k b hj hk=>by
     obtain⟨i,h1,h2,h3⟩:=hblB j b hj;obtain⟨i',h1',h2',h3'⟩:=hblB k b hk;rw[h2,h2',hinj i h1 i' h1' b h3 h3']
    gm:=fun b h=>h.elim,gl:=fun b h=>h.elim,gd:=fun _ _ _ h=>h
    loc:=fun j b hb=>by obtain⟨i,h1,h2,h3⟩:=hblB j b hb;exact .inr ⟨⟨i,h1,h3⟩,by rw[h2];unfold zfu;omega⟩
    farp:=fun _ _ _ h=>h,farw:=fun _ _ _ h=>.inl h
    dpt:=fun j b hb=>by
     obtain⟨i,h1,h2,h3⟩:=zol hb;rw[h2,hgetb i h1];exact(hpb i h1).isPt
    dow:=fun j b hb=>by cases hb
    blk:=fun j=>by
     by_cases hjX:j∈X
     .rw[kz hjX];trivial
     .by_cases hj:j∈zfe is
      .obtain⟨i,hi,rfl⟩:=(qcz _ _).1 hj;rw[hgetb i hi];have hbk:=hJ.bk i hi;rcases hpb i hi with ⟨m,e,_⟩|⟨kk,vk,m,e⟩
       .rw[e]at hbk⊢;obtain⟨b,cs,Ty,h1,h2,_⟩:=hbk;exact⟨b,cs,Ty,by rw[zgp hi];exact h1,h2⟩
       .rw[e]at hbk⊢;obtain⟨b,es,clk,h1,h2,h3⟩:=hbk;exact⟨b,es,clk,by rw[zgp hi];exact h1,h2,h3⟩
      .rw[qa hjX,jy hj];trivial}
  .intro pt' ow' hag;have hle:Env.le ⟨zo W M2,ptB is pt,fun _=>none⟩ ⟨zo W M2,pt',ow'⟩ (wk (psG ps.toList A (zkr is sl))):=⟨fun _ _ h=>h,fun j hj=>by
    have hj':j∈zfe is:=by
     rcases ztq _ _ _ _ hj with h|h
     .rw[hA']at h;cases h
     .exact zd9 _ _ _ h
    obtain⟨i,hi,rfl⟩:=(qcz _ _).1 hj';have:=hag (zfu i) (by rw[hgetb i hi];exact zbr (hpb i hi).isPt);exact⟨fun b hb=>this.1.symm.trans hb,fun b hb=>this.2.symm.trans hb⟩⟩
   refine⟨?_,fun j m b cs Ty hm hb hcs=>?_⟩
   .have hvs':Rs ⟨zo W M2,ptB is pt,fun _=>none⟩ A vs:=Rs.imp (ρ:=⟨zo W M2,pt2,ow2⟩) A vs ⟨fun _ _ h=>h,fun i hi=>by rw[hA']at hi;cases hi⟩ hvs;have h1:=zyg ps.toList A vs (zkr is sl) tm hvs' hJ.rs;have e:((rc.params.zip vs.toArray).foldl (fun tmps(t,a)=>tmps.setIfInBounds t a) rc.tmps)=(ps.toList.zip vs).foldl (fun t(p,v)=>t.setIfInBounds p v) tm:=by
     rw[hrc,<-Array.foldl_toList];simp
    rw[e];exact h1.imp _ _ hle
   .by_cases hjX:j∈X
    .rw[kz hjX]at hm;cases hm
    .by_cases hj:j∈zfe is
     .obtain⟨i,hi,rfl⟩:=(qcz _ _).1 hj;rw[hgetb i hi]at hm;have hbk:=hJ.bk i hi;rw[hm]at hbk;obtain⟨b',cs',Ty',h1,h2,h3⟩:=hbk;rw[zgp hi,h1]at hb;cases hb
      rw[h2]at hcs;cases hcs
      rcases hpb i hi with ⟨m',e,he⟩|⟨_,_,_,e⟩
      .rw[hm]at e;cases e
       exact Rs.imp (ρ:=⟨zo W M2,fun _=>none,fun _=>none⟩) m _ ⟨fun _ _ h=>h,fun k hk=>by rw[he]at hk;cases hk⟩ h3
      .rw[hm]at e;cases e
     .rw[qa hjX,jy hj]at hm;cases hm
 have hrcA:rc.assign=asg:=by rw[hrc]
 have hrcB:rc.body=body:=by rw[hrc]
 rw[hrcA,hrcB];refine ihA ⟨Fence.wide.inRound l,.inr ⟨l,rfl⟩⟩ c1 _ _ _ _ W hrel hk fun e U a1 W1 hr hk1=>?_
 cases e with
 |normal=>
  have hL1:W1.heap[l]? =some (.loop rc):=by
   obtain⟨_,_,_,_,hg,_⟩:=hr;rw[hg.keep l hlW fun h=>by have:=(hmine l h).1;omega];exact hJ.hl
  refine⟨_,run_beginRound hL1 (by rw[hrc]),?_⟩;have hr2:=hr.touch (.loop {rc with state:=.busy}) hlM (fun h=>by have:=(hmine l h).1;omega) hlW (by rw[hJ.hl];simp);refine ihB ⟨Fence.wide.inRound l,.inr ⟨l,rfl⟩⟩ _ _ _ _ a1 _ hr2 hk1 fun e τ2 a2 W2 hr3 hk2=>?_
  have fin:∀(jump:Option Code)(rc':Loop),rc'= {rc with state:=if jump.isNone then .ready else .done,pending:=jump}->jump.isNone=lv->zqs is bs' τ2->
   ∃v w',(Instr.endRound l jump).run P W2=.ok v w'/\Ans W M2 pt2 ow2 S2 (.bool lv) [(qi,.gst (GhostJ is pt bs' sl tm D l rc'))] (.returned v) w':=by
   intro jump rc' hrc' hjl hend;obtain⟨M3,pt3,ow3,S3,hg3,hs3,_⟩:=hr3;have hkeep:∀b,b<W.heap.size->¬c1.mine b->b≠l->W2.heap[b]? =W.heap[b]? :=fun b hb hm hne=>by
    rw[hg3.keep b (by simpa[qA]using hb) hm];exact vw W _ hne
   have hL2:W2.heap[l]? =some (.loop {rc with state:=.busy}):=by
    rw[hg3.keep l (by simpa[qA]using hlW) fun h=>by have:=(hmine l h).1;omega];exact qB hlW
   refine⟨_,_,run_endRound jump hL2,?_⟩;have hsz:W.heap.size<=W2.heap.size:=by have:=hg3.size;simpa[qA]using this
   obtain⟨Wf,hWf⟩:∃Wf,Wf=W2.putObj l (.loop rc'):=⟨_,rfl⟩;have hWf':W2.putObj l (.loop {({rc with state:=.busy}:Loop)with state:=if jump.isNone then .ready else .done,pending:=jump})=Wf:=by rw[hWf,hrc']
   rw[hWf'];have hfsz:Wf.heap.size=W2.heap.size:=by rw[hWf];simp[qA]
   have hfne:∀b,b≠l->Wf.heap[b]? =W2.heap[b]? :=fun b hb=>by rw[hWf];exact vw W2 _ hb
   have hfl:Wf.heap[l]? =some (.loop rc'):=by rw[hWf];exact qB (zj hL2)
   have hV3:∀b o,zo W2 M3 b o->zo Wf M2 b o:=zy fun b o hm hb=>⟨fun h=>hm (hg3.m0 b h),by rw[hfne b fun e=>hm (hg3.m0 b (e▸hlM))];exact hb⟩
   have hVW:∀b o,zo W M2 b o->zo Wf M2 b o:=zy fun b o hm hb=>⟨hm,by
    have hne:b≠l:=fun e=>hm (e▸hlM)
    rw[hfne b hne,hkeep b (zj hb) (fun h=>hm (hcore.gm b (hmine b h).2)) hne];exact hb⟩
   obtain⟨ptN,owN,hgN,hless,hcel⟩:=hg3.weaken (zj6 hend);have hgz:∀i,hget (wh (zfe is) bs') (zfu i)=hget (wh is bs') i:=fun i=>zgz _ _ _
   have hpb':∀i,i∈is->zfl (hget (wh is bs') i):=fun i hi=>uw hpl' _ (yg hle2 hi)
   have hptf:∀i b,i∈is->ptN (zfu i)=some b->pt i=some b:=fun i b hi hb=>by
    have:=hgN.farp (zfu i) b (by unfold zfu;omega) hb;rw[<-zgp (pt:=pt) hi];exact this
   have hbk':∀i∈is,qgs Wf (zo Wf M2) pt i (hget (wh is bs') i):=fun i hi=>by
    rcases hpb' i hi with ⟨m,e,he⟩|⟨kk,vk,m,e⟩
    .rw[e];have e':hget (wh (zfe is) bs') (zfu i)=.cells m:=by rw[hgz];exact e
     obtain⟨b,cs,Ty,h1,h2⟩:=hgN.cel _ m e';have hb:=hptf i b hi h1;refine⟨b,cs,Ty,hb,by rw[hfne b (by have:=hlt i hi b hb;omega)];exact h2,?_⟩;obtain⟨m0,h3,h4,h5⟩:=hcel _ m e';rw[h5]at h1;have h6:=(hs3 pt3 ow3 (Agr.refl _ _ _)).2 _ m0 b cs Ty h3 h1 h2;exact(Rs.le _ _ _ h4 (hless _) h6).imp _ _ ⟨hV3,fun k hk=>by rw[he]at hk;cases hk⟩
    .rw[e];have h0:=hgN.blk (zfu i);rw[hgz,e]at h0;obtain⟨b,es,clk,h1,h2,h3⟩:=h0;have hb:=hptf i b hi h1;exact⟨b,es,clk,hb,by rw[hfne b (by have:=hlt i hi b hb;omega)];exact h2,h3.mono hV3⟩
   refine⟨_,M2,pt2,ow2,S2,rfl,?_,?_,?_,?_⟩
   .exact {
     fresh:=fun b hb=>by rw[hfsz];exact Nat.lt_of_lt_of_le (hcore.fresh b hb) hsz
     mt:=fun i b hb=>absurd hb (hb2 i b)
     inj:=fun i j b hb=>absurd hb (hb2 i b)
     gm:=hcore.gm
     gd:=fun i b hb=>absurd hb (hb2 i b)
     dpt:=fun i b hb=>by rw[hpt2]at hb;cases hb
     dow:=fun i b hb=>by rw[how2]at hb;cases hb
     blk:=fun i=>by
      rw[zeb];split
      .rename_i e;subst e;have hD':Wf.heap[D]? =some (.deferred (some [])):=by
        rw[hfne D O,hkeep D hDW (fun h=>by have:=(hmine D h).1;omega) O];exact hJ.hd
       exact⟨rfl,GhostJ.stab _ _ _ _ _ _ _ _,⟨hJ.sd,hJ.sl_,hD',hfl,hJ.si,hbk',hJ.rs.imp _ _ (Env.le_view hVW _)⟩⟩
      .trivial}
   .intro i m b cs Ty hm;rw[zeb]at hm;split at hm<;>cases hm
   .simp only[R];rw[hjl]
   .exact {
     os:=by rw[hWf];exact hg3.os
     tape:=by rw[hWf];exact hg3.tape
     output:=by rw[hWf];exact hg3.output
     size:=by rw[hfsz];exact hsz
     same:=fun b hb _ hS=>by
      have hne:b≠l:=fun e=>hS (e▸hJ.sl_)
      rw[hfne b hne];exact hkeep b hb (fun h=>hS (hmine b h).2) hne
     mm:=fun _ h=>h,mn:=fun _ h=>.inl h,sn:=fun _ h=>.inl h,lept:=fun _ _ h=>.inl h,leow:=fun _ _ h=>.inl h}
  cases e with
  |normal=>
   obtain⟨hlv,hend⟩:=hk2;subst hlv;exact fin none rc (by rw[hrc];rfl) rfl hend
  |exit id=>
   obtain⟨hlv,hpe,hend⟩:=hk2;subst hlv;subst hpe;exact fin (some (.exit id)) _ rfl rfl hend
  |ret=>
   obtain⟨hlv,hpe,hend⟩:=hk2;subst hlv;subst hpe;exact fin (some .ret) _ rfl rfl hend
  | _=>exact hk2.elim
 | _=>exact hk1.elim
theorem zss{b:Blk}(h:zfl b){l:List AV}(e:b=.cells l):wk l= []:=by
 rcases h with ⟨m,e',h⟩|⟨_,_,_,e'⟩
 .rw[e]at e';cases e';exact h
 .rw[e]at e';cases e'
open Classical in
set_option maxHeartbeats 2000000 in
theorem zgk{asg body:Code}(ihA:zkq P T asg)(ihB:zkq P T body){f:Operand}{ps:Array Tmp}{K:Exit->St->Prop}{Q:Exit->Act->World->Prop}
 (h:Rel c G a w) (hk:ji T (CN P) true (.rangeFunc f ps asg body) G K) (hQ:∀e G a w,Rel c G a w->K e G->Q e a w):(Code.rangeFunc f ps asg body).wpIn Fence.wide 0 P Q a w:=by
 simp only[ji]at hk;split at hk
 case h_2=>exact hk.elim
 rename_i g caps _ hf;obtain⟨is,X,Y,hb,live,pend,args,next,x₀,xE,r,ib,hg0,hl0,hok,hX,hpl,hargs,hcall,hbody,hcont⟩:=hk;simp only[rfOk,q2]at hok;obtain⟨⟨⟨⟨⟨⟨⟨⟨⟨⟨⟨hnb,hlow⟩,hnod⟩,hdis⟩,hnfc⟩,hlib⟩,hnfb⟩,hsub1⟩,hsub0⟩,_⟩,hcb⟩,hltc⟩:=hok;have hlow:=zj5 hlow;have hnod:=zan hnod;have hdis:∀i∈is,i∉nub (wk caps):=fun i hi hj=>(jr _ _).1 hdis i hi ((zbo _ _).1 hj)
 have hcb:qi∉nub (wk caps):=(jr _ _).1 hcb qi OC;have hltc:=zex hltc;have hsub1:=xz _ _ hsub1;generalize hic:nub (wk caps)=ic at*;have hicnd:ic.Nodup:=by rw[<-hic];exact zam _
 have hcapsI:∀i∈wk caps,i∈ic:=fun i hi=>by rw[<-hic];exact(zbo _ _).2 hi
 obtain⟨M,pt,ow,S,hg,hs,hd⟩:=h;obtain⟨hsl,hct⟩:=hs pt ow (Agr.refl _ _ _);have hfv:=zc hsl f;rw[hf]at hfv;simp only[R]at hfv;obtain⟨vcaps,hfv,hcaps⟩:=hfv;have hpb0:∀i∈is,zfl (hget G.hp i):=fun i hi=>by
  have h1:=uw (hpl x₀).1 _ (yg (hpl x₀).2 hi);rw[<-hg0,wq G.hp hi]at h1;exact h1
 have hpbE:∀i∈is,zfl (hget (wh is (hb xE)) i):=fun i hi=>uw (hpl xE).1 _ (yg (hpl xE).2 hi)
 refine wpIn_rangeFunc fun fn _=>?_
 obtain⟨D,hD⟩:∃D,D=w.heap.size:=⟨_,rfl⟩;obtain⟨l,hl⟩:∃l,l=D+1:=⟨_,rfl⟩;obtain⟨rc,hrc⟩:∃rc:Loop,rc= {state:=.ready,pending:=none,fn:=fn,tmps:=a.tmps,params:=ps,assign:=asg,body:=body,defers:=D}:=⟨_,rfl⟩;obtain⟨w1,hw1⟩:∃w1,w1=(w.alloc (.deferred (some []))).alloc (.loop rc):=⟨_,rfl⟩;have he1:Ext w w1:=by
  have h1:=Ext.alloc w (.deferred (some []));have h2:=Ext.alloc (w.alloc (.deferred (some []))) (.loop rc);rw[hw1];exact⟨h2.os.trans h1.os,h2.tape.trans h1.tape,h2.output.trans h1.output,Nat.le_trans h1.size h2.size,fun b hb'=>(h2.block b OE).trans (h1.block b hb')⟩
 have hw1sz:w1.heap.size=w.heap.size+2:=by rw[hw1];simp
 have hD1:w1.heap[D]? =some (.deferred (some [])):=by
  rw[hw1,hD,(Ext.alloc (w.alloc (.deferred (some []))) (.loop rc)).block _ OC];exact qC _ _
 have hl1:w1.heap[l]? =some (.loop rc):=by
  rw[hw1,hl,hD];have:=qC (w.alloc (.deferred (some []))) (.loop rc);rwa [World.size_alloc]at this
 have hMlt:∀b,M b->b<w.heap.size:=hg.fresh;have hbllt:∀i b,bl pt ow i=some b->b<w.heap.size:=fun i b hb'=>hMlt b (hg.mt i b hb')
 have hptlt:∀i b,pt i=some b->b<w.heap.size:=fun i b hb'=>hbllt i b (by simp[bl,hb'])
 let M1:Nat->Prop:=fun b=>M b\/b=D\/b=l
 let S1:Nat->Prop:=fun b=>b=D\/b=l\/∃i,i∈is/\pt i=some b
 let ptR:Nat->Option Nat:=fun i=>if i∈ic then pt i else none
 let owR:Nat->Option Value:=fun i=>if i∈ic then ow i else none
 have hptR:∀i b,ptR i=some b->i∈ic/\pt i=some b:=fun i b hb'=>by
  by_cases hi:i∈ic
  .exact⟨hi,by simpa only[ptR,hi,if_true]using hb'⟩
  .simp only[ptR,hi,if_false]at hb';cases hb'
 have howR:∀i b,owR i=some b->i∈ic/\ow i=some b:=fun i b hb'=>by
  by_cases hi:i∈ic
  .exact⟨hi,by simpa only[owR,hi,if_true]using hb'⟩
  .simp only[owR,hi,if_false]at hb';cases hb'
 have hblR:∀i b,bl ptR owR i=some b->i∈ic/\bl pt ow i=some b:=fun i b hb'=>by
  by_cases hi:i∈ic
  .exact⟨hi,by simpa only[bl,ptR,owR,hi,if_true]using hb'⟩
  .simp only[bl,ptR,owR,hi,if_false]at hb';cases hb'
 have hV1:∀b o,zo w M b o->zo w1 M1 b o:=zy fun b o hm hb'=>⟨fun h'=>by
  have:=zj hb';rcases h' with h'|h'|h'
  .exact hm h'
  .omega
  .omega,he1.get hb'⟩
 have hleR:∀ids:List Nat,Env.le ⟨zo w M,pt,ow⟩ ⟨zo w1 M1,ptR,owR⟩ ids:=fun ids=>⟨hV1,fun i _=>⟨fun b hb'=>(hptR i b hb').2,fun b hb'=>(howR i b hb').2⟩⟩
 let J:X->GJ:=fun x=>GhostJ is pt (hb x) G.sl a.tmps D l (ztf rc (live x) (pend x))
 have hgetZ:∀(x:Blk)(bs:List Blk)i,hget ((qi,x)::wh ic bs) i=if qi=i then x else hget (wh ic bs) i:=fun x bs i=>zf _ _ _ _
 have hJ0:J x₀ S1 (zo w1 M1) w1:=by
  refine⟨.inl rfl,.inr (.inl rfl),hD1,by rw[hl0];exact hl1,fun i hi b hb'=>.inr (.inr ⟨i,hi,hb'⟩),fun i hi=>?_,?_⟩
  .rw[<-hg0,wq G.hp hi];rcases hpb0 i hi with ⟨m,e,hem⟩|⟨kk,vk,m,e⟩
   .rw[e];obtain⟨b,cs,Ty,h1,h2⟩:=hg.cel i m e;exact⟨b,cs,Ty,h1,he1.get h2,Rs.imp (ρ:=⟨zo w M,pt,ow⟩) m _ ⟨hV1,fun k hk=>by rw[hem]at hk;cases hk⟩ (hct i m b cs Ty e h1 h2)⟩
   .rw[e];obtain⟨b,es,clk,h1,h2,h3⟩:=hg.mpo i kk vk m e;exact⟨b,es,clk,h1,he1.get h2,h3.mono hV1⟩
  .exact(Rs.mvl (pt':=ptB is pt) (ow':=fun _=>none) (fun i hi=>zgp hi) G.sl _ hsl).imp _ _ (Env.le_view hV1 _)
 have hcore1:Core M1 ptR owR S1 ((qi,.gst (J x₀))::wh ic (qj G.hp ic)) w1:= {
  fresh:=fun b hb'=>by
   rcases hb' with h'|h'|h'
   .have:=hMlt b h';omega
   .omega
   .omega
  mt:=fun i b hb'=>.inl (hg.mt i b (hblR i b hb').2)
  inj:=fun i j b hi hj=>hg.inj i j b (hblR i b hi).2 (hblR j b hj).2
  gm:=fun b hb'=>by
   rcases hb' with h'|h'|⟨i,hi,h'⟩
   .exact .inr (.inl h')
   .exact .inr (.inr h')
   .exact .inl (hg.mt i b (by simp[bl,h']))
  gd:=fun i b hb' hS=>by
   obtain⟨hi,hb''⟩:=hblR i b hb';have:=hbllt i b hb'';rcases hS with h'|h'|⟨j,hj,h'⟩
   .omega
   .omega
   .have:=hg.inj i j b hb'' (by simp[bl,h']);exact hdis j hj (this▸hi)
  dpt:=fun i b hb'=>by
   obtain⟨hi,hb''⟩:=hptR i b hb';rw[hgetZ,Z7 (show ¬qi=i from fun e=>hcb (e▸hi)),wq G.hp hi];exact hg.dpt i b hb''
  dow:=fun i b hb'=>by
   obtain⟨hi,hb''⟩:=howR i b hb';rw[hgetZ,Z7 (show ¬qi=i from fun e=>hcb (e▸hi)),wq G.hp hi];exact hg.dow i b hb''
  blk:=fun i=>by
   rw[hgetZ];by_cases e:qi=i
   .rw[Z6 e];exact⟨e.symm,GhostJ.stab _ _ _ _ _ _ _ _,hJ0⟩
   .rw[Z7 e];by_cases hi:i∈ic
    .rw[wq G.hp hi];have h1:=(hg.blk i).mono (w':=w1) (V':=zo w1 M1) (pt':=pt) (ow':=ow) rfl rfl hV1 (fun _=>hg.ptow) (fun _ _ _ hh=>he1.get hh) (fun _ _ _ hh=>he1.get hh);have h2:=h1.ren (pt':=ptR) (ow':=owR) (S':=S1) (i:=i) id (by simp only[ptR,Z6 hi]) (by simp only[owR,Z6 hi]) (fun e'=>absurd e'.symm e)
     rwa [Blk.mapI_id']at h2
    .rw[jy hi];trivial}
 have hcall':=hcall l J (fun x y hx=>by
  have h1:=zv4 (P:=P) (T:=T) ihA ihB (is:=is) (pt:=pt) (bs:=hb x) (bs':=hb (next x y)) (sl:=G.sl) (tm:=a.tmps) (D:=D) (l:=l) (fn:=fn) (ps:=ps) (A:=args y) (lv:=live (next x y)) (pe:=pend (next x y))
   (fun i _ j _ b h1 h2=>hg.inj i j b (by simp[bl,h1]) (by simp[bl,h2])) (fun i _ b h1=>by rw[hD];exact hptlt i b h1) hl (hpl x).1 (hpl x).2 (hpl (next x y)).1 (hpl (next x y)).2 ((jr _ _).1 hX) (hargs y) rc hrc (hbody x y hx)
  have e:ztf rc (live x) (pend x)=rc:=by rw[hx];rfl
  show CbOK P l [(qi,.gst (J x))] _ _ _;simp only[J,e];exact h1)
 obtain⟨⟨fg,hfg,hbg,hng⟩,hokc⟩:=hcall';have hcallee:=hokc w1 M1 ptR owR S1 (.func (.yield l) #[] #[]::vcaps.toList) hcore1 (fun i m b cs Ty hm hb' hcs=>by
  obtain⟨hi,hb''⟩:=hptR i b hb';rw[hgetZ,Z7 (show ¬qi=i from fun e=>hcb (e▸hi)),wq G.hp hi]at hm;obtain⟨b0,cs0,Ty0,h1,h2⟩:=hg.cel i m hm;rw[hb'']at h1;cases h1
  have:=he1.get h2;rw[hcs]at this;cases this
  exact(hct i m b cs Ty hm hb'' h2).imp _ _ (hleR _)) (by simp only[Rs,R];exact⟨trivial,hcaps.imp _ _ (hleR _)⟩)
 refine⟨l,[{target:=.collected D,args:= #[]}],w1,{target:=.fn (.func g) vcaps,args:= #[.func (.yield l) #[] #[]]},w1,g,#[.func (.yield l) #[] #[]]++vcaps,w1,?_,?_,fun _ _=>trivial,?_,(fun h'=>by cases h'),?_⟩
 .have:=run_enterLoop_outer (P:=P) (w:=w) fn a.tmps ps asg body;rw[hw1,hrc,hl,hD];exact this
 .simp only[resolve,rangeCall,hfv];simp[Deferred.ofValue,Act.eval]
 .have hprog:(program).run P w1=.ok P w1:=rfl;simp only[invoke,callFunc,Sem.run_bind,hprog,Result.andThen_ok,hfg,hng,hbg,q1,if_false,Sem.run_pure]
 have evs:(Value.func (.yield l) #[] #[]::vcaps.toList).toArray = #[.func (.yield l) #[] #[]]++vcaps:=by apply Array.ext';simp
 rw[evs]at hcallee;refine(callsIn_wide.2 hcallee).mono fun e w3 hans=>?_
 obtain⟨v,M3,pt3,ow3,S3,rfl,hcore3,hconts3,hr3,hleft⟩:=hans;have hJE:=hcore3.blk qi;rw[hgetZ,Z6 rfl]at hJE;obtain⟨_,_,hJ⟩:=hJE;have hst:(ztf rc (live xE) (pend xE)).state ≠ .busy :=by
  cases live xE
  .simp[ztf]
  .simp[ztf,hrc]
 refine⟨_,_,run_endLoop hJ.hl hst,?_⟩;obtain⟨w4,hw4⟩:∃w4,w4=w3.putObj l (.loop {ztf rc (live xE) (pend xE)with state:=.exhausted}):=⟨_,rfl⟩;rw[<-hw4];have hw4ne:∀b,b≠l->w4.heap[b]? =w3.heap[b]? :=fun b hb'=>by rw[hw4];exact vw w3 _ hb'
 have hw4sz:w4.heap.size=w3.heap.size:=by rw[hw4];simp[qA]
 have hptI:∀i b,i∈ic->pt3 i=some b->pt i=some b:=fun i b hi hb'=>by
  rcases hleft.lept i b hb' with h1|⟨_,h1⟩
  .exact(hptR i b h1).2
  .have:=hltc i hi;omega
 have howI:∀i b,i∈ic->ow3 i=some b->ow i=some b:=fun i b hi hb'=>by
  rcases hleft.leow i b hb' with h1|⟨_,h1⟩
  .exact(howR i b h1).2
  .have:=hltc i hi;omega
 have hsame:∀b,b<w.heap.size->(∀i,i∈ic->bl pt ow i≠some b)->(∀i,i∈is->pt i≠some b)->w4.heap[b]? =w.heap[b]? :=fun b hb' h1 h2=>by
  rw[hw4ne b O,hleft.same b O (fun i hi=>h1 i (hblR i b hi).1 (hblR i b hi).2) (fun hS=>by
   rcases hS with h'|h'|⟨i,hi,h'⟩
   .omega
   .omega
   .exact h2 i hi h'),he1.block b hb']
 let M4:Nat->Prop:=fun b=>M3 b/\b≠D
 have hMM:∀b,M b->M4 b:=fun b hb'=>⟨hleft.mm b (.inl hb'),by have:=hMlt b hb';omega⟩
 have hlM3:M3 l:=hcore3.gm l hJ.sl_;have hV4:∀b o,zo w M b o->zo w4 M4 b o:=zy fun b o hm hb'=>by
  have hlt:=zj hb';refine⟨fun h'=>?_,?_⟩
  .rcases hleft.mn b h'.1 with h1|h1
   .rcases h1 with h1|h1|h1
    .exact hm h1
    .omega
    .omega
   .omega
  .rw[hsame b hlt (fun i _ h1=>hm (hg.mt i b h1)) fun i _ h1=>hm (hg.mt i b (by simp[bl,h1]))];exact hb'
 have hV34:∀b o,zo w3 M3 b o->zo w4 M4 b o:=zy fun b o hm hb'=>⟨fun h'=>hm h'.1,by rw[hw4ne b fun e=>hm (e▸hlM3)];exact hb'⟩
 let pt4:Nat->Option Nat:=fun i=>if i∈ic then pt3 i else pt i
 let ow4:Nat->Option Value:=fun i=>if i∈ic then ow3 i else ow i
 have h4c:∀i,i∈ic->pt4 i=pt3 i/\ow4 i=ow3 i:=fun i hi=>by simp only[pt4,ow4,Z6 hi];exact⟨trivial,trivial⟩
 have h4n:∀i,i∉ic->pt4 i=pt i/\ow4 i=ow i:=fun i hi=>by simp only[pt4,ow4,Z7 hi];exact⟨trivial,trivial⟩
 have h4p:∀i b,pt4 i=some b->pt i=some b:=fun i b hb'=>by
  by_cases hi:i∈ic
  .rw[(h4c i hi).1]at hb';exact hptI i b hi hb'
  .rw[(h4n i hi).1]at hb';exact hb'
 have h4w:∀i b,ow4 i=some b->ow i=some b:=fun i b hb'=>by
  by_cases hi:i∈ic
  .rw[(h4c i hi).2]at hb';exact howI i b hi hb'
  .rw[(h4n i hi).2]at hb';exact hb'
 have hblc:∀i b,bl pt4 ow4 i=some b->bl pt ow i=some b:=fun i b hb'=>by
  unfold bl at hb'⊢
  cases hq:pt4 i with
  |some z=>rw[hq]at hb';rw[h4p i z hq];exact hb'
  |none=>
   rw[hq]at hb'
   cases hq2:ow4 i with
   |none=>rw[hq2]at hb';cases hb'
   |some z=>
    rw[hq2]at hb';rw[hg.ptow (h4w i z hq2),h4w i z hq2];exact hb'
 have hkeyis:∀i,i∈is->uh G.hp i:=fun i hi=>zr (by
  rcases hpb0 i hi with ⟨m,e,_⟩|⟨_,_,_,e⟩<;>rw[e]<;>simp)
 let hq:Hp:=qq (qq G.hp is (hb xE)) ic ib
 have hkey2:∀i,uh (qq G.hp is (hb xE)) i<->uh G.hp i:=fun i=>by
  have:∀(js:List Nat)(bs:List Blk)(h:Hp),uh (qq h js bs) i<->uh h i:=by
   intro js
   induction js with
   |nil=>intro bs h;simp[qq]
   |cons j js ih=>
    intro bs h
    cases bs with
    |nil=>simp[qq]
    |cons b bs=>simp only[qq];rw[ih,zf1]
  exact this _ _ _
 have hqc:∀i,i∈ic->uh G.hp i->hget hq i=hget (wh ic ib) i:=fun i hi hk=>by
  show hget (qq _ ic ib) i=_;rw[uy hicnd hlib ((hkey2 i).2 hk),Z6 hi]
 have hqd:∀i,¬uh G.hp i->hget hq i=.dead :=fun i hk=>by
  show hget (qq _ ic ib) i=_;rw[yo fun h'=>hk ((hkey2 i).1 h')]
 have hqs:∀i,i∈is->hget hq i=hget (wh is (hb xE)) i:=fun i hi=>by
  show hget (qq _ ic ib) i=_;rw[uy hicnd hlib ((hkey2 i).2 (hkeyis i hi)),Z7 (hdis i hi),uy hnod (hpl xE).2 (hkeyis i hi),Z6 hi]
 have hqo:∀i,i∉ic->i∉is->hget hq i=hget G.hp i:=fun i h1 h2=>by
  by_cases hk:uh G.hp i
  .show hget (qq _ ic ib) i=_;rw[uy hicnd hlib ((hkey2 i).2 hk),Z7 h1,uy hnod (hpl xE).2 hk,Z7 h2]
  .rw[hqd i hk];cases h':hget G.hp i<;>first|rfl|exact absurd (zr (by rw[h'];simp)) hk
 have hkeybl:∀i b,bl pt ow i=some b->uh G.hp i:=fun i b hb'=>by
  refine zr fun e=>?_
  unfold bl at hb';rw[hg.ptn (i:=i) (by rw[e];rfl),hg.own (i:=i) (by rw[e];rfl)]at hb';cases hb'
 have hH1c:∀i,i∈ic->hget ((qi,.gst (J xE))::wh ic ib) i=hget (wh ic ib) i:=fun i hi=>by rw[hgetZ,Z7 (show ¬qi=i from fun e=>hcb (e▸hi))]
 have hfinal:Rel c ⟨G.sl,hq⟩ {a with defers:= [{target:=.collected D,args:= #[]}]++a.defers} w4:=by
  refine⟨M4,pt4,ow4,S,?_,?_,?_⟩
  .exact {
    os:=by rw[hw4];exact hleft.os.trans (he1.os.trans hg.os)
    tape:=by rw[hw4];exact hleft.tape.trans (he1.tape.trans hg.tape)
    output:=by rw[hw4];exact hleft.output.trans (he1.output.trans hg.output)
    size:=by have h1:=hg.size;have h2:=he1.size;have h3:=hleft.size;omega
    keep:=fun b hb' hm=>by
     have:=hg.size;rw[hsame b O (fun i _ h1=>by
      rcases hg.loc i b h1 with h2|h2
      .omega
      .exact hm h2.1) (fun i _ h1=>by
      rcases hg.loc i b (by simp[bl,h1])with h2|h2
      .omega
      .exact hm h2.1)]
     exact hg.keep b hb' hm
    fresh:=fun b hb'=>by rw[hw4sz];exact hcore3.fresh b hb'.1
    m0:=fun b hb'=>hMM b (hg.m0 b hb')
    m1:=hg.m1
    mt:=fun i b hb'=>hMM b (hg.mt i b (hblc i b hb'))
    gm:=fun b hb'=>hMM b (hg.gm b hb')
    gl:=hg.gl
    gd:=fun i b hb'=>hg.gd i b (hblc i b hb')
    loc:=fun i b hb'=>hg.loc i b (hblc i b hb')
    farp:=fun i b hi hb'=>hg.farp i b hi (h4p i b hb')
    farw:=fun i b hi hb'=>hg.farw i b hi (h4w i b hb')
    inj:=fun i j b hi hj=>hg.inj i j b (hblc i b hi) (hblc j b hj)
    dpt:=fun i b hb'=>by
     by_cases hi:i∈ic
     .rw[hqc i hi (hkeybl i b (by simp[bl,h4p i b hb']))];rw[(h4c i hi).1]at hb';rw[<-hH1c i hi];exact hcore3.dpt i b hb'
     .by_cases hi2:i∈is
      .rw[hqs i hi2];exact(hpbE i hi2).isPt
      .rw[hqo i hi hi2];exact hg.dpt i b (h4p i b hb')
    dow:=fun i b hb'=>by
     have h1:=hg.dow i b (h4w i b hb');by_cases hi:i∈ic
     .rw[hqc i hi (zr fun e=>by rw[e]at h1;cases h1)];rw[(h4c i hi).2]at hb';rw[<-hH1c i hi];exact hcore3.dow i b hb'
     .by_cases hi2:i∈is
      .have:=zng (hpb0 i hi2).isPt;rw[h1]at this;cases this
      .rw[hqo i hi hi2];exact h1
    blk:=fun i=>by
     by_cases hi:i∈ic
     .by_cases hk:uh G.hp i
      .rw[hqc i hi hk];have h1:=hcore3.blk i;rw[hH1c i hi]at h1;have h2:=h1.mono (w':=w4) (V':=zo w4 M4) (pt':=pt3) (ow':=ow3) rfl rfl hV34 (fun _=>hcore3.ptow) (fun b o hb' hh=>by rw[hw4ne b fun e=>hcore3.gd i b hb' (e▸hJ.sl_)];exact hh);have hne:i≠qi:=fun e=>hcb (e▸hi)
       cases e2:hget (wh ic ib) i with
       |gst J'=>rw[e2]at h1;exact absurd h1.1 hne
       |free=>trivial
       |dead=>trivial
       |cells m=>
        rw[e2]at h1;obtain⟨b,cs,Ty,h3,h4⟩:=h1;exact⟨b,cs,Ty,by rw[(h4c i hi).1];exact h3,by rw[hw4ne b fun e=>hcore3.gd i b (by simp[bl,h3]) (e▸hJ.sl_)];exact h4⟩
       |buf et k xs=>
        rw[e2]at h1;obtain⟨hd',h3,h4⟩:=h1;exact⟨hd',by rw[(h4c i hi).2];exact h3,h4.mono hV34 fun b cap cs hh hcs=>by rw[hw4ne b fun e=>hcore3.gd i b (by simp[bl,hcore3.ptow h3,h3,hh]) (e▸hJ.sl_)];exact hcs⟩
       |map kk vk m=>
        rw[e2]at h1;obtain⟨b,es,clk,h3,h4,h5⟩:=h1;exact⟨b,es,clk,by rw[(h4c i hi).1];exact h3,by rw[hw4ne b fun e=>hcore3.gd i b (by simp[bl,h3]) (e▸hJ.sl_)];exact h4,h5.mono hV34⟩
      .rw[hqd i hk];trivial
     .by_cases hi2:i∈is
      .rw[hqs i hi2];have hbk:=hJ.bk i hi2;rcases hpbE i hi2 with ⟨m,e,_⟩|⟨kk,vk,m,e⟩
       .rw[e]at hbk⊢;obtain⟨b,cs,Ty,h1,h2,_⟩:=hbk;exact⟨b,cs,Ty,by rw[(h4n i hi).1];exact h1,by rw[hw4ne b (by have:=hptlt i b h1;omega)];exact h2⟩
       .rw[e]at hbk⊢;obtain⟨b,es,clk,h1,h2,h3⟩:=hbk;exact⟨b,es,clk,by rw[(h4n i hi).1];exact h1,by rw[hw4ne b (by have:=hptlt i b h1;omega)];exact h2,h3.mono hV34⟩
      .rw[hqo i hi hi2];refine(hg.blk i).mono (h4n i hi).1 (h4n i hi).2 hV4 (fun _=>hg.ptow) (fun b o hb' hh=>?_) fun b o hS hh=>?_
       .rw[hsame b (zj hh) (fun j hj h1=>hi (hg.inj i j b hb' h1▸hj)) fun j hj h1=>hi2 (hg.inj i j b hb' (by simp[bl,h1])▸hj)];exact hh
       .rw[hsame b (zj hh) (fun j _ h1=>hg.gd j b h1 hS) fun j _ h1=>hg.gd j b (by simp[bl,h1]) hS];exact hh}
  .intro ptQ owQ hag;have hnf:∀i,(hget G.hp i).isFree =false->(hget hq i).isFree =false:=fun i hi0=>by
    by_cases hi:i∈ic
    .by_cases hk:uh G.hp i
     .rw[hqc i hi hk];exact zao hnfb
     .rw[hqd i hk];rfl
    .by_cases hi2:i∈is
     .rw[hqs i hi2];exact zbr (hpbE i hi2).isPt
     .rw[hqo i hi hi2];exact hi0
   have hnfc':∀i,i∈ic->(hget hq i).isFree =false:=fun i hi=>by
    by_cases hk:uh G.hp i
    .rw[hqc i hi hk];exact zao hnfb
    .rw[hqd i hk];rfl
   let pt5:Nat->Option Nat:=fun i=>if(hget G.hp i).isFree =true then ptQ i else pt i
   let ow5:Nat->Option Value:=fun i=>if(hget G.hp i).isFree =true then owQ i else ow i
   have hag5:Agr G.hp pt pt5 ow ow5:=fun i hi=>by simp[pt5,ow5,hi]
   have hp5:∀i b,ptQ i=some b->pt5 i=some b:=fun i b hb'=>by
    by_cases hfr:(hget G.hp i).isFree =true
    .simpa[pt5,hfr]using hb'
    .have hfr':(hget G.hp i).isFree =false:=by simpa using hfr
     simp only[pt5,hfr',q1,if_false];rw[(hag i (hnf i hfr')).1]at hb';exact h4p i b hb'
   have ho5:∀i b,owQ i=some b->ow5 i=some b:=fun i b hb'=>by
    by_cases hfr:(hget G.hp i).isFree =true
    .simpa[ow5,hfr]using hb'
    .have hfr':(hget G.hp i).isFree =false:=by simpa using hfr
     simp only[ow5,hfr',q1,if_false];rw[(hag i (hnf i hfr')).2]at hb';exact h4w i b hb'
   have hle5:∀ids:List Nat,Env.le ⟨zo w M,pt5,ow5⟩ ⟨zo w4 M4,ptQ,owQ⟩ ids:=fun ids=>⟨hV4,fun i _=>⟨hp5 i,ho5 i⟩⟩
   obtain⟨h1,h2⟩:=hs pt5 ow5 hag5;refine⟨h1.imp _ _ (hle5 _),fun i m b cs Ty hm hb' hcs=>?_⟩;by_cases hi:i∈ic
   .have hbo:=h4p i b hb';rw[hqc i hi (hkeybl i b (by simp[bl,hbo]))]at hm;rw[(h4c i hi).1]at hb';have hne:b≠l:=by have:=hptlt i b hbo;omega
    rw[hw4ne b hne]at hcs;refine Rs.imp (ρ:=⟨zo w3 M3,pt3,ow3⟩) m _ ⟨hV34,fun j hj=>?_⟩ (hconts3 i m b cs Ty (by rw[hH1c i hi];exact hm) hb' hcs);have hjc:j∈ic:=hsub1 j (jv hm j hj);have hx:=hag j (hnfc' j hjc);exact⟨fun z hz=>by have:=hx.1.symm.trans hz;rw[(h4c j hjc).1]at this;exact this,fun z hz=>by have:=hx.2.symm.trans hz;rw[(h4c j hjc).2]at this;exact this⟩
   .by_cases hi2:i∈is
    .rw[hqs i hi2]at hm;rw[(h4n i hi).1]at hb';have hbk:=hJ.bk i hi2;rw[hm]at hbk;obtain⟨b',cs',Ty',h3,h4,h5⟩:=hbk;rw[hb']at h3;cases h3
     rw[hw4ne b (by have:=hptlt i b hb';omega),h4]at hcs;cases hcs
     exact Rs.imp (ρ:=⟨zo w3 M3,fun _=>none,fun _=>none⟩) m _ ⟨hV34,fun k hk=>by rw[zss (hpbE i hi2) hm]at hk;cases hk⟩ h5
    .rw[hqo i hi hi2]at hm;rw[(h4n i hi).1]at hb';obtain⟨b',cs',Ty',h3,h4⟩:=hg.cel i m hm;rw[hb']at h3;cases h3
     have hb'':bl pt ow i=some b:=by simp[bl,hb']
     rw[hsame b (zj h4) (fun j hj h1=>hi (hg.inj i j b hb'' h1▸hj)) fun j hj h1=>hi2 (hg.inj i j b hb'' (by simp[bl,h1])▸hj),h4]at hcs;cases hcs
     exact(h2 i m b cs Ty hm hb' h4).imp _ _ (hle5 _)
  .obtain⟨Ds,h1,h2,h3⟩:=hd;refine⟨D::Ds,by simp[h1,zd2],?_,fun d hd'=>?_⟩
   .rw[q4];exact⟨fun h'=>by have:=zj (h3 D h').2.2;omega,h2⟩
   .rcases q0.1 hd' with rfl|hd'
    .exact⟨by rw[hD];exact hg.size,fun h'=>h'.2 rfl,by rw[hw4ne d O];exact hJ.hd⟩
    .exact⟨(h3 d hd').1,hV4 _ _ (h3 d hd').2⟩
 simp only[zez]at hcont
 cases hlv:live xE with
 |true=>
  rw[hlv]at hcont;have:(ztf rc true (pend xE)).pending =none:=by simp[ztf,hrc]
  rw[this];exact hQ _ _ _ _ hfinal hcont
 |false=>
  rw[hlv]at hcont;have:(ztf rc false (pend xE)).pending =some (pend xE):=by simp[ztf]
  rw[this];simp only at hcont⊢;split at hcont
  .rename_i id e;rw[e];exact wpIn_exit (hQ _ _ _ _ hfinal hcont)
  .rename_i e;rw[e];exact wpIn_ret (hQ _ _ _ _ hfinal hcont)
  .exact hcont.elim
theorem qw(hT:TabOK P T)(hmx:P.follows .mixedOrders =true):∀(code:Code)(top:Bool)(F:Wf)(c:Ctx)(G:St)(K:Exit->St->Prop)(Q:Exit->Act->World->Prop)(a:Act)(w:World),
 (top=true->F.F=Fence.wide)->Rel c G a w->ji T (CN P) top code G K->(∀e G a w,Rel c G a w->K e G->Q e a w)->code.wpIn F.F 0 P Q a w
 |.skip,top,F,c,G,K,Q,a,w,ht,h,hk,hQ=>wpIn_skip (hQ _ G a w h hk)
 |.region id ops draw,top,F,c,G,K,Q,a,w,ht,h,hk,hQ=>by
   simp only[ji]at hk
   cases draw with
   |false=>
    refine wpIn_region_list (zcc hT (fun σ' a' w' hr hk'=>?_) _ G a w h hk);obtain⟨σ'',hr',hK⟩:=yx hr hk';exact hQ _ _ _ _ hr' hK
   |true=>
    refine zmz (K:=fun G=>xk (zvh ops.toList) G fun G=>K .normal G) hT hmx h hk (fun σ' a' w' hr hk'=>?_);obtain⟨σ'',hr',hK⟩:=yx hr hk';exact hQ _ _ _ _ hr' hK
 |.seq x y,top,F,c,G,K,Q,a,w,ht,h,hk,hQ=>by
   simp only[ji]at hk;refine wpIn_seq (qw hT hmx x top F c G _ _ a w ht h hk fun e σ' a' w' hr hk'=>?_)
   cases e with
   |normal=>exact qw hT hmx y top F c σ' K Q a' w' ht hr hk' hQ
   |exit i=>exact hQ _ _ _ _ hr hk'
   |ret=>exact hQ _ _ _ _ hr hk'
   | _=>exact hk'.elim
 |.cond b x y,top,F,c,G,K,Q,a,w,ht,h,hk,hQ=>by
   simp only[ji]at hk;split at hk
   .rename_i t htt;obtain⟨_,_,_,_,_,_,hr⟩:=h.own;have hb:=zc hr b;rw[htt]at hb;simp only[R]at hb;refine wpIn_cond hb ?_
    cases t with
    |true=>exact qw hT hmx x top F c G K Q a w ht h hk hQ
    |false=>exact qw hT hmx y top F c G K Q a w ht h hk hQ
   .rename_i p q htt;obtain⟨_,_,_,_,_,_,hr⟩:=h.own;have hb:=zc hr b;rw[htt]at hb;simp only[R]at hb;obtain⟨t,hb,h1,h2⟩:=hb;refine wpIn_cond hb ?_
    cases t with
    |true=>exact qw hT hmx x top F c G K Q a w ht h (hk.1 (h1 rfl)) hQ
    |false=>exact qw hT hmx y top F c G K Q a w ht h (hk.2 (h2 rfl)) hQ
   .exact hk.elim
 |.block id x,top,F,c,G,K,Q,a,w,ht,h,hk,hQ=>by
   simp only[ji]at hk;refine wpIn_block (qw hT hmx x top F c G _ _ a w ht h hk fun e σ' a' w' hr hk'=>?_)
   cases e with
   |normal=>exact hQ _ _ _ _ hr hk'
   |exit i=>
    simp only[Exit.inBlock]
    cases e:Nat.beq i id with
    |true=>simp only[e]at hk';rw[Z6 ((zd _ _).1 e)];exact hQ _ _ _ _ hr hk'
    |false=>simp only[e]at hk';rw[Z7 ((zt _ _).1 e)];exact hQ _ _ _ _ hr hk'
   |ret=>exact hQ _ _ _ _ hr hk'
   | _=>exact hk'.elim
 |.loop x,top,F,c,G,K,Q,a,w,ht,h,hk,hQ=>by
   simp only[ji]at hk;obtain⟨X,I,us,hu,μ,x₀,h0,hin,zix⟩:=hk;rw[zcn]at hin;have hr0:=fun x hx=>(zcn _ _ _ _ _ _).1 (zix x hx)
   refine zdm (I:=I) (J:=fun y a w=>Rel c (gen (jn x) (ze T x) (us y) (hu y) G) a w) (μ:=μ) h0 (h.weaken hin (hr0 x₀ h0).1) fun y a' w' hy hj=>?_
   refine qw hT hmx x top F c _ _ _ a' w' ht hj (hr0 y hy).2 fun e σ' a'' w'' hr hk'=>?_
   cases e with
   |normal=>
    obtain⟨y',hy',hlt,hle⟩:=hk';rw[zcn]at hle;exact⟨y',hy',hr.weaken hle (hr0 y' hy').1,hlt⟩
   |exit i=>exact hQ _ _ _ _ hr hk'
   |ret=>exact hQ _ _ _ _ hr hk'
   | _=>exact hk'.elim
 |.rangeFunc f ps asg body,top,F,c,G,K,Q,a,w,ht,h,hk,hQ=>by
   cases top with
   |false=>simp[ji]at hk
   |true=>
    rw[ht rfl];exact zgk (T:=T) (fun F' c' σ' K' Q' a' w' h' hk' hQ'=>qw hT hmx asg false F' c' σ' K' Q' a' w' (fun e=>by cases e) h' hk' hQ')
     (fun F' c' σ' K' Q' a' w' h' hk' hQ'=>qw hT hmx body false F' c' σ' K' Q' a' w' (fun e=>by cases e) h' hk' hQ') h hk hQ
 |.exit id,top,F,c,G,K,Q,a,w,ht,h,hk,hQ=>wpIn_exit (hQ _ _ _ _ h hk)
 |.ret,top,F,c,G,K,Q,a,w,ht,h,hk,hQ=>wpIn_ret (hQ _ _ _ _ h hk)
 |.scope _,_,_,_,_,_,_,_,_,_,_,hk,_=>hk.elim
 |.label _,_,_,_,_,_,_,_,_,_,_,hk,_=>hk.elim
 |.goto _,_,_,_,_,_,_,_,_,_,_,hk,_=>hk.elim
 |.refuse _,_,_,_,_,_,_,_,_,_,_,hk,_=>hk.elim
end
