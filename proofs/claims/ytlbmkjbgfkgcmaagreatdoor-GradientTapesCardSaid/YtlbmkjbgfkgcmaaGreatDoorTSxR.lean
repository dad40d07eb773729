/- A state that says less; the loop's head. -/
import Derived.Test.YtlbmkjbgfkgcmaaGreatDoorTSxQ
set_option linter.all false
namespace Go.Sx
open Go
section
variable {P:Program} {T:Tab} {F:Wf} {c:Ctx} {Y G:St} {a:Act} {w:World} {h h':Hp}
theorem znc:∀ {hs ts:Hp},leH h h' hs ts->∀i,leB h h' i (hget hs i) (hget ts i)
 | [],[],_,i=>by simp[hget,leB]
 | [],_::_,hl,_=>by simp[leH]at hl
 | _::_,[],hl,_=>by simp[leH]at hl
 |(i,b)::r,(j,d)::s,hl,q=>by
  simp only[leH]at hl;split at hl
  .rename_i e;have e:=(zd _ _).1 e;subst e;rw[zf,zf];by_cases e:i=q
   .subst e;rw[Z6 rfl,Z6 rfl];exact hl.1
   .rw[Z7 e,Z7 e];exact znc hl.2 q
  .exact hl.elim
structure Less(h:Hp)(pt pt3:Nat->Option Nat)(ow ow3:Nat->Option Value)(ids:List Nat):Prop where
 p:∀i∈ids,∀x,pt3 i=some x->pt i=some x
 w:∀i∈ids,∀x,ow3 i=some x->((∃e k xs,hget h i=.buf e k xs)->ow i=some x)/\((hget h i=.free \/hget h i=.dead)->x=.slice none 0 0)
theorem Less.sub{pt pt3:Nat->Option Nat}{ow ow3:Nat->Option Value}{l m:List Nat}(hl:Less h pt pt3 ow ow3 l)(hs:∀i∈m,i∈l):Less h pt pt3 ow ow3 m:=
 ⟨fun i hi=>hl.p i (hs i hi),fun i hi=>hl.w i (hs i hi)⟩
mutual
theorem R.le{V:kf}{pt pt3:Nat->Option Nat}{ow ow3:Nat->Option Value}:∀(b a:AV)(v:Value),leA h h' a b->Less h pt pt3 ow ow3 b.ids->R ⟨V,pt,ow⟩ a v->R ⟨V,pt3,ow3⟩ b v
 |.any,_,_,_,_,_=>by simp[R]
 |.bool _,a,v,hl,_,hr=>by
   cases a<;>simp only[leA]at hl
   subst hl;simpa only[R]using hr
 |.int k _,a,v,hl,_,hr=>by
   cases a<;>simp only[leA]at hl
   split at hl
   .rename_i e;have e:=zf0 e;subst e;subst hl;simpa only[R]using hr
   .exact hl.elim
 |.str _,a,v,hl,_,hr=>by
   cases a<;>simp only[leA]at hl
   subst hl;simpa only[R]using hr
 |.nilp,a,v,hl,_,hr=>by
   cases a<;>simp only[leA]at hl
   simpa only[R]using hr
 |.ptr j p,a,v,hl,hm,hr=>by
   cases a<;>simp only[leA]at hl
   split at hl
   .rename_i e;have e:=(zd _ _).1 e;subst e;subst hl;simp only[R]at hr⊢;exact⟨hr.1,fun b hb=>hr.2 b (hm.p _ (by simp[AV.ids]) b hb)⟩
   .exact hl.elim
 |.rp k x o,a,v,hl,_,hr=>by
   cases a<;>simp only[leA]at hl
   cases hl;simpa only[R]using hr
 |.opt _ _ _ _,a,v,hl,_,hr=>by cases a<;>simp only[leA]at hl
 |.ow _ _ _ _,a,v,hl,hm,hr=>by
   cases a<;>simp only[leA]at hl
   split at hl
   .rename_i e1 e2;have e1:=(zd _ _).1 e1;subst e1;obtain⟨rfl,rfl,rfl⟩:=hl;simp only[R]at hr⊢;exact⟨hr.1,fun x hx=>hr.2 x ((hm.w _ (by simp[AV.ids]) x hx).1 ⟨_,_,_,e2⟩)⟩
   .exact hl.elim
 |.nilsl,a,v,hl,_,hr=>by
   cases a<;>simp only[leA]at hl
   simpa only[R]using hr
 |.sl k xs,a,v,hl,_,hr=>by
   cases a<;>simp only[leA]at hl
   .cases hl
    simp only[R]at hr⊢;subst hr;exact .sl k [] none 0 0 0 0 rfl (Nat.le_refl _) OC OC OC
   .cases hl;simpa only[R]using hr
 |.own j,a,v,hl,hm,hr=>by
   cases a<;>simp only[leA]at hl
   .simp only[R]at hr⊢;subst hr;refine⟨⟨_,_,_,rfl⟩,fun x hx=>?_⟩;split at hl
    .rename_i e _;exact((hm.w j (by simp[AV.ids]) x hx).2 (.inl e)).symm
    .rename_i e _;exact((hm.w j (by simp[AV.ids]) x hx).2 (.inr e)).symm
    .exact hl.elim
   .split at hl
    .rename_i e1 e2;have e1:=(zd _ _).1 e1;subst e1;simp only[R]at hr⊢;exact⟨hr.1,fun x hx=>hr.2 x ((hm.w _ (by simp[AV.ids]) x hx).1 ⟨_,_,_,e2⟩)⟩
    .exact hl.elim
 |.agg m,a,v,hl,hm,hr=>by
   cases a<;>simp only[leA]at hl
   simp only[R]at hr⊢;obtain⟨vs,hv,hr⟩:=hr;exact⟨vs,hv,Rs.le m _ _ hl (by simpa[AV.ids]using hm) hr⟩
 |.tup m,a,v,hl,hm,hr=>by
   cases a<;>simp only[leA]at hl
   simp only[R]at hr⊢;obtain⟨vs,hv,hr⟩:=hr;exact⟨vs,hv,Rs.le m _ _ hl (by simpa[AV.ids]using hm) hr⟩
 |.fn f m,a,v,hl,hm,hr=>by
   cases a<;>simp only[leA]at hl
   split at hl
   .rename_i e;have e:=(zd _ _).1 e;subst e;simp only[R]at hr⊢;obtain⟨vs,hv,hr⟩:=hr;exact⟨vs,hv,Rs.le m _ _ hl (by simpa[AV.ids]using hm) hr⟩
   .exact hl.elim
 |.nilf,a,v,hl,_,hr=>by
   cases a<;>simp only[leA]at hl
   simpa only[R]using hr
 |.mp j,a,v,hl,hm,hr=>by
   cases a<;>simp only[leA]at hl
   split at hl
   .rename_i e;have e:=(zd _ _).1 e;subst e;simp only[R]at hr⊢;exact⟨hr.1,fun x hx=>hr.2 x (hm.p _ (by simp[AV.ids]) x hx)⟩
   .exact hl.elim
 |.ub _ _,a,v,hl,_,hr=>by cases a<;>simp only[leA]at hl
 |.nilm,a,v,hl,_,hr=>by
   cases a<;>simp only[leA]at hl
   simpa only[R]using hr
 |.cb _,a,v,hl,_,hr=>by
   cases a<;>simp only[leA]at hl
   subst hl;simpa only[R]using hr
 |.val _,a,v,hl,_,hr=>by
   cases a<;>simp only[leA]at hl
   subst hl;simpa only[R]using hr
theorem Rs.le{V:kf}{pt pt3:Nat->Option Nat}{ow ow3:Nat->Option Value}:∀(m l:List AV)(vs:List Value),leL h h' l m->Less h pt pt3 ow ow3 (wk m)->Rs ⟨V,pt,ow⟩ l vs->Rs ⟨V,pt3,ow3⟩ m vs
 | [],[],[],_,_,_=>by simp[Rs]
 | [],[],_::_,_,_,hr=>by simp[Rs]at hr
 | [],_::_,_,hl,_,_=>by simp[leL]at hl
 | _::_,[],_,hl,_,_=>by simp[leL]at hl
 |b::m,a::l,[],_,_,hr=>by simp[Rs]at hr
 |b::m,a::l,v::vs,hl,hm,hr=>by
  simp only[leL]at hl;simp only[Rs]at hr⊢;exact⟨R.le b a v hl.1 (hm.sub fun i hi=>by simp[wk,hi]) hr.1,Rs.le m l vs hl.2 (hm.sub fun i hi=>by simp[wk,hi]) hr.2⟩
end
theorem Good.weaken{M:Nat->Prop}{pt:Nat->Option Nat}{ow:Nat->Option Value}{S:Nat->Prop}{hp hq:Hp}(hg:Good c M pt ow S hp w)(hB:∀i,leB hp hq i (hget hp i) (hget hq i)):
 ∃ptN owN,Good c M ptN owN S hq w/\(∀ids,Less hp pt ptN ow owN ids)/\∀i m,hget hq i=.cells m->∃l,hget hp i=.cells l/\leL hp hq l m/\ptN i=pt i:=by
 let ptN:Nat->Option Nat:=fun i=>match(hget hq i).isPt with
  |true=>pt i
  |false=>none
 let owN:Nat->Option Value:=fun i=>match hget hq i with
  |.buf _ _ _=>(match hget hp i with
    |.buf _ _ _=>ow i
    | _=>some (.slice none 0 0))
  | _=>none
 have hptN:∀i b,ptN i=some b->pt i=some b/\(hget hq i).isPt =true:=fun i b hb=>by
  simp only[ptN]at hb;split at hb
  .rename_i e;exact⟨hb,e⟩
  .cases hb
 have hptE:∀i,(hget hq i).isPt =true->ptN i=pt i:=fun i hi=>by simp only[ptN,hi]
 have hcel:∀i m,hget hq i=.cells m->∃l,hget hp i=.cells l/\leL hp hq l m/\ptN i=pt i:=fun i m hm=>by
  have:=hB i;rw[hm]at this;cases e:hget hp i<;>rw[e]at this<;>simp only[leB]at this
  exact⟨_,rfl,this,hptE i (by rw[hm];rfl)⟩
 have howN:∀i x,owN i=some x->(∃e k xs,hget hq i=.buf e k xs)/\(((∃e k xs,hget hp i=.buf e k xs)/\ow i=some x)\/((∀e k xs,hget hp i≠ .buf e k xs)/\x=.slice none 0 0)):=fun i x hx=>by
  simp only[owN]at hx;split at hx
  .rename_i e k xs e1;refine⟨⟨_,_,_,e1⟩,?_⟩;split at hx
   .rename_i e' k' xs' e2;exact .inl ⟨⟨_,_,_,e2⟩,hx⟩
   .rename_i hne;cases hx;exact .inr ⟨fun e k xs he=>hne _ _ _ he,rfl⟩
  .cases hx
 have hbl:∀i b,bl ptN owN i=some b->bl pt ow i=some b:=fun i b hb=>by
  unfold bl at hb⊢
  cases hq1:ptN i with
  |some z=>rw[hq1]at hb;rw[(hptN i z hq1).1];exact hb
  |none=>
   rw[hq1]at hb
   cases hq2:owN i with
   |none=>rw[hq2]at hb;cases hb
   |some z=>
    rw[hq2]at hb;rcases(howN i z hq2).2 with ⟨_,h2⟩|⟨_,h2⟩
    .rw[hg.ptow h2,h2];exact hb
    .subst h2;cases hb
 refine⟨ptN,owN,?_,fun ids=>⟨fun i _ x hx=>(hptN i x hx).1,fun i _ x hx=>⟨fun hb=>?_,fun hb=>?_⟩⟩,hcel⟩
 .exact {
   os:=hg.os,tape:=hg.tape,output:=hg.output,size:=hg.size,keep:=hg.keep,fresh:=hg.fresh,m0:=hg.m0,m1:=hg.m1
   mt:=fun i b hb=>hg.mt i b (hbl i b hb)
   gm:=hg.gm
   gl:=hg.gl
   gd:=fun i b hb=>hg.gd i b (hbl i b hb)
   loc:=fun i b hb=>hg.loc i b (hbl i b hb)
   farp:=fun i b hi hb=>hg.farp i b hi (hptN i b hb).1
   farw:=fun i x hi hx=>by
    obtain⟨⟨e,k,xs,he⟩,h2|⟨h2,_⟩⟩:=howN i x hx
    .exact hg.farw i x hi h2.2
    .have:=hB i;rw[he]at this;cases e1:hget hp i<;>rw[e1]at this<;>simp only[leB]at this
     .have:=Nat.le_of_ble_eq_true this.1;omega
     .have:=Nat.le_of_ble_eq_true this.1;omega
     .exact absurd e1 (h2 _ _ _)
   inj:=fun i j b hi hj=>hg.inj i j b (hbl i b hi) (hbl j b hj)
   dpt:=fun i b hb=>(hptN i b hb).2
   dow:=fun i x hx=>by obtain⟨⟨e,k,xs,he⟩,_⟩:=howN i x hx;rw[he];rfl
   blk:=fun i=>by
    have hBi:=hB i;have hbk:=hg.blk i
    cases e:hget hq i with
    |free=>trivial
    |dead=>trivial
    |cells m=>
     obtain⟨l,hl,_,hpt⟩:=hcel i m e;obtain⟨b,cs,Ty,h1,h2⟩:=hg.cel i l hl;exact⟨b,cs,Ty,by rw[hpt];exact h1,h2⟩
    |buf et k xs=>
     rw[e]at hBi;cases e1:hget hp i<;>rw[e1]at hBi<;>simp only[leB]at hBi
     .obtain⟨_,h2⟩:=hBi;cases h2
      exact⟨.slice none 0 0,by simp only[owN,e,e1],.inl ⟨rfl,rfl⟩⟩
     .obtain⟨_,h2⟩:=hBi;cases h2
      exact⟨.slice none 0 0,by simp only[owN,e,e1],.inl ⟨rfl,rfl⟩⟩
     .split at hBi
      .rename_i h3;have h3:=(zd _ _).1 h3;subst h3;cases hBi
       obtain⟨hd,h1,h2⟩:=hg.buf i _ _ _ e1;exact⟨hd,by simp only[owN,e,e1];exact h1,h2⟩
      .exact hBi.elim
    |map kk vk m=>
     rw[e]at hBi;cases e1:hget hp i<;>rw[e1]at hBi hbk<;>simp only[leB]at hBi
     rw[hBi]at hbk;obtain⟨b,es,clk,h1,h2⟩:=hbk;exact⟨b,es,clk,by rw[hptE i (by rw[e];rfl)];exact h1,h2⟩
    |gst J=>
     rw[e]at hBi;cases e1:hget hp i<;>rw[e1]at hBi hbk<;>simp only[leB]at hBi
     rw[hBi]at hbk;exact hbk}
 .obtain⟨_,h2|h2⟩:=howN i x hx
  .exact h2.2
  .obtain⟨e,k,xs,he⟩:=hb;exact absurd he (h2.1 e k xs)
 .obtain⟨_,h2|h2⟩:=howN i x hx
  .obtain⟨⟨e,k,xs,he⟩,_⟩:=h2;rcases hb with hb|hb<;>rw[he]at hb<;>cases hb
  .exact h2.2
theorem zlk:∀ {h:Hp}{i:Nat},hget h i=.free ->i∈zeh h
 | [],i,hf=>by simp[hget]at hf
 |(j,b)::r,i,hf=>by
  rw[zf]at hf;simp only[zeh];by_cases e:j=i
  .rw[Z6 e]at hf;subst hf;simp[e]
  .rw[Z7 e]at hf;have:=zlk hf;split<;>simp[this]
theorem Rel.weaken(h:Rel c Y a w)(hle:leS Y G)(hfr:zde (zeh G.hp) G.ids=true):Rel c G a w:=by
 obtain⟨M,pt,ow,S,hg,hs,hdf⟩:=h;obtain⟨h1,h2⟩:=hs pt ow (Agr.refl _ _ _);obtain⟨ptN,owN,hgN,hless,hcel⟩:=hg.weaken (znc hle.2);refine⟨M,ptN,owN,S,hgN,fun pt3 ow3 hag=>?_,hdf⟩;have hnf:∀i∈G.ids,(hget G.hp i).isFree =false:=fun i hi=>by
  cases e:hget G.hp i<;>first|rfl|exact absurd hi ((jr _ _).1 hfr i (zlk e))
 have hl3:∀ids:List Nat,(∀i∈ids,i∈G.ids)->Less Y.hp pt pt3 ow ow3 ids:=fun ids zc4=>
  ⟨fun i hi x hx=>by rw[(hag i (hnf i (zc4 i hi))).1]at hx;exact(hless [i]).p i OC x hx,
   fun i hi x hx=>by rw[(hag i (hnf i (zc4 i hi))).2]at hx;exact(hless [i]).w i OC x hx⟩
 refine⟨Rs.le _ _ _ hle.1 (hl3 _ fun i hi=>by simp[St.ids,hi]) h1,fun i m b cs Ty hm hb hcs=>?_⟩;obtain⟨l,hl,hlm,hpt⟩:=hcel i m hm;rw[hpt]at hb;exact Rs.le _ _ _ hlm (hl3 _ fun j hj=>by simp only[St.ids,List.mem_append];exact .inr (jv hm j hj)) (h2 i l b cs Ty hl hb hcs)
def havG(ws:List Nat):Nat->List AV->List AV
 | _,[]=> []
 |i,a::l=>(match zev i ws with
  |true=>.any
  |false=>a)::havG ws (i+1) l
def zw1(ds:List Nat):Hp->Hp
 | []=> []
 |(i,b)::r=>(match zev i ds with
  |true=>(i,.free)
  |false=>(i,b))::zw1 ds r
def upsG:List (Nat×AV)->List AV->List AV
 | [],l=>l
 |(i,a)::us,l=>upsG us (l.set i a)
def uphG:List (Nat×Blk)->Hp->Hp
 | [],h=>h
 |(i,b)::us,h=>uphG us (xo h i b)
def gen(ws ds:List Nat)(us:List (Nat×AV))(hu:List (Nat×Blk))(Y:St):St:=⟨upsG us (havG ws 0 Y.sl),uphG hu (zw1 ds Y.hp)⟩
theorem zpd(ws:List Nat):∀(l:List AV)(i:Nat)(k:List AV->Prop),qe2 ws i l k<->k (havG ws i l)
 | [],_,_=>Iff.rfl
 |a::l,i,k=>by
  simp only[qe2,havG];cases zev i ws<;>simp only[]<;>rw[zpd]
theorem zpe(ds:List Nat):∀(l:Hp)(k:Hp->Prop),qe3 ds l k<->k (zw1 ds l)
 | [],_=>Iff.rfl
 |(i,b)::l,k=>by
  simp only[qe3,zw1];cases zev i ds<;>simp only[]<;>rw[zpe]
theorem zn1:∀(us:List (Nat×AV))(l:List AV)(k:List AV->Prop),upsK us l k<->k (upsG us l)
 | [],_,_=>Iff.rfl
 |(i,a)::us,l,k=>by simp only[upsK,upsG];rw[zg6,zfs,zn1]
theorem zn2:∀(us:List (Nat×Blk))(l:Hp)(k:Hp->Prop),uphK us l k<->k (uphG us l)
 | [],_,_=>Iff.rfl
 |(i,a)::us,l,k=>by simp only[uphK,uphG];rw[zke,zgx,zn2]
theorem zcn(ws ds:List Nat)(us:List (Nat×AV))(hu:List (Nat×Blk))(Y:St)(K:St->Prop):zpf ws ds us hu Y K<->K (gen ws ds us hu Y):=by
 unfold zpf gen;rw[zpd,zn1,zpe,zn2]
theorem zln(p:Nat->Prop)(h:∃n,p n):∃n,p n/\∀m,p m->n<=m:=by
 obtain⟨n,hn⟩:=h
 induction n using Nat.strongRecOn with
 | _ n ih=>
   by_cases hex:∃m,m<n/\p m
   .obtain⟨m,hm,hp⟩:=hex;exact ih m hm hp
   .refine⟨n,hn,fun m hm=>?_⟩;rcases Nat.lt_or_ge m n with h'|h'
    .exact absurd ⟨m,h',hm⟩ hex
    .exact h'
theorem zdm{X:Type}{code:Code}{Q:Exit->Act->World->Prop}{I:X->Prop}{J:X->Act->World->Prop}{μ:X->Nat}{x₀:X}(h0:I x₀)(hJ:J x₀ a w)
 (round:∀x a w,I x->J x a w->code.wpIn F.F 0 P (Exit.then (fun a' w'=>∃x',I x'/\J x' a' w'/\μ x'<μ x) Q) a w):(Code.loop code).wpIn F.F 0 P Q a w:=by
 classical
 let N:Act->World->Nat->Prop:=fun a w n=>∃x,I x/\J x a w/\μ x=n
 let m:Act->World->Nat:=fun a w=>if h:∃n,N a w n then(zln _ h).choose else 0
 refine wpIn_loop (fun a w=>∃x,I x/\J x a w) m ⟨x₀,h0,hJ⟩ fun a w ⟨x,hx,hj⟩=>?_
 have hex:∃n,N a w n:=⟨_,x,hx,hj,rfl⟩;have hm:m a w=(zln _ hex).choose :=by simp only[m,dif_pos hex]
 obtain⟨⟨y,hy,hjy,hμ⟩,_⟩:=(zln _ hex).choose_spec;refine wpIn_mono (round y a w hy hjy) fun e a' w' he=>?_
 cases e with
 |normal=>
  obtain⟨x',hx',hj',hlt⟩:=he;refine⟨⟨x',hx',hj'⟩,?_⟩;have hex':∃n,N a' w' n:=⟨_,x',hx',hj',rfl⟩;have hm':m a' w'=(zln _ hex').choose :=by simp only[m,dif_pos hex']
  have hle:(zln _ hex').choose <=μ x':=(zln _ hex').choose_spec.2 _ ⟨x',hx',hj',rfl⟩;rw[hm,hm',<-hμ];omega
 | _=>exact he
end
