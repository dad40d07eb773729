/- Maps; parts of slices and strings. -/
import Derived.Test.YtlbmkjbgfkgcmaaGreatDoorTSxM
import Derived.MapKept
set_option linter.all false
open List renaming eq_nil_of_length_eq_zero->q1,getElem?_drop->q4,getElem?_take->qA,map_cons->qB
open Option renaming map_some->q0,map_none->q2,isSome_none->q3
open Go.Instr renaming sliceBounds->qF,sliceAt->qG,slice->qH,sliceBound->qI,mapUpdate->qJ,makeMap->qK,lookup->qM
open Go.Result renaming andThen_ok->qC
open Go.Sem renaming run_bind->qD,run_pure->qE,run->qL
namespace Go.Sx
open Go
section
variable {V V':kf} {kk vk:Elt}
theorem wd.keys:∀ {m:List (kk.T×vk.T)}{es:List MapEntry},wd V kk vk m es->es.map (·.key)=(m.map (·.1)).map (zbe kk)
 | [],[],_=>rfl
 | [],_::_,h=>by simp[wd]at h
 | _::_,[],h=>by simp[wd]at h
 |(x,y)::m,e::es,h=>by
  simp only[wd]at h;simp only[qB];rw[h.1.1,wd.keys h.2]
theorem ze2(x:kk.T)(z u:vk.T):∀ {m:List (kk.T×vk.T)}{es:List MapEntry}(n:Nat),wd V kk vk m es->
 (zhc kk x (m.map (·.1)) es n=none/\qcy kk x m=false/\zj3 kk x z m=z/\qcx kk x u m=m++ [(x,u)])\/
 ∃i v y,zhc kk x (m.map (·.1)) es n=some (n+i,v)/\qcy kk x m=true/\zcz V vk (zj3 kk x z m) v/\(∃e,es[i]? =some e/\e.key=zbe kk y)/\zqo kk x y=true/\qcx kk x u m=m.set i (x,u)
 | [],[],n,_=>.inl ⟨rfl,rfl,rfl,rfl⟩
 | [],_::_,_,h=>by simp[wd]at h
 | _::_,[],_,h=>by simp[wd]at h
 |(y,v)::m,e::es,n,h=>by
  simp only[wd]at h;simp only[qB,zhc,qcy,zj3,qcx]
  cases hk:zqo kk x y with
  |true=>exact .inr ⟨0,e.val,y,OC,OC,by simpa using h.1.2,⟨e,OC,h.1.1⟩,hk,OC⟩
  |false=>
   simp only[cond_false,Bool.false_or];rcases ze2 x z u (n+1) h.2 with ⟨h1,h2,h3,h4⟩|⟨i,w,y',h1,h2,h3,⟨e',h4,h4'⟩,h5,h6⟩
   .exact .inl ⟨h1,h2,h3,by rw[h4];rfl⟩
   .exact .inr ⟨i+1,w,y',by rw[h1];congr 2;omega,h2,h3,⟨e',by simpa using h4,h4'⟩,h5,by rw[h6];simp⟩
theorem wd.modify{x:kk.T}{u:vk.T}{f:MapEntry->MapEntry}(hf:∀e,(f e).key =zbe kk x/\zcz V vk u (f e).val):∀ {m:List (kk.T×vk.T)}{es:List MapEntry}(i:Nat),wd V kk vk m es->wd V kk vk (m.set i (x,u)) (es.modify i f)
 | [],[],_,_=>by simp[wd]
 | [],_::_,_,h=>by simp[wd]at h
 | _::_,[],_,h=>by simp[wd]at h
 |(y,v)::m,e::es,0,h=>by simp only[wd]at h;simp only[List.set_cons_zero,List.modify_zero_cons,wd];exact⟨hf e,h.2⟩
 |(y,v)::m,e::es,i+1,h=>by simp only[wd]at h;simp only[List.set_cons_succ,List.modify_succ_cons,wd];exact⟨h.1,wd.modify hf i h.2⟩
theorem wd.push{x:kk.T}{u:vk.T}{e':MapEntry}(hf:e'.key=zbe kk x/\zcz V vk u e'.val):∀ {m:List (kk.T×vk.T)}{es:List MapEntry},wd V kk vk m es->wd V kk vk (m++ [(x,u)]) (es++ [e'])
 | [],[],_=>by simp only[List.nil_append,wd];exact⟨hf,trivial⟩
 | [],_::_,h=>by simp[wd]at h
 | _::_,[],h=>by simp[wd]at h
 |(y,v)::m,e::es,h=>by simp only[wd]at h;simp only[List.cons_append,wd];exact⟨h.1,wd.push hf h.2⟩
theorem znw{ρ:Env}{k:Elt}{a:AV}{v:Value}{x:k.T}(hr:R ρ a v)(hag:qc6 a k=true)(h1:zeq a.cs=true)(hl:∀vs,Rs ρ a.cs vs->jz ρ.V (k.cells x) vs):zcz ρ.V k x v:=by
 have hc:=hr.cells h1;have hlf:=hl _ hc;have hsz:v.cells.toList.length=k.size:=by rw[<-hlf.1,qn]
 refine⟨v.cells.toList,hsz,?_,fun j u y hu hy=>hlf.2 j u y hu hy⟩;unfold qc6 at hag
 cases a with
 |agg l=>
  simp only[aggA]at hag;simp only[R]at hr;obtain⟨vs,rfl,_⟩:=hr;have:k.size≠1:=fun e=>by rw[(zd _ _).2 e]at hag;cases hag
  rw[Z7 this];rfl
 |any=>simp[AV.cs,zeq,AV.one]at h1
 |tup l=>simp[AV.cs,zeq,AV.one]at h1
 | _=>
   simp only[aggA]at hag;have e1:k.size=1:=by
    cases e:Nat.beq k.size 1 with
    |true=>exact(zd _ _).1 e
    |false=>rw[e]at hag;cases hag
   rw[Z6 e1];have h1':=hr.one rfl;cases v<;>first|rfl|cases h1'
theorem ztm{ρ:Env}{a:AV}{v:Value}{K:kk.T->Prop}(hkk:kk=.str \/kk=.int \/kk=.op)(hr:R ρ a v)(hag:qc6 a kk=true)(h:qf kk a.cs K):∃x,K x/\v=zbe kk x:=by
 obtain⟨x,hK,h1,hl⟩:=uu h;refine⟨x,hK,?_⟩;obtain⟨vs,hlen,hv,hlf⟩:=znw hr hag h1 (hl ρ);rcases hkk with rfl|rfl|rfl
 .match vs,hlen with
  | [y],_=>
    have:=hlf 0 _ y (by simp[Elt.cells];rfl) OC;cases this
    rw[hv];rfl
 .match vs,hlen with
  | [y],_=>
    have:=hlf 0 _ y (by simp[Elt.cells];rfl) OC;cases this
    rw[hv];rfl
 .match vs,hlen with
  | [y0,y1,y2,y3,y4,y5],_=>
    have a0:=hlf 0 _ y0 (by simp[Elt.cells];rfl) OC;have a1:=hlf 1 _ y1 (by simp[Elt.cells];rfl) OC;have a2:=hlf 2 _ y2 (by simp[Elt.cells];rfl) OC;have a3:=hlf 3 _ y3 (by simp[Elt.cells];rfl) OC;have a4:=hlf 4 _ y4 (by simp[Elt.cells];rfl) OC;have a5:=hlf 5 _ y5 (by simp[Elt.cells];rfl) OC;cases a0;cases a1;cases a2;cases a3;cases a4;cases a5
    rw[hv];rfl
theorem jz.rs{k:Elt}{x:k.T}{vs:List Value}(hlen:vs.length=k.size)(h:∀(j:Nat)(u:AV)(y:Value),(k.cells x)[j]? =some u->vs[j]? =some y->Leaf V u y)(pt:Nat->Option Nat)(ow:Nat->Option Value):Rs ⟨V,pt,ow⟩ (k.cells x) vs:=
 Rs.of_get (by rw[qn,hlen]) fun i a v ha hv=>R.of_leaf (h i a v ha hv)
end
section
variable {P:Program} {T:Tab} {F:Wf} {C:Con} {c:Ctx} {o:Oper} {Y:St} {a:Act} {w:World} {E:AV->List Blk->Prop} {ids:List Nat} {bs:List Blk} {dst:Nat}
theorem zcf(hT:TabOK P T){t:Nat}{K:Elt->Elt->TI->Prop}(h:zh1 T t K):∃kt vt kk vk v,K kk vk v/\P.underlying t=some (.map kt vt)/\KeyOK P kt kk/\TIOK P vt v/\v.sz=vk.size/\(v.agg=true<->vk.size≠1):=by
 unfold zh1 at h;obtain⟨i,hmi,h⟩:=qu _ _ _ h;split at h
 .rename_i sz fs kt esz vt ik0 ik z by_ eq;obtain⟨j,hmj,h⟩:=qu _ _ _ h;split at h
  .rename_i kk _ _ _ _;obtain⟨v,hmv,h⟩:=qu _ _ _ h;split at h
   .rename_i vk hvk;split at h
    .rename_i hv;have hi:=hT.ti _ _ hmi;obtain⟨d,hd,_,_,hdesc⟩:=hi.und;have hdesc:d=.map kt vt:=hdesc;refine⟨kt,vt,kk,vk,v,h,by rw[hd,hdesc],hT.key _ _ hmi rfl _ _ hmj rfl,hT.ti _ _ hmv,?_⟩;unfold vOk at hv;split at hv
     .rename_i h1 h2 h3;exact⟨(zd _ _).1 h1,by rw[h2];simp;exact(zt _ _).1 h3⟩
     .rename_i h1 h2 h3;exact⟨(zd _ _).1 h1,by rw[h2];simp;exact(zd _ _).1 h3⟩
     .cases hv
    .exact h.elim
   .exact h.elim
  .exact h.elim
 .exact h.elim
theorem zmu(hT:TabOK P T)(hlo:Nat.ble (ve o) 99999=true)(h:Rel c Y a w){t:TypeId}{r:Option Operand}(ho:o.op=.makeMap t r)(he:qo T C (.makeMap t r) (ve o) (zm Y.sl) (nd T o Y) (qj Y.hp (nd T o Y)) E):Snd P F T c o Y a w E:=by
 have hn:nd T o Y= [ve o]:=by simp[nd,ho,xt]
 rw[hn,jb]at he;simp only[qo]at he;obtain⟨kt,vt,kk,vk,v,he,hu,hkey,hti,_⟩:=zcf hT he;split at he
 .rename_i hf hres;simp at hf;refine⟨_,_,he,fun Q=>?_⟩;rw[hn];obtain⟨M,pt,ow,S,hg,hs,hr⟩:=h.own;refine ur (v:=.map (some w.heap.size)) (w':=w.alloc (.map #[] 0)) ?_ (h.newB hf (by have:=Nat.le_of_ble_eq_true hlo;omega) (.map kk vk []) (.map #[] 0) _ _ (by simp[wr,ho]) rfl
   (fun M pt ow S hg hs V' hV=>⟨w.heap.size,#[],0,wm _ _ _,by show(w.heap.push _)[w.heap.size]? =_;simp,by simp[wd],rfl,OC⟩) (fun ρ hρ=>?_) fun l e=>by cases e)
  .cases r with
   |none=>simp[execOp,ho,qK,newObj,qL]
   |some x=>
    simp only[q0,resA]at hres;split at hres
    .rename_i hx;cases hx
    .rename_i k n hx;have hx':=zc hr x;simp at hx;rw[hx]at hx';simp only[R]at hx';simp[execOp,ho,qK,zaj hu,hx',asInt,asIntOf,newObj,qL]
    .cases hres
  .simp only[R];exact⟨⟨_,rfl⟩,fun b hb=>by rw[hρ]at hb;cases hb;rfl⟩
 .exact he.elim
theorem zlu{o:Oper}{Y:St}{x:AV}{b:Blk}{l:List Blk}(hn:nd T o Y=mid x)(h:qj Y.hp (nd T o Y)=b::l):∃i,x=.mp i/\hget Y.hp i=b/\nd T o Y= [i]:=by
 rw[hn]at h⊢
 cases x with
 |mp i=>simp only[mid,qj]at h⊢;cases h;exact⟨i,rfl,rfl,rfl⟩
 | _=>simp[mid,qj]at h
theorem zgm{P:Program}{w:World}{r:Nat}{es:Array MapEntry}{clock:Nat}(hb:w.heap[r]? =some (.map es clock)):(getObj r).run P w=.ok (.map es clock) w:=by
 simp[getObj,qL,hb]
theorem zsi{P:Program}{w:World}{r:Nat}{es:Array MapEntry}{clock:Nat}(o:Obj)(hb:w.heap[r]? =some (.map es clock)):(setObj r o).run P w=.ok () {w with heap:=w.heap.setIfInBounds r o}:=by
 simp[setObj,qL,hb]
theorem qet{P:Program}{t:TypeId}{kk:Elt}(h:KeyOK P t kk):kk=.str \/kk=.int \/kk=.op :=h.kind
theorem zxu.push{es:Array MapEntry}{clk:Nat}(h:zxu es clk)(e:MapEntry)(he:e.born=clk):zxu (es.push e) (clk+1):=by
 refine⟨by simp[h.1],fun i x hx=>?_⟩;rw[Array.getElem?_push]at hx;split at hx
 .rename_i e1;simp only[Option.some.injEq]at hx;subst hx;rw[he,h.1,e1]
 .exact h.2 i x hx
theorem zxu.modify{es:Array MapEntry}{clk:Nat}{f:MapEntry->MapEntry}(h:zxu es clk)(hf:∀e,(f e).born =e.born)(i:Nat):zxu (es.modify i f) clk:=by
 refine⟨by simp[h.1],fun j x hx=>?_⟩;rw[Array.getElem?_modify]at hx;split at hx
 .cases hy:es[j]? with
  |none=>rw[hy]at hx;cases hx
  |some y=>rw[hy]at hx;simp only[q0,Option.some.injEq]at hx;rw[<-hx,hf,h.2 j y hy]
 .exact h.2 j x hx
theorem wd.len{V:kf}{kk vk:Elt}:∀ {m:List (kk.T×vk.T)}{es:List MapEntry},wd V kk vk m es->es.length=m.length:=fun h=>by
 have:=congrArg List.length h.keys;simpa using this
theorem zru(hT:TabOK P T)(h:Rel c Y a w){cl:Call}(ho:o.op=.call cl)(hcl:cl.callee=.builtin .len){x:Operand}{t:TypeId}(ha:cl.args= #[x])(ht:cl.argTypes= #[t])(hm:isMp (zm Y.sl x)=true)
 (he:zh1 T t (fun _ _ _=>zqm (qj Y.hp (nd T o Y)) E)):Snd P F T c o Y a w E:=by
 have hw:wr o.op=false:=by simp[wr,ho,hcl]
 obtain⟨kt,vt,kk,vk,v,he,hu,_⟩:=zcf hT he;obtain⟨id,hid⟩:∃id,zm Y.sl x=.mp id:=by
  cases e:zm Y.sl x<;>rw[e]at hm<;>first|exact⟨_,rfl⟩|cases hm
 have hn:nd T o Y= [id]:=by simp only[nd,ho,xt,hcl,ha,hid]
 rw[hn,jb]at he;unfold zqm at he;split at he
 .rename_i kk' vk' m hb;simp at hb;have hrun:∀v,(Builtin.len_ #[t] o.type #[a.eval x]).run P w=.ok v w->(execOp a.eval o).run P w=.ok (.value v) w:=fun v hv=>by
   simp[execOp,ho,resolve,hcl,ha,ht,invoke,builtin,hv]
  obtain⟨M,pt,ow,S,hg,hs,hr⟩:=h.own;have hx:=zc hr x;rw[hid]at hx;simp only[R]at hx;obtain⟨b,es,clk,hb1,hb2,hb3⟩:=hg.mpo id _ _ m hb;have hv:=hx.2 b hb1;refine qy h he hw (.int .i64 m.length) (hrun _ ?_) fun _ _ _ _ _ _ _ _ _=>by simp only[R]
  have hl:es.size=m.length:=by have:=hb3.1.len;simpa using this
  simp[Builtin.len_,hv,zaj hu,zgm hb2,goInt,hl]
 .exact he.elim
theorem zqa(hT:TabOK P T)(h:Rel c Y a w){t:TypeId}{x i:Operand}{ok:Bool}(ho:o.op=.lookup t x i ok)(he:qo T C (.lookup t x i ok) dst (zm Y.sl) (nd T o Y) (qj Y.hp (nd T o Y)) E):Snd P F T c o Y a w E:=by
 have hw:wr o.op=false:=by simp[wr,ho]
 have hn:nd T o Y=mid (zm Y.sl x):=by simp[nd,ho,xt]
 simp only[qo,lkOp]at he;obtain⟨kt,vt,kk,vk,v,he,hu,hkey,hti,hsz,hag⟩:=zcf hT he;split at he
 .rename_i id kk' vk' m e1 hbs;obtain⟨id',e1',hget,hn'⟩:=zlu hn hbs;rw[e1]at e1';cases e1'
  split at he
  .rename_i hk hv hagk;have hk:=zls hk;have hv:=zls hv;subst hk;subst hv;have hkk:=qet hkey;obtain⟨M,pt,ow,S,hg,hs,hr⟩:=h.own;have hi:=zc hr i;obtain⟨key,he,hkv⟩:=ztm hkk hi hagk he;obtain⟨z,he,hz1,hz⟩:=uu he;obtain⟨u,he,_,hru⟩:=zd7 hti he;obtain⟨inf,z0,hinf,hisz,_,hzero,hz0sz,hz0⟩:=hti.inf;have hzag:=hti.zag inf z0 hinf hzero;have key:∀M pt ow S,Good c M pt ow S Y.hp w->zdj Y a w M pt ow->∃y,(execOp a.eval o).run P w=.ok (.value (match ok with|true=>.tuple #[y,.bool (qcy kk key m)]|false=>y)) w/\∀pt' ow',R ⟨zo w M,pt',ow'⟩ u y:=by
    intro M pt ow S hg hs;have hx:=zc (hs pt ow (Agr.refl _ _ _)).1 x;rw[e1]at hx;simp only[R]at hx;obtain⟨b,es,clk,hb,hcs,hmo,_⟩:=hg.mpo id _ _ m hget;have hxe:=hx.2 b hb;have hfin:∀y,zcz (zo w M) vk (zj3 kk key z m) y->∀pt' ow',R ⟨zo w M,pt',ow'⟩ u y:=by
     rintro y ⟨vs,hlen,hy,hlf⟩ pt' ow';have h1:=jz.rs hlen hlf pt' ow';have h2:=hru ⟨zo w M,pt',ow'⟩ vs (by rw[List.drop_zero,hsz,List.take_of_length_le (by rw[qn];exact Nat.le_refl _)];exact h1);rw[hy];by_cases e:vk.size=1
     .rw[Z6 e];have:v.agg=false:=by
       cases e':v.agg with
       |false=>rfl
       |true=>exact absurd e (hag.1 e')
      simpa[this]using h2
     .rw[Z7 e];simpa[hag.2 e]using h2
    rcases ze2 key z z 0 hmo with ⟨h1,h2,h3,_⟩|⟨i0,y,ky,h1,h2,h3,_⟩
    .refine⟨z0,?_,hfin z0 ?_⟩
     .simp only[execOp,ho,hxe,hkv,qM,qD,qE,zaj hu,qC,zgm hcs,hkey.chk,hkey.fnd _ _ _ _ hmo.keys,h1,h2,zv8 hinf hzero];cases ok<;>simp
     .rw[h3];have hrz:=hz0 ⟨zo w M,pt,ow⟩;have hlf:=hz ⟨zo w M,pt,ow⟩ _ hrz;refine⟨z0.cells.toList,by rw[<-hlf.1,qn],?_,fun j u y hu hy=>hlf.2 j u y hu hy⟩;by_cases e:vk.size=1
      .rw[Z6 e];have:v.agg=false:=by
        cases e':v.agg with
        |false=>rfl
        |true=>exact absurd e (hag.1 e')
       rw[this]at hzag;cases z0<;>first|rfl|cases hzag
      .rw[Z7 e];rw[hag.2 e]at hzag;cases z0<;>first|rfl|cases hzag
    .refine⟨y,?_,hfin y h3⟩;simp only[execOp,ho,hxe,hkv,qM,qD,qE,zaj hu,qC,zgm hcs,hkey.chk,hkey.fnd _ _ _ _ hmo.keys,h1,h2];cases ok<;>simp
   obtain⟨y0,hy0,_⟩:=key M pt ow S hg hs
   cases ok with
   |true=>
    refine qy h he hw _ hy0 fun M' pt' ow' S' hg' hs' pt'' ow'' hag'=>?_
    obtain⟨y1,hy1,hR⟩:=key M' pt' ow' S' hg' hs';rw[hy0]at hy1;simp at hy1;subst hy1;simp only[R];exact⟨_,rfl,by simp only[Rs];exact⟨hR _ _,by simp[R],trivial⟩⟩
   |false=>
    refine qy h he hw _ hy0 fun M' pt' ow' S' hg' hs' pt'' ow'' hag'=>?_
    obtain⟨y1,hy1,hR⟩:=key M' pt' ow' S' hg' hs';rw[hy0]at hy1;simp at hy1;subst hy1;exact hR _ _
  .exact he.elim
 .exact he.elim
theorem Wr.obj(w:World)(b:Nat)(ob:Obj):Wr w {w with heap:=w.heap.setIfInBounds b ob} b:=
 ⟨rfl,rfl,rfl,OC,fun b' hb'=>by show(w.heap.setIfInBounds b ob)[b']? =_;rw[Array.getElem?_setIfInBounds_ne (fun e=>hb' e.symm)]⟩
theorem zya(hT:TabOK P T)(h:Rel c Y a w){t:TypeId}{x i y:Operand}(hw:wr o.op=true)(hn:nd T o Y=mid (zm Y.sl x))(hex:execOp a.eval o=execOp a.eval {o with op:=.mapUpdate t x i y})(he:qo T C (.mapUpdate t x i y) dst (zm Y.sl) (nd T o Y) (qj Y.hp (nd T o Y)) E):Snd P F T c o Y a w E:=by
 simp only[qo,qej]at he;obtain⟨kt,vt,kk,vk,v,he,hu,hkey,hti,hsz,hag⟩:=zcf hT he;split at he
 .rename_i id kk' vk' m e1 hbs;obtain⟨id',e1',hget,hn'⟩:=zlu hn hbs;rw[e1]at e1';cases e1'
  split at he
  .rename_i hk hv hagk hagv;have hk:=zls hk;have hv:=zls hv;subst hk;subst hv;have hkk:=qet hkey;obtain⟨M,pt,ow,S,hg,hs,hr⟩:=h.own;have hi:=zc hr i;obtain⟨key,he,hkv⟩:=ztm hkk hi hagk he;obtain⟨u,he,hu1,hul⟩:=uu he;refine⟨_,_,he,fun Q=>?_⟩;rw[hn'];have hval:∀M pt ow,zdj Y a w M pt ow->zcz (zo w M) vk u (a.eval y):=fun M pt ow hs=>
    znw (zc (hs pt ow (Agr.refl _ _ _)).1 y) hagv hu1 (hul _)
   have hx:=zc hr x;rw[e1]at hx;simp only[R]at hx;obtain⟨b,es,clk,hb,hcs,hmo,hso⟩:=hg.mpo id _ _ m hget;have hxe:=hx.2 b hb;have hbs':b<w.heap.size:=zj hcs;obtain⟨es',clk',hrun,hso',hes⟩:∃es' clk',(execOp a.eval o).run P w=.ok .skip {w with heap:=w.heap.setIfInBounds b (.map es' clk')}/\zxu es' clk'/\
    ∀V:kf,zcz V vk u (a.eval y)->wd V kk vk m es.toList->wd V kk vk (qcx kk key u m) es'.toList:=by
    rcases ze2 key u u 0 hmo with ⟨h1,h2,h3,h4⟩|⟨i0,y0,ky,h1,h2,h3,⟨e,hei,hek⟩,h5,h6⟩
    .refine⟨es.push {key:=zbe kk key,val:=a.eval y,born:=clk},clk+1,?_,hso.push _ rfl,fun V hV hm=>?_⟩
     .rw[hex];simp only[execOp,hxe,hkv,qJ,qD,qE,zaj hu,qC,zgm hcs,hkey.chk,hkey.fnd _ _ _ _ hmo.keys,h1,zsi _ hcs]
     .rw[h4,Array.toList_push];exact hm.push ⟨rfl,hV⟩
    .have hst:(Instr.keyThatStays (((es[i0]?).map (·.key)).getD (zbe kk key)) (zbe kk key)).run P w=.ok (zbe kk key) w:=by
      have:es[i0]? =some e:=by simpa using hei
      rw[this];simp only[q0,Option.getD_some,hek];exact hkey.stays w key ky h5
     refine⟨es.modify i0 fun e=> {e with key:=zbe kk key,val:=a.eval y},clk,?_,zxu.modify (f:=fun e=> {e with key:=zbe kk key,val:=a.eval y}) hso (fun _=>rfl) i0,fun V hV hm=>?_⟩
     .simp only[Nat.zero_add]at h1;rw[hex];simp only[execOp,hxe,hkv,qJ,qD,qE,zaj hu,qC,zgm hcs,hkey.chk,hkey.fnd _ _ _ _ hmo.keys,h1,hst,zsi _ hcs]
     .rw[h6,Array.toList_modify];exact hm.modify (fun e=>⟨rfl,hV⟩) i0
   refine znu hrun (h.writeB (Wr.obj w b _) hw _ rfl fun M' pt' ow' S' hg' hs'=>?_);obtain⟨b2,es2,clk2,hb2,hcs2,hmo2,_⟩:=hg'.mpo id _ _ m hget;have hx':=zc (hs' pt' ow' (Agr.refl _ _ _)).1 x;rw[e1]at hx';simp only[R]at hx';have:=hx'.2 b2 hb2;rw[hxe]at this;simp at this;subst this;rw[hcs]at hcs2;simp at hcs2;obtain⟨rfl,rfl⟩:=hcs2;rw[hget];refine⟨by simp[bl,hb2],rfl,rfl,rfl,rfl,fun V' hV=>⟨b,es',clk',hb2,by show(w.heap.setIfInBounds b _)[b]? =_;simp[hbs'],hes V' ((hval M' pt' ow' hs').mono hV) (hmo2.mono hV),hso'⟩,fun l e=>by cases e⟩
  .exact he.elim
 .exact he.elim
theorem zji(hT:TabOK P T)(h:Rel c Y a w){t:TypeId}{x i y:Operand}(ho:o.op=.mapUpdate t x i y)(he:qo T C (.mapUpdate t x i y) dst (zm Y.sl) (nd T o Y) (qj Y.hp (nd T o Y)) E):Snd P F T c o Y a w E:=
 zya hT h (by simp[wr,ho]) (by simp[nd,ho,xt]) (by rw[<-ho]) he
theorem zqb(hT:TabOK P T)(h:Rel c Y a w){t:TypeId}{x i y:Operand}(ho:o.op=.insert t x i y)(he:qo T C (.insert t x i y) dst (zm Y.sl) (nd T o Y) (qj Y.hp (nd T o Y)) E):Snd P F T c o Y a w E:=
 zya (C:=C) (dst:=dst) hT h (by simp[wr,ho]) (by simp[nd,ho,xt]) (by simp only[execOp,ho]) he
theorem zgn{k:IntKind}{n:Int}{y:Nat}{code:BoundsCode}(h0:0<=n)(h1:n<=y):(qI (.int k n) y code).run P w=.ok n.toNat w:=by
 simp[qI,asIntOf,h0,h1]
theorem zjr{isS:Bool}{len cap:Nat}{lo hi:Option Value}{l h:Int}(hl:(lo=none/\l=0)\/∃k,lo=some (.int k l))(hh:(hi=none/\h=len)\/∃k,hi=some (.int k h))(h0:0<=l)(h1:l<=h)(h2:h<=cap):
 (qF isS len cap lo hi none).run P w=.ok (l.toNat,h.toNat,cap) w:=by
 rcases hl with ⟨rfl,rfl⟩|⟨k,rfl⟩<;>rcases hh with ⟨rfl,rfl⟩|⟨k',rfl⟩
 .simp[qF]
 .simp only[qF,qD,qE,qC,zgn (O:0<=h) h2];simp
 .have:=zgn (P:=P) (w:=w) (k:=k) (y:=len) (code:=.sliceB) h0 h1;simp only[qF,qD,qE,qC,q3,Bool.false_eq_true,if_false,this];simp
 .have:=zgn (P:=P) (w:=w) (k:=k) (y:=h.toNat) (code:=.sliceB) h0 O;simp only[qF,qD,qE,qC,zgn (O:0<=h) h2,q3,Bool.false_eq_true,if_false,this]
theorem zv9{isS:Bool}{len cap:Nat}{lo:Option Value}{l h m:Int}{k2 k3:IntKind}(hl:(lo=none/\l=0)\/∃k,lo=some (.int k l))(h0:0<=l)(h1:l<=h)(h2:h<=m)(h3:m<=cap):
 (qF isS len cap lo (some (.int k2 h)) (some (.int k3 m))).run P w=.ok (l.toNat,h.toNat,m.toNat) w:=by
 have e1:=zgn (P:=P) (w:=w) (k:=k3) (y:=cap) (code:=if isS then .slice3Acap else .slice3Alen) (O:0<=m) h3;have e2:=zgn (P:=P) (w:=w) (k:=k2) (y:=m.toNat) (code:=.slice3B) (O:0<=h) O;rcases hl with ⟨rfl,rfl⟩|⟨k,rfl⟩
 .simp only[qF,qD,qE,qC,e1,e2];simp
 .have e3:=zgn (P:=P) (w:=w) (k:=k) (y:=h.toNat) (code:=.slice3C) h0 O;simp only[qF,qD,qE,qC,e1,e2,Option.isSome_some,if_true,e3]
theorem ua{x:Option Operand}{d:Int}{K:Int->Prop}(h:zby (x.map (zm Y.sl)) d K):∃n,K n/\∀ρ:Env,Rs ρ Y.sl a.tmps.toList->(x.map a.eval=none/\n=d)\/∃k,x.map a.eval=some (.int k n):=by
 cases x with
 |none=>exact⟨d,h,fun _ _=>.inl ⟨rfl,rfl⟩⟩
 |some y=>
  simp only[q0,zby]at h;split at h
  .rename_i e;cases e
  .rename_i k n e;simp at e;refine⟨n,h,fun ρ hr=>.inr ⟨k,?_⟩⟩;have:=zc hr y;rw[e]at this;simp only[R]at this;simp[this]
  .exact h.elim
theorem zp8(hT:TabOK P T)(h:Rel c Y a w){t:TypeId}{x:Operand}{lo hi mx:Option Operand}(ho:o.op=.slice t x lo hi mx){i:TI}(hmi:(t,i)∈T.ty)(he:qco i (zm Y.sl x) (lo.map (zm Y.sl)) (hi.map (zm Y.sl)) (mx.map (zm Y.sl)) E):Snd P F T c o Y a w E:=by
 have hw:wr o.op=false:=by simp[wr,ho]
 have hi':=hT.ti _ _ hmi
 cases mx with
 |some y=>
  simp only[qco,q0]at he;split at he
  .rename_i k xs k3 m k2 hh e1 e3 e2;split at he
   .rename_i hc hz;have hc:=(zd _ _).1 hc;have hz:=(zd _ _).1 hz;obtain⟨l,he,hl⟩:=ua (a:=a) he;obtain⟨⟨h0,h1,h2,h3⟩,heE⟩:=he;obtain⟨hu,inf,hinf,hsz⟩:=hi'.slice hc;obtain⟨z,rfl,e4⟩:∃z,hi=some z/\zm Y.sl z=.int k2 hh:=by
     cases hi with
     |none=>simp at e2
     |some z=>exact⟨z,rfl,by simpa using e2⟩
    refine qk h heE hw (fun _ _=>True) fun M pt ow S hg hs=>?_
    have hr:=(hs pt ow (Agr.refl _ _ _)).1;have hx:=zc hr x;rw[e1]at hx;simp only[R]at hx;have hz2:a.eval z=.int k2 hh:=by have:=zc hr z;rw[e4]at this;exact this
    have hz3:a.eval y=.int k3 m:=by have:=zc hr y;rw[e3]at this;exact this
    cases hv:a.eval x<;>rw[hv]at hx<;>cases hx
    rename_i ao n cap b p hel ha hn hm hcap;subst hn;refine⟨.slice (if m.toNat=l.toNat then ao else ao.map (·.add (l.toNat*k.size))) (hh.toNat-l.toNat) (m.toNat-l.toNat),?_,fun pt' ow' _=>?_⟩
    .have hb:=zv9 (P:=P) (w:=w) (isS:=true) (len:=xs.length) (cap:=cap) (k2:=k2) (k3:=k3) (hl _ hr) h0 h1 h2 O;simp only[execOp,ho,qG,qD,zaj hu,qC,qH,hv,q0,hz2,hz3,hb,zcu hinf,qE,hsz,hz]
    .simp only[R];have hlen:((xs.take hh.toNat).drop l.toNat).length =hh.toNat-l.toNat:=OE;refine .sl k _ _ _ _ b (p+l.toNat*k.size) hlen.symm O O (fun hne=>?_) fun j x hx=>?_
     .have hlt:l.toNat<hh.toNat:=by
       rcases Nat.lt_or_ge l.toNat hh.toNat with h'|h'
       .exact h'
       .exact absurd (q1 (by rw[hlen];omega)) hne
      have hao:=ha (by intro e;rw[e]at h3;simp at h3;omega);subst hao;rw[Z7 O];simp[wt]
     .rw[q4,qA]at hx;split at hx
      .have:=hel _ _ hx;rw[show p+l.toNat*k.size+j*k.size=p+(l.toNat+j)*k.size by rw[Nat.add_mul];omega];exact this
      .cases hx
   .exact he.elim
  .exact he.elim
 |none=>
  simp only[qco,q2]at he;split at he
  .rename_i k xs e1;split at he
   .rename_i hc hz;have hc:=(zd _ _).1 hc;have hz:=(zd _ _).1 hz;obtain⟨l,he,hl⟩:=ua (a:=a) he;obtain⟨hh,he,hhv⟩:=ua (a:=a) he;obtain⟨⟨h0,h1,h2⟩,he⟩:=he;obtain⟨hu,inf,hinf,hsz⟩:=hi'.slice hc;refine qk h he hw (fun _ _=>True) fun M pt ow S hg hs=>?_
    have hr:=(hs pt ow (Agr.refl _ _ _)).1;have hx:=zc hr x;rw[e1]at hx;simp only[R]at hx;cases hv:a.eval x<;>rw[hv]at hx<;>cases hx
    rename_i ao n cap b p hel ha hn hm hcap;subst hn;refine⟨.slice (if cap=l.toNat then ao else ao.map (·.add (l.toNat*k.size))) (hh.toNat-l.toNat) (cap-l.toNat),?_,fun pt' ow' _=>?_⟩
    .have hb:=zjr (P:=P) (w:=w) (isS:=true) (len:=xs.length) (cap:=cap) (hl _ hr) (hhv _ hr) h0 h1 O;simp only[execOp,ho,qG,qD,zaj hu,qC,qH,hv,q2,hb,zcu hinf,qE,hsz,hz]
    .simp only[R];have hlen:((xs.take hh.toNat).drop l.toNat).length =hh.toNat-l.toNat:=OE;refine .sl k _ _ _ _ b (p+l.toNat*k.size) hlen.symm O O (fun hne=>?_) fun j x hx=>?_
     .have hlt:l.toNat<hh.toNat:=by
       rcases Nat.lt_or_ge l.toNat hh.toNat with h'|h'
       .exact h'
       .exact absurd (q1 (by rw[hlen];omega)) hne
      have hao:=ha (by intro e;rw[e]at h2;simp at h2;omega);subst hao;rw[Z7 O];simp[wt]
     .rw[q4,qA]at hx;split at hx
      .have:=hel _ _ hx;rw[show p+l.toNat*k.size+j*k.size=p+(l.toNat+j)*k.size by rw[Nat.add_mul];omega];exact this
      .cases hx
   .exact he.elim
  .rename_i s e1;split at he
   .rename_i hc;have hc:=(zd _ _).1 hc;obtain⟨l,he,hl⟩:=ua (a:=a) he;obtain⟨hh,he,hhv⟩:=ua (a:=a) he;obtain⟨⟨h0,h1,h2⟩,he⟩:=he;have hu:=hi'.string hc;refine qk h he hw (fun _ _=>True) fun M pt ow S hg hs=>?_
    have hr:=(hs pt ow (Agr.refl _ _ _)).1;have hx:=zc hr x;rw[e1]at hx;simp only[R]at hx;refine⟨.string ((⟨s.toArray⟩:ByteArray).extract l.toNat hh.toNat),?_,fun pt' ow' _=>?_⟩
    .have hsz:(⟨s.toArray⟩:ByteArray).size =s.length:=by simp[ByteArray.size]
     have hb:=zjr (P:=P) (w:=w) (isS:=false) (len:=s.length) (cap:=s.length) (hl _ hr) (hhv _ hr) h0 h1 O;simp[execOp,ho,qG,zaj hu,qH,hx,hsz,hb]
    .simp only[R]
     congr 1
     apply ByteArray.ext;apply Array.ext';simp[List.drop_take]
   .exact he.elim
  .rename_i e1;split at he
   .rename_i hc;have hc:=(zd _ _).1 hc;obtain⟨l,he,hl⟩:=ua (a:=a) he;obtain⟨hh,he,hhv⟩:=ua (a:=a) he;obtain⟨⟨hl0,hh0⟩,he2⟩:=he;subst hl0;subst hh0;obtain⟨hu,inf,hinf,hsz⟩:=hi'.slice hc;refine qk h he2 hw (fun _ _=>True) fun M pt ow S hg hs=>⟨.slice none 0 0,?_,fun pt' ow' _=>by simp[R]⟩
    have hr:=(hs pt ow (Agr.refl _ _ _)).1;have hx:=zc hr x;rw[e1]at hx;simp only[R]at hx;have hb:=zjr (P:=P) (w:=w) (isS:=true) (len:=0) (cap:=0) (hl _ hr) (by rcases hhv _ hr with h|h;exact .inl ⟨h.1,rfl⟩;exact .inr h) (Int.le_refl _) (Int.le_refl _) (Int.le_refl _);simp[execOp,ho,qG,zaj hu,qH,hx,hb,zcu hinf]
   .exact he.elim
  .exact he.elim
theorem zrt(hT:TabOK P T)(h:Rel c Y a w){t:TypeId}{x:Operand}{lo hi mx:Option Operand}(ho:o.op=.slice t x lo hi mx)(he:qo T C (.slice t x lo hi mx) dst (zm Y.sl) (nd T o Y) (qj Y.hp (nd T o Y)) E):Snd P F T c o Y a w E:=by
 have hw:wr o.op=false:=by simp[wr,ho]
 simp only[qo]at he;obtain⟨i,hmi,he2⟩:=qu _ _ _ he;clear he;have he:=he2;clear he2
 cases hwn:qeu T hi with
 |false=>simp only[hwn]at he;exact zp8 hT h ho hmi he
 |true=>
  simp only[hwn]at he;have hi':=hT.ti _ _ hmi;split at he
  .rename_i id kl l kh hh et k xs e1 e2 e3 hb;split at he
   .rename_i hc hz;have hc:=(zd _ _).1 hc;have hz:=(zd _ _).1 hz;obtain⟨⟨h0,h1,h2⟩,he⟩:=he;obtain⟨hu,inf,hinf,hsz⟩:=hi'.slice hc;have hn:nd T o Y= [id]:=by simp[nd,ho,xt,hwn,e1]
    rw[hn]at hb;have hb:hget Y.hp id=.buf et k xs:=(List.cons.inj hb).1;obtain⟨zl,rfl,el⟩:∃z,lo=some z/\zm Y.sl z=.int kl l:=by
     cases lo with
     |none=>simp at e2
     |some z=>exact⟨z,rfl,by simpa using e2⟩
    obtain⟨zh,rfl,eh⟩:∃z,hi=some z/\zm Y.sl z=.int kh hh:=by
     cases hi with
     |none=>simp at e3
     |some z=>exact⟨z,rfl,by simpa using e3⟩
    refine qk h he hw (fun _ _=>True) fun M pt ow S hg hs=>?_
    have hr:=(hs pt ow (Agr.refl _ _ _)).1;have hx:=zc hr x;rw[e1]at hx;simp only[R]at hx;have hl2:a.eval zl=.int kl l:=by have:=zc hr zl;rw[el]at this;exact this
    have hh2:a.eval zh=.int kh hh:=by have:=zc hr zh;rw[eh]at this;exact this
    obtain⟨hd,how,hbuf⟩:=hg.buf id et k xs hb;have hv:=hx.2 hd how;rcases hbuf with ⟨hq,hxs⟩|⟨b,cap,cs,hq,_,hcap,_⟩
    .subst hxs;simp at h2;omega
    .rw[hq]at hv;refine⟨.slice (some ⟨b,l.toNat*k.size,none⟩) (hh.toNat-l.toNat) (cap-l.toNat),?_,fun pt' ow' hag=>?_⟩
     .have hb2:=zjr (P:=P) (w:=w) (isS:=true) (len:=xs.length) (cap:=cap) (lo:=some (.int kl l)) (hi:=some (.int kh hh)) (.inr ⟨_,rfl⟩) (.inr ⟨_,rfl⟩) h0 O (O:hh<=cap);have hne:¬cap=l.toNat:=O;simp only[execOp,ho,qG,qD,zaj hu,qC,qH,hv,q2,q0,hl2,hh2,hb2,zcu hinf,qE,hsz,hz,Z7 hne,wt,Nat.zero_add]
     .simp only[R];refine⟨⟨_,_,_,rfl⟩,fun h' hh'=>?_⟩;have:=(hag id (by rw[hb];rfl)).2;rw[this,how]at hh';simp at hh';subst hh';exact⟨b,_,cap,_,hq,rfl⟩
   .exact he.elim
  .exact he.elim
end
