/- Maps; parts of slices and strings. -/
import Derived.Test.YtbolipecnhlnnaaGreatDoorVSxM
import Derived.MapKept
set_option linter.all false
open Option renaming map_some->q0,map_none->q1,isSome_none->q2
open Go.Instr renaming sliceBounds->q6,sliceAt->q8,slice->q9,sliceBound->qd,mapUpdate->qn,makeMap->qA,lookup->qC
open Go.Result renaming andThen_ok->q3
open Go.Sem renaming run_bind->q4,run_pure->q5,run->qB
namespace Go.Sx
open Go
section
variable {V V':uy} {kk vk:Elt}
theorem wy.keys:∀ {m:List (kk.T×vk.T)}{es:List MapEntry},wy V kk vk m es->es.map (·.key)=(m.map (·.1)).map (zg1 kk)
 | [],[],_=>rfl
 | [],_::_,h=>by simp[wy]at h
 | _::_,[],h=>by simp[wy]at h
 |(x,y)::m,e::es,h=>by
  simp only[wy]at h;simp only[List.map_cons];rw[h.1.1,wy.keys h.2]
theorem zf6(x:kk.T)(z u:vk.T):∀ {m:List (kk.T×vk.T)}{es:List MapEntry}(n:Nat),wy V kk vk m es->
 (zpo kk x (m.map (·.1)) es n=none/\zds kk x m=false/\zgz kk x z m=z/\zby kk x u m=m++ [(x,u)])\/
 ∃i v y,zpo kk x (m.map (·.1)) es n=some (n+i,v)/\zds kk x m=true/\zdv V vk (zgz kk x z m) v/\(∃e,es[i]? =some e/\e.key=zg1 kk y)/\zl0 kk x y=true/\zby kk x u m=m.set i (x,u)
 | [],[],n,_=>.inl ⟨rfl,rfl,rfl,rfl⟩
 | [],_::_,_,h=>by simp[wy]at h
 | _::_,[],_,h=>by simp[wy]at h
 |(y,v)::m,e::es,n,h=>by
  simp only[wy]at h;simp only[List.map_cons,zpo,zds,zgz,zby]
  cases hk:zl0 kk x y with
  |true=>exact .inr ⟨0,e.val,y,OC,OC,by simp_all,⟨e,OC,h.1.1⟩,hk,OC⟩
  |false=>
   simp only[cond_false,Bool.false_or];rcases zf6 x z u (n+1) h.2 with ⟨h1,h2,h3,h4⟩|⟨i,w,y',h1,h2,h3,⟨e',h4,h4'⟩,h5,h6⟩
   .simp_all
   .exact .inr ⟨i+1,w,y',by grind,h2,h3,⟨e',by grind,h4'⟩,h5,by rw[h6];simp⟩
theorem wy.modify{x:kk.T}{u:vk.T}{f:MapEntry->MapEntry}(hf:∀e,(f e).key =zg1 kk x/\zdv V vk u (f e).val):∀ {m:List (kk.T×vk.T)}{es:List MapEntry}(i:Nat),wy V kk vk m es->wy V kk vk (m.set i (x,u)) (es.modify i f)
 | [],[],_,_=>by simp[wy]
 | [],_::_,_,h=>by simp[wy]at h
 | _::_,[],_,h=>by simp[wy]at h
 |(y,v)::m,e::es,0,h=>by simp_all[wy,List.set_cons_zero,List.modify_zero_cons]
 |(y,v)::m,e::es,i+1,h=>by simp_all[wy,List.set_cons_succ,List.modify_succ_cons,wy.modify]
theorem wy.push{x:kk.T}{u:vk.T}{e':MapEntry}(hf:e'.key=zg1 kk x/\zdv V vk u e'.val):∀ {m:List (kk.T×vk.T)}{es:List MapEntry},wy V kk vk m es->wy V kk vk (m++ [(x,u)]) (es++ [e'])
 | [],[],_=>by simp_all[List.nil_append,wy,trivial]
 | [],_::_,h=>by simp[wy]at h
 | _::_,[],h=>by simp[wy]at h
 |(y,v)::m,e::es,h=>by simp_all[wy,List.cons_append,wy.push]
theorem zp8{ρ:Env}{k:Elt}{a:AV}{v:Value}{x:k.T}(hr:R ρ a v)(hag:qia a k=true)(h1:zf2 a.cs=true)(hl:∀vs,Rs ρ a.cs vs->uk ρ.V (k.cells x) vs):zdv ρ.V k x v:=by
 have hc:=hr.cells h1;have hlf:=hl _ hc;have hsz:v.cells.toList.length=k.size:=by rw[<-hlf.1,qu]
 refine⟨v.cells.toList,hsz,?_,fun j u y hu hy=>hlf.2 j u y hu hy⟩;unfold qia at hag
 cases a with
 |agg l=>
  simp only[aggA]at hag;simp only[R]at hr;obtain⟨vs,rfl,_⟩:=hr;have:k.size≠1:=fun e=>by simp_all
  rw[Z5 this];rfl
 |any=>simp[AV.cs,zf2,AV.one]at h1
 |tup l=>simp[AV.cs,zf2,AV.one]at h1
 | _=>
   simp only[aggA]at hag;have e1:k.size=1:=by
    grind[Nat.beq,zd]
   rw[Z4 e1];have h1':=hr.one rfl;cases v<;>first|rfl|cases h1'
theorem zwq{ρ:Env}{a:AV}{v:Value}{K:kk.T->Prop}(hkk:kk=.str \/kk=.int \/kk=.op)(hr:R ρ a v)(hag:qia a kk=true)(h:wa kk a.cs K):∃x,K x/\v=zg1 kk x:=by
 obtain⟨x,hK,h1,hl⟩:=zaf h;refine⟨x,hK,?_⟩;obtain⟨vs,hlen,hv,hlf⟩:=zp8 hr hag h1 (hl ρ);rcases hkk with rfl|rfl|rfl
 .match vs,hlen with
  | [y],_=>
    have:=hlf 0 _ y (by simp[Elt.cells];rfl) OC;cases this
    rw[hv];rfl
 .match vs,hlen with
  | [y],_=>
    have:=hlf 0 _ y (by simp[Elt.cells];rfl) OC;cases this
    rw[hv];rfl
 .match vs,hlen with
  | [y0,y1,y2,y3,y4,y5],_=>
    have a0:=hlf 0 _ y0 (by simp[Elt.cells];rfl) OC;have a1:=hlf 1 _ y1 (by simp[Elt.cells];rfl) OC;have a2:=hlf 2 _ y2 (by simp[Elt.cells];rfl) OC;have a3:=hlf 3 _ y3 (by simp[Elt.cells];rfl) OC;have a4:=hlf 4 _ y4 (by simp[Elt.cells];rfl) OC;have a5:=hlf 5 _ y5 (by simp[Elt.cells];rfl) OC;cases a0;cases a1;cases a2;cases a3;cases a4;cases a5
    rw[hv];rfl
theorem uk.rs{k:Elt}{x:k.T}{vs:List Value}(hlen:vs.length=k.size)(h:∀(j:Nat)(u:AV)(y:Value),(k.cells x)[j]? =some u->vs[j]? =some y->Leaf V u y)(pt:Nat->Option Nat)(ow:Nat->Option Value):Rs ⟨V,pt,ow⟩ (k.cells x) vs:=
 Rs.of_get (by rw[qu,hlen]) fun i a v ha hv=>R.of_leaf (h i a v ha hv)
end
section
variable {P:Program} {T:Tab} {F:Wf} {C:Con} {c:Ctx} {o:Oper} {σ:St} {a:Act} {w:World} {E:AV->List Blk->Prop} {ids:List Nat} {bs:List Blk} {dst:Nat}
theorem zc7(hT:TabOK P T){t:Nat}{K:Elt->Elt->TI->Prop}(h:zjg T t K):∃kt vt kk vk v,K kk vk v/\P.underlying t=some (.map kt vt)/\KeyOK P kt kk/\TIOK P vt v/\v.sz=vk.size/\(v.agg=true<->vk.size≠1):=by
 unfold zjg at h;obtain⟨i,hmi,h⟩:=qx _ _ _ h;split at h
 .rename_i sz fs kt esz vt ik0 ik z by_ eq;obtain⟨j,hmj,h⟩:=qx _ _ _ h;split at h
  .rename_i kk _ _ _ _;obtain⟨v,hmv,h⟩:=qx _ _ _ h;split at h
   .rename_i vk hvk;split at h
    .rename_i hv;have hi:=hT.ti _ _ hmi;obtain⟨d,hd,_,_,hdesc⟩:=hi.und;have hdesc:d=.map kt vt:=hdesc;refine⟨kt,vt,kk,vk,v,h,by rw[hd,hdesc],hT.key _ _ hmi rfl _ _ hmj rfl,hT.ti _ _ hmv,?_⟩;grind[vOk,zd,zy]
    grind
   grind
  grind
 grind
theorem zos(hT:TabOK P T)(hlo:Nat.ble (wj o) 99999=true)(h:Rel c σ a w){t:TypeId}{r:Option Operand}(ho:o.op=.makeMap t r)(he:qw T C (.makeMap t r) (wj o) (zo σ.sl) (nd T o σ) (qi σ.hp (nd T o σ)) E):Snd P F T c o σ a w E:=by
 have hn:nd T o σ= [wj o]:=by simp[nd,ho,zat]
 rw[hn,ji]at he;simp only[qw]at he;obtain⟨kt,vt,kk,vk,v,he,hu,hkey,hti,_⟩:=zc7 hT he;split at he
 .rename_i hf hres;simp at hf;refine⟨_,_,he,fun Q=>?_⟩;rw[hn];obtain⟨M,pt,ow,S,hg,hs,hr⟩:=h.own;refine zak (v:=.map (some w.heap.size)) (w':=w.alloc (.map #[] 0)) ?_ (h.newB hf (by have:=Nat.le_of_ble_eq_true hlo;omega) (.map kk vk []) (.map #[] 0) _ _ (by simp[wr,ho]) rfl
   (fun M pt ow S hg hs V' hV=>⟨w.heap.size,#[],0,ja _ _ _,by show(w.heap.push _)[w.heap.size]? =_;simp,by simp[wy],rfl,OC⟩) (fun ρ hρ=>?_) fun l e=>by cases e)
  .cases r with
   |none=>simp[execOp,ho,qA,newObj,qB]
   |some x=>
    simp only[q0,resA]at hres;split at hres
    .simp_all
    .rename_i k n hx;have hx':=zc hr x
     simp_all[R,execOp,qA,zb0,asInt,asIntOf,newObj,qB]
    .cases hres
  simp_all[R]
 grind
theorem znp{o:Oper}{σ:St}{x:AV}{b:Blk}{l:List Blk}(hn:nd T o σ=mid x)(h:qi σ.hp (nd T o σ)=b::l):∃i,x=.mp i/\hget σ.hp i=b/\nd T o σ= [i]:=by
 rw[hn]at h⊢
 cases x with
 |mp i=>simp only[mid,qi]at h⊢;simp_all
 | _=>simp[mid,qi]at h
theorem zh3{P:Program}{w:World}{r:Nat}{es:Array MapEntry}{clock:Nat}(hb:w.heap[r]? =some (.map es clock)):(getObj r).run P w=.ok (.map es clock) w:=by
 simp[getObj,qB,hb]
theorem zvc{P:Program}{w:World}{r:Nat}{es:Array MapEntry}{clock:Nat}(o:Obj)(hb:w.heap[r]? =some (.map es clock)):(setObj r o).run P w=.ok () {w with heap:=w.heap.setIfInBounds r o}:=by
 simp[setObj,qB,hb]
theorem qki{P:Program}{t:TypeId}{kk:Elt}(h:KeyOK P t kk):kk=.str \/kk=.int \/kk=.op :=h.kind
theorem qbt.push{es:Array MapEntry}{clk:Nat}(h:qbt es clk)(e:MapEntry)(he:e.born=clk):qbt (es.push e) (clk+1):=by
 refine⟨by simp[h.1],fun i x hx=>?_⟩;rw[Array.getElem?_push]at hx;split at hx
 .rename_i e1;simp only[Option.some.injEq]at hx;subst hx;rw[he,h.1,e1]
 .exact h.2 i x hx
theorem qbt.modify{es:Array MapEntry}{clk:Nat}{f:MapEntry->MapEntry}(h:qbt es clk)(hf:∀e,(f e).born =e.born)(i:Nat):qbt (es.modify i f) clk:=by
 refine⟨by simp[h.1],fun j x hx=>?_⟩;rw[Array.getElem?_modify]at hx;split at hx
 .cases hy:es[j]? with
  |none=>simp_all
  |some y=>rw[hy]at hx;simp only[q0,Option.some.injEq]at hx;rw[<-hx,hf,h.2 j y hy]
 .exact h.2 j x hx
theorem wy.len{V:uy}{kk vk:Elt}:∀ {m:List (kk.T×vk.T)}{es:List MapEntry},wy V kk vk m es->es.length=m.length:=fun h=>by
 have:=congrArg List.length h.keys;grind
theorem zuj(hT:TabOK P T)(h:Rel c σ a w){cl:Call}(ho:o.op=.call cl)(hcl:cl.callee=.builtin .len){x:Operand}{t:TypeId}(ha:cl.args= #[x])(ht:cl.argTypes= #[t])(hm:isMp (zo σ.sl x)=true)
 (he:zjg T t (fun _ _ _=>ztb (qi σ.hp (nd T o σ)) E)):Snd P F T c o σ a w E:=by
 have hw:wr o.op=false:=by simp[wr,ho,hcl]
 obtain⟨kt,vt,kk,vk,v,he,hu,_⟩:=zc7 hT he;obtain⟨id,hid⟩:∃id,zo σ.sl x=.mp id:=by
  cases e:zo σ.sl x<;>rw[e]at hm<;>first|exact⟨_,rfl⟩|cases hm
 have hn:nd T o σ= [id]:=by simp_all[nd,zat]
 rw[hn,ji]at he;unfold ztb at he;split at he
 .rename_i kk' vk' m hb;simp at hb;have hrun:∀v,(Builtin.len_ #[t] o.type #[a.eval x]).run P w=.ok v w->(execOp a.eval o).run P w=.ok (.value v) w:=fun v hv=>by
   simp_all[execOp,resolve,invoke,builtin]
  obtain⟨M,pt,ow,S,hg,hs,hr⟩:=h.own;have hx:=zc hr x;rw[hid]at hx;simp only[R]at hx;obtain⟨b,es,clk,hb1,hb2,hb3⟩:=hg.mpo id _ _ m hb;have hv:=hx.2 b hb1;refine wg h he hw (.int .i64 m.length) (hrun _ ?_) fun _ _ _ _ _ _ _ _ _=>by simp only[R]
  have hl:es.size=m.length:=by have:=hb3.1.len;omega
  simp[Builtin.len_,hv,zb0 hu,zh3 hb2,goInt,hl]
 grind
theorem zst(hT:TabOK P T)(h:Rel c σ a w){t:TypeId}{x i:Operand}{ok:Bool}(ho:o.op=.lookup t x i ok)(he:qw T C (.lookup t x i ok) dst (zo σ.sl) (nd T o σ) (qi σ.hp (nd T o σ)) E):Snd P F T c o σ a w E:=by
 have hw:wr o.op=false:=by simp[wr,ho]
 have hn:nd T o σ=mid (zo σ.sl x):=by simp[nd,ho,zat]
 simp only[qw,lkOp]at he;obtain⟨kt,vt,kk,vk,v,he,hu,hkey,hti,hsz,hag⟩:=zc7 hT he;split at he
 .rename_i id kk' vk' m e1 hbs;obtain⟨id',e1',hget,hn'⟩:=znp hn hbs;rw[e1]at e1';cases e1'
  split at he
  .rename_i hk hv hagk;have hk:=znn hk;have hv:=znn hv;subst hk;subst hv;have hkk:=qki hkey;obtain⟨M,pt,ow,S,hg,hs,hr⟩:=h.own;have hi:=zc hr i;obtain⟨key,he,hkv⟩:=zwq hkk hi hagk he;obtain⟨z,he,hz1,hz⟩:=zaf he;obtain⟨u,he,_,hru⟩:=zfg hti he;obtain⟨inf,z0,hinf,hisz,_,hzero,hz0sz,hz0⟩:=hti.inf;have hzag:=hti.zag inf z0 hinf hzero;have key:∀M pt ow S,Good c M pt ow S σ.hp w->zgo σ a w M pt ow->∃y,(execOp a.eval o).run P w=.ok (.value (match ok with|true=>.tuple #[y,.bool (zds kk key m)]|false=>y)) w/\∀pt' ow',R ⟨zu w M,pt',ow'⟩ u y:=by
    intro M pt ow S hg hs;have hx:=zc (hs pt ow (Agr.refl _ _ _)).1 x;rw[e1]at hx;simp only[R]at hx;obtain⟨b,es,clk,hb,hcs,hmo,_⟩:=hg.mpo id _ _ m hget;have hxe:=hx.2 b hb;have hfin:∀y,zdv (zu w M) vk (zgz kk key z m) y->∀pt' ow',R ⟨zu w M,pt',ow'⟩ u y:=by
     rintro y ⟨vs,hlen,hy,hlf⟩ pt' ow';have h1:=uk.rs hlen hlf pt' ow'
     simp_all[zu,List.drop_zero,List.take_of_length_le,qu,Nat.le_refl,Z4,absurd,Z5]
    rcases zf6 key z z 0 hmo with ⟨h1,h2,h3,_⟩|⟨i0,y,ky,h1,h2,h3,_⟩
    .refine⟨z0,?_,hfin z0 ?_⟩
     .simp only[execOp,ho,hxe,hkv,qC,q4,q5,zb0 hu,q3,zh3 hcs,hkey.chk,hkey.fnd _ _ _ _ hmo.keys,h1,h2,zzz hinf hzero];grind
     .rw[h3];have hrz:=hz0 ⟨zu w M,pt,ow⟩;have hlf:=hz ⟨zu w M,pt,ow⟩ _ hrz;refine⟨z0.cells.toList,by simp_all,?_,fun j u y hu hy=>hlf.2 j u y hu hy⟩;by_cases e:vk.size=1
      .rw[Z4 e];have:v.agg=false:=by
        simp_all
       rw[this]at hzag;cases z0<;>first|rfl|cases hzag
      .rw[Z5 e];rw[hag.2 e]at hzag;cases z0<;>first|rfl|cases hzag
    .refine⟨y,?_,hfin y h3⟩;simp only[execOp,ho,hxe,hkv,qC,q4,q5,zb0 hu,q3,zh3 hcs,hkey.chk,hkey.fnd _ _ _ _ hmo.keys,h1,h2];grind
   obtain⟨y0,hy0,_⟩:=key M pt ow S hg hs
   cases ok with
   |true=>
    refine wg h he hw _ hy0 fun M' pt' ow' S' hg' hs' pt'' ow'' hag'=>?_
    obtain⟨y1,hy1,hR⟩:=key M' pt' ow' S' hg' hs';rw[hy0]at hy1;simp at hy1;subst hy1;simp only[R];exact⟨_,rfl,by simp_all[Rs,R,trivial]⟩
   |false=>
    refine wg h he hw _ hy0 fun M' pt' ow' S' hg' hs' pt'' ow'' hag'=>?_
    grind
  grind
 grind
theorem Wr.obj(w:World)(b:Nat)(ob:Obj):Wr w {w with heap:=w.heap.setIfInBounds b ob} b:=
 ⟨rfl,rfl,rfl,OC,fun b' hb'=>by grind⟩
theorem qcf(hT:TabOK P T)(h:Rel c σ a w){t:TypeId}{x i y:Operand}(hw:wr o.op=true)(hn:nd T o σ=mid (zo σ.sl x))(hex:execOp a.eval o=execOp a.eval {o with op:=.mapUpdate t x i y})(he:qw T C (.mapUpdate t x i y) dst (zo σ.sl) (nd T o σ) (qi σ.hp (nd T o σ)) E):Snd P F T c o σ a w E:=by
 simp only[qw,qj1]at he;obtain⟨kt,vt,kk,vk,v,he,hu,hkey,hti,hsz,hag⟩:=zc7 hT he;split at he
 .rename_i id kk' vk' m e1 hbs;obtain⟨id',e1',hget,hn'⟩:=znp hn hbs;rw[e1]at e1';cases e1'
  split at he
  .rename_i hk hv hagk hagv;have hk:=znn hk;have hv:=znn hv;subst hk;subst hv;have hkk:=qki hkey;obtain⟨M,pt,ow,S,hg,hs,hr⟩:=h.own;have hi:=zc hr i;obtain⟨key,he,hkv⟩:=zwq hkk hi hagk he;obtain⟨u,he,hu1,hul⟩:=zaf he;refine⟨_,_,he,fun Q=>?_⟩;rw[hn'];have hval:∀M pt ow,zgo σ a w M pt ow->zdv (zu w M) vk u (a.eval y):=fun M pt ow hs=>
    zp8 (zc (hs pt ow (Agr.refl _ _ _)).1 y) hagv hu1 (hul _)
   have hx:=zc hr x;rw[e1]at hx;simp only[R]at hx;obtain⟨b,es,clk,hb,hcs,hmo,hso⟩:=hg.mpo id _ _ m hget;have hxe:=hx.2 b hb;have hbs':b<w.heap.size:=zj hcs;obtain⟨es',clk',hrun,hso',hes⟩:∃es' clk',(execOp a.eval o).run P w=.ok .skip {w with heap:=w.heap.setIfInBounds b (.map es' clk')}/\qbt es' clk'/\
    ∀V:uy,zdv V vk u (a.eval y)->wy V kk vk m es.toList->wy V kk vk (zby kk key u m) es'.toList:=by
    rcases zf6 key u u 0 hmo with ⟨h1,h2,h3,h4⟩|⟨i0,y0,ky,h1,h2,h3,⟨e,hei,hek⟩,h5,h6⟩
    .refine⟨es.push {key:=zg1 kk key,val:=a.eval y,born:=clk},clk+1,?_,hso.push _ rfl,fun V hV hm=>?_⟩
     .rw[hex];simp only[execOp,hxe,hkv,qn,q4,q5,zb0 hu,q3,zh3 hcs,hkey.chk,hkey.fnd _ _ _ _ hmo.keys,h1,zvc _ hcs]
     .rw[h4,Array.toList_push];exact hm.push ⟨rfl,hV⟩
    .have hst:(Instr.keyThatStays (((es[i0]?).map (·.key)).getD (zg1 kk key)) (zg1 kk key)).run P w=.ok (zg1 kk key) w:=by
      have:es[i0]? =some e:=by grind
      rw[this];simp only[q0,Option.getD_some,hek];exact hkey.stays w key ky h5
     refine⟨es.modify i0 fun e=> {e with key:=zg1 kk key,val:=a.eval y},clk,?_,qbt.modify (f:=fun e=> {e with key:=zg1 kk key,val:=a.eval y}) hso (fun _=>rfl) i0,fun V hV hm=>?_⟩
     .simp only[Nat.zero_add]at h1;rw[hex];simp only[execOp,hxe,hkv,qn,q4,q5,zb0 hu,q3,zh3 hcs,hkey.chk,hkey.fnd _ _ _ _ hmo.keys,h1,hst,zvc _ hcs]
     .rw[h6,Array.toList_modify];exact hm.modify (fun e=>⟨rfl,hV⟩) i0
   refine ztz hrun (h.writeB (Wr.obj w b _) hw _ rfl fun M' pt' ow' S' hg' hs'=>?_);obtain⟨b2,es2,clk2,hb2,hcs2,hmo2,_⟩:=hg'.mpo id _ _ m hget;have hx':=zc (hs' pt' ow' (Agr.refl _ _ _)).1 x;rw[e1]at hx';simp only[R]at hx';have:=hx'.2 b2 hb2;rw[hxe]at this;simp at this;subst this;rw[hcs]at hcs2;simp at hcs2;obtain⟨rfl,rfl⟩:=hcs2;rw[hget];refine⟨by simp[bl,hb2],rfl,rfl,rfl,rfl,fun V' hV=>⟨b,es',clk',hb2,by simp_all,hes V' ((hval M' pt' ow' hs').mono hV) (hmo2.mono hV),hso'⟩,fun l e=>by cases e⟩
  grind
 grind
theorem zk4(hT:TabOK P T)(h:Rel c σ a w){t:TypeId}{x i y:Operand}(ho:o.op=.mapUpdate t x i y)(he:qw T C (.mapUpdate t x i y) dst (zo σ.sl) (nd T o σ) (qi σ.hp (nd T o σ)) E):Snd P F T c o σ a w E:=
 qcf hT h (by simp[wr,ho]) (by simp[nd,ho,zat]) (by rw[<-ho]) he
theorem zsu(hT:TabOK P T)(h:Rel c σ a w){t:TypeId}{x i y:Operand}(ho:o.op=.insert t x i y)(he:qw T C (.insert t x i y) dst (zo σ.sl) (nd T o σ) (qi σ.hp (nd T o σ)) E):Snd P F T c o σ a w E:=
 qcf (C:=C) (dst:=dst) hT h (by simp[wr,ho]) (by simp[nd,ho,zat]) (by simp only[execOp,ho]) he
theorem zh4{k:IntKind}{n:Int}{y:Nat}{code:BoundsCode}(h0:0<=n)(h1:n<=y):(qd (.int k n) y code).run P w=.ok n.toNat w:=by
 simp[qd,asIntOf,h0,h1]
theorem zlf{isS:Bool}{len cap:Nat}{lo hi:Option Value}{l h:Int}(hl:(lo=none/\l=0)\/∃k,lo=some (.int k l))(hh:(hi=none/\h=len)\/∃k,hi=some (.int k h))(h0:0<=l)(h1:l<=h)(h2:h<=cap):
 (q6 isS len cap lo hi none).run P w=.ok (l.toNat,h.toNat,cap) w:=by
 rcases hl with ⟨rfl,rfl⟩|⟨k,rfl⟩<;>rcases hh with ⟨rfl,rfl⟩|⟨k',rfl⟩
 .simp[q6]
 .simp_all[q6,q4,q5,q3,zh4]
 .simp_all[zh4,q6,q4,q5,q3,q2,Bool.false_eq_true,if_false]
 .have:=zh4 (P:=P) (w:=w) (k:=k) (y:=h.toNat) (code:=.sliceB) h0 O;simp only[q6,q4,q5,q3,zh4 (O:0<=h) h2,q2,Bool.false_eq_true,if_false,this]
theorem zz3{isS:Bool}{len cap:Nat}{lo:Option Value}{l h m:Int}{k2 k3:IntKind}(hl:(lo=none/\l=0)\/∃k,lo=some (.int k l))(h0:0<=l)(h1:l<=h)(h2:h<=m)(h3:m<=cap):
 (q6 isS len cap lo (some (.int k2 h)) (some (.int k3 m))).run P w=.ok (l.toNat,h.toNat,m.toNat) w:=by
 have e1:=zh4 (P:=P) (w:=w) (k:=k3) (y:=cap) (code:=if isS then .slice3Acap else .slice3Alen) (O:0<=m) h3;have e2:=zh4 (P:=P) (w:=w) (k:=k2) (y:=m.toNat) (code:=.slice3B) (O:0<=h) O;rcases hl with ⟨rfl,rfl⟩|⟨k,rfl⟩
 .simp_all[q6,q4,q5,q3]
 .have e3:=zh4 (P:=P) (w:=w) (k:=k) (y:=h.toNat) (code:=.slice3C) h0 O
  simp_all[q6,q4,q5,q3,Option.isSome_some,if_true]
theorem uu{x:Option Operand}{d:Int}{K:Int->Prop}(h:zcr (x.map (zo σ.sl)) d K):∃n,K n/\∀ρ:Env,Rs ρ σ.sl a.tmps.toList->(x.map a.eval=none/\n=d)\/∃k,x.map a.eval=some (.int k n):=by
 cases x with
 |none=>exact⟨d,h,fun _ _=>.inl ⟨rfl,rfl⟩⟩
 |some y=>
  simp only[q0,zcr]at h;split at h
  .simp_all
  .rename_i k n e;simp at e;refine⟨n,h,fun ρ hr=>.inr ⟨k,?_⟩⟩;have:=zc hr y
   simp_all[R]
  grind
theorem zsr(hT:TabOK P T)(h:Rel c σ a w){t:TypeId}{x:Operand}{lo hi mx:Option Operand}(ho:o.op=.slice t x lo hi mx){i:TI}(hmi:(t,i)∈T.ty)(he:qht i (zo σ.sl x) (lo.map (zo σ.sl)) (hi.map (zo σ.sl)) (mx.map (zo σ.sl)) E):Snd P F T c o σ a w E:=by
 have hw:wr o.op=false:=by simp[wr,ho]
 have hi':=hT.ti _ _ hmi
 cases mx with
 |some y=>
  simp only[qht,q0]at he;split at he
  .rename_i k xs k3 m k2 hh e1 e3 e2;split at he
   .rename_i hc hz;have hc:=(zd _ _).1 hc;have hz:=(zd _ _).1 hz;obtain⟨l,he,hl⟩:=uu (a:=a) he;obtain⟨⟨h0,h1,h2,h3⟩,heE⟩:=he;obtain⟨hu,inf,hinf,hsz⟩:=hi'.slice hc;obtain⟨z,rfl,e4⟩:∃z,hi=some z/\zo σ.sl z=.int k2 hh:=by
     simp_all
    refine qs h heE hw (fun _ _=>True) fun M pt ow S hg hs=>?_
    have hr:=(hs pt ow (Agr.refl _ _ _)).1;have hx:=zc hr x;rw[e1]at hx;simp only[R]at hx;have hz2:a.eval z=.int k2 hh:=by have:=zc hr z;rw[e4]at this;exact this
    have hz3:a.eval y=.int k3 m:=by have:=zc hr y;rw[e3]at this;exact this
    cases hv:a.eval x<;>rw[hv]at hx<;>cases hx
    rename_i ao n cap b p hel ha hn hm hcap;subst hn;refine⟨.slice (if m.toNat=l.toNat then ao else ao.map (·.add (l.toNat*k.size))) (hh.toNat-l.toNat) (m.toNat-l.toNat),?_,fun pt' ow' _=>?_⟩
    .have hb:=zz3 (P:=P) (w:=w) (isS:=true) (len:=xs.length) (cap:=cap) (k2:=k2) (k3:=k3) (hl _ hr) h0 h1 h2 O;simp only[execOp,ho,q8,q4,zb0 hu,q3,q9,hv,q0,hz2,hz3,hb,zea hinf,q5,hsz,hz]
    .simp only[R];have hlen:((xs.take hh.toNat).drop l.toNat).length =hh.toNat-l.toNat:=OE;refine .sl k _ _ _ _ b (p+l.toNat*k.size) hlen.symm O O (fun hne=>?_) fun j x hx=>?_
     .have hlt:l.toNat<hh.toNat:=by
       grind
      have hao:=ha (by grind);grind[kg]
     grind
   grind
  grind
 |none=>
  simp only[qht,q1]at he;split at he
  .rename_i k xs e1;split at he
   .rename_i hc hz;have hc:=(zd _ _).1 hc;have hz:=(zd _ _).1 hz;obtain⟨l,he,hl⟩:=uu (a:=a) he;obtain⟨hh,he,hhv⟩:=uu (a:=a) he;obtain⟨⟨h0,h1,h2⟩,he⟩:=he;obtain⟨hu,inf,hinf,hsz⟩:=hi'.slice hc;refine qs h he hw (fun _ _=>True) fun M pt ow S hg hs=>?_
    have hr:=(hs pt ow (Agr.refl _ _ _)).1;have hx:=zc hr x;rw[e1]at hx;simp only[R]at hx;cases hv:a.eval x<;>rw[hv]at hx<;>cases hx
    rename_i ao n cap b p hel ha hn hm hcap;subst hn;refine⟨.slice (if cap=l.toNat then ao else ao.map (·.add (l.toNat*k.size))) (hh.toNat-l.toNat) (cap-l.toNat),?_,fun pt' ow' _=>?_⟩
    .have hb:=zlf (P:=P) (w:=w) (isS:=true) (len:=xs.length) (cap:=cap) (hl _ hr) (hhv _ hr) h0 h1 O;simp only[execOp,ho,q8,q4,zb0 hu,q3,q9,hv,q1,hb,zea hinf,q5,hsz,hz]
    .simp only[R];have hlen:((xs.take hh.toNat).drop l.toNat).length =hh.toNat-l.toNat:=OE;refine .sl k _ _ _ _ b (p+l.toNat*k.size) hlen.symm O O (fun hne=>?_) fun j x hx=>?_
     .have hlt:l.toNat<hh.toNat:=by
       grind
      have hao:=ha (by grind);grind[kg]
     grind
   grind
  .rename_i s e1;split at he
   .rename_i hc;have hc:=(zd _ _).1 hc;obtain⟨l,he,hl⟩:=uu (a:=a) he;obtain⟨hh,he,hhv⟩:=uu (a:=a) he;obtain⟨⟨h0,h1,h2⟩,he⟩:=he;have hu:=hi'.string hc;refine qs h he hw (fun _ _=>True) fun M pt ow S hg hs=>?_
    have hr:=(hs pt ow (Agr.refl _ _ _)).1;have hx:=zc hr x;rw[e1]at hx;simp only[R]at hx;refine⟨.string ((⟨s.toArray⟩:ByteArray).extract l.toNat hh.toNat),?_,fun pt' ow' _=>?_⟩
    .have hsz:(⟨s.toArray⟩:ByteArray).size =s.length:=by simp[ByteArray.size]
     have hb:=zlf (P:=P) (w:=w) (isS:=false) (len:=s.length) (cap:=s.length) (hl _ hr) (hhv _ hr) h0 h1 O
     simp_all[execOp,q8,zb0,q9]
    .simp only[R]
     congr 1
     apply ByteArray.ext
     simp_all[List.drop_take]
   grind
  .rename_i e1;split at he
   .rename_i hc;have hc:=(zd _ _).1 hc;obtain⟨l,he,hl⟩:=uu (a:=a) he;obtain⟨hh,he,hhv⟩:=uu (a:=a) he;obtain⟨⟨hl0,hh0⟩,he2⟩:=he;subst hl0;subst hh0;obtain⟨hu,inf,hinf,hsz⟩:=hi'.slice hc;refine qs h he2 hw (fun _ _=>True) fun M pt ow S hg hs=>⟨.slice none 0 0,?_,fun pt' ow' _=>by simp[R]⟩
    have hr:=(hs pt ow (Agr.refl _ _ _)).1;have hx:=zc hr x;rw[e1]at hx;simp only[R]at hx;have hb:=zlf (P:=P) (w:=w) (isS:=true) (len:=0) (cap:=0) (hl _ hr) (by rcases hhv _ hr with h|h;exact .inl ⟨h.1,rfl⟩;exact .inr h) (Int.le_refl _) (Int.le_refl _) (Int.le_refl _)
    simp_all[execOp,q8,zb0,q9,zea]
   grind
  grind
theorem zui(hT:TabOK P T)(h:Rel c σ a w){t:TypeId}{x:Operand}{lo hi mx:Option Operand}(ho:o.op=.slice t x lo hi mx)(he:qw T C (.slice t x lo hi mx) dst (zo σ.sl) (nd T o σ) (qi σ.hp (nd T o σ)) E):Snd P F T c o σ a w E:=by
 have hw:wr o.op=false:=by simp[wr,ho]
 simp only[qw]at he;obtain⟨i,hmi,he2⟩:=qx _ _ _ he;clear he;have he:=he2;clear he2
 cases hwn:qkk T hi with
 |false=>grind[zsr]
 |true=>
  simp only[hwn]at he;have hi':=hT.ti _ _ hmi;split at he
  .rename_i id kl l kh hh et k xs e1 e2 e3 hb;split at he
   .rename_i hc hz;have hc:=(zd _ _).1 hc;have hz:=(zd _ _).1 hz;obtain⟨⟨h0,h1,h2⟩,he⟩:=he;obtain⟨hu,inf,hinf,hsz⟩:=hi'.slice hc;have hn:nd T o σ= [id]:=by grind[nd,zat]
    rw[hn]at hb;have hb:hget σ.hp id=.buf et k xs:=(List.cons.inj hb).1;obtain⟨zl,rfl,el⟩:∃z,lo=some z/\zo σ.sl z=.int kl l:=by
     simp_all
    obtain⟨zh,rfl,eh⟩:∃z,hi=some z/\zo σ.sl z=.int kh hh:=by
     simp_all
    refine qs h he hw (fun _ _=>True) fun M pt ow S hg hs=>?_
    have hr:=(hs pt ow (Agr.refl _ _ _)).1;have hx:=zc hr x;rw[e1]at hx;simp only[R]at hx;have hl2:a.eval zl=.int kl l:=by have:=zc hr zl;rw[el]at this;exact this
    have hh2:a.eval zh=.int kh hh:=by have:=zc hr zh;rw[eh]at this;exact this
    obtain⟨hd,how,hbuf⟩:=hg.buf id et k xs hb;have hv:=hx.2 hd how;rcases hbuf with ⟨hq,hxs⟩|⟨b,cap,cs,hq,_,hcap,_⟩
    .grind
    .rw[hq]at hv;refine⟨.slice (some ⟨b,l.toNat*k.size,none⟩) (hh.toNat-l.toNat) (cap-l.toNat),?_,fun pt' ow' hag=>?_⟩
     .have hb2:=zlf (P:=P) (w:=w) (isS:=true) (len:=xs.length) (cap:=cap) (lo:=some (.int kl l)) (hi:=some (.int kh hh)) (.inr ⟨_,rfl⟩) (.inr ⟨_,rfl⟩) h0 O (O:hh<=cap);have hne:¬cap=l.toNat:=O;simp only[execOp,ho,q8,q4,zb0 hu,q3,q9,hv,q1,q0,hl2,hh2,hb2,zea hinf,q5,hsz,hz,Z5 hne,kg,Nat.zero_add]
     .simp only[R];refine⟨⟨_,_,_,rfl⟩,fun h' hh'=>?_⟩;have:=(hag id (by rw[hb];rfl)).2;grind
   grind
  grind
end
