/- More operations that leave the world as it is. -/
import Derived.Test.YtlbmkjbgfkgcmaaGreatDoorTSxE
set_option linter.all false
open List renaming getElem?_eq_some_iff->q0,drop_eq_getElem_cons->q1
namespace Go.Sx
open Go
section
variable {P:Program} {T:Tab} {F:Wf} {C:Con} {c:Ctx} {o:Oper} {Y:St} {a:Act} {w:World} {E:AV->List Blk->Prop} {ids:List Nat} {bs:List Blk} {dst:Nat}
theorem qk(h:Rel c Y a w){r:AV}(hE:E r bs)(hw:wr o.op=false)(f:Env->Value->Prop)
 (hf:∀M pt ow S,Good c M pt ow S Y.hp w->zdj Y a w M pt ow->∃v,(execOp a.eval o).run P w=.ok (.value v) w/\∀pt' ow',Agr Y.hp pt pt' ow ow'->R ⟨zo w M,pt',ow'⟩ r v):Snd P F T c o Y a w E:=by
 obtain⟨M,pt,ow,S,hg,hs,_⟩:=h.own;obtain⟨v,hv,_⟩:=hf M pt ow S hg hs;refine qy h hE hw v hv fun M' pt' ow' S' hg' hs' pt'' ow'' hag=>?_
 obtain⟨v',hv',hr'⟩:=hf M' pt' ow' S' hg' hs';rw[hv]at hv';simp at hv';subst hv';exact hr' _ _ hag
theorem zk0(h:Rel c Y a w){x:Operand}(ho:o.op=.nilCheck x)(he:qo T C (.nilCheck x) dst (zm Y.sl) ids bs E):Snd P F T c o Y a w E:=by
 have hw:wr o.op=false:=by simp[wr,ho]
 simp only[qo]at he;have key:∀M pt ow(_:Nat->Prop),zdj Y a w M pt ow->(∃p,a.eval x=.pointer (some p))->(execOp a.eval o).run P w=.ok (.value (a.eval x)) w:=fun M pt ow S _ hp=>by
  obtain⟨p,hp⟩:=hp;simp[execOp,ho,hp]
 split at he
 .rename_i i off e;refine qk h he hw (fun _ _=>True) fun M pt ow S hg hs=>⟨_,key M pt ow S hs ?_,fun pt' ow' hag=>by have:=zc (hs pt' ow' hag).1 x;rwa [e]at this⟩
  have:=zc (hs pt ow (Agr.refl _ _ _)).1 x;rw[e]at this;exact this.1
 .rename_i k y off e;refine qk h he hw (fun _ _=>True) fun M pt ow S hg hs=>⟨_,key M pt ow S hs ?_,fun pt' ow' hag=>by have:=zc (hs pt' ow' hag).1 x;rwa [e]at this⟩
  have:=zc (hs pt ow (Agr.refl _ _ _)).1 x;rw[e]at this;simp only[R]at this;obtain⟨b,p,hp,_⟩:=this;exact⟨_,hp⟩
 .rename_i i s j off e;refine qk h he hw (fun _ _=>True) fun M pt ow S hg hs=>⟨_,key M pt ow S hs ?_,fun pt' ow' hag=>by have:=zc (hs pt' ow' hag).1 x;rwa [e]at this⟩
  have:=zc (hs pt ow (Agr.refl _ _ _)).1 x;rw[e]at this;exact this.1
 .exact he.elim
theorem qdt(h:Rel c Y a w){u:UnOp}{t:TypeId}{x:Operand}(ho:o.op=.unOp u t x)(he:qo T C (.unOp u t x) dst (zm Y.sl) ids bs E):Snd P F T c o Y a w E:=by
 have hw:wr o.op=false:=by simp[wr,ho]
 simp only[qo]at he;split at he
 .rename_i b e;refine qk h he hw (fun _ _=>True) fun M pt ow S hg hs=>⟨.bool !b,?_,fun pt' ow' hag=>by simp[R]⟩
  have:=zc (hs pt ow (Agr.refl _ _ _)).1 x;rw[e]at this;simp only[R]at this;simp[execOp,ho,this,Op.unary]
 .rename_i k n e;refine qk h he hw (fun _ _=>True) fun M pt ow S hg hs=>⟨.int k (k.wrap (0-n)),?_,fun pt' ow' hag=>by simp[R]⟩
  have:=zc (hs pt ow (Agr.refl _ _ _)).1 x;rw[e]at this;simp only[R]at this;simp[execOp,ho,this,Op.unary,Op.intArith]
 .exact he.elim
theorem zk1(h:Rel c Y a w){f:Fn}{first caps:Array Operand}(ho:o.op=.makeFunc f first caps)(he:qo T C (.makeFunc f first caps) dst (zm Y.sl) ids bs E):Snd P F T c o Y a w E:=by
 have hw:wr o.op=false:=by simp[wr,ho]
 simp only[qo]at he;split at he
 .rename_i g hf;have hf':first= #[]:=by simpa using hf
  refine qk h he hw (fun _ _=>True) fun M pt ow S hg hs=>⟨.func (.func g) #[] (caps.map a.eval),?_,fun pt' ow' hag=>?_⟩
  .simp[execOp,ho,Instr.makeFunc,hf']
  .simp only[R];exact⟨_,rfl,by simpa using zj4 (hs pt' ow' hag).1 caps.toList⟩
 .exact he.elim
theorem zcq{P:Program}:∀ {F:List Field}{fs:List (Nat×Nat×Bool)}{f:Nat}{k:Nat->Nat->Bool->Prop},zc0 P F fs->zcy fs f k->
 ∃fd s ag inf d,F[f]? =some fd/\k fd.offset s ag/\0<s/\P.info? fd.type=some inf/\inf.size=s/\P.underlying fd.type=some d/\zmn d=ag/\(ag=false->s=1)/\fs[f]? =some (fd.offset,s,ag)
 | [],[],_,_,_,h=>by simp[zcy]at h
 | [],_::_,_,_,h,_=>by simp[zc0]at h
 | _::_,[],_,_,h,_=>by simp[zc0]at h
 |fd::F,(o,s,ag)::fs,0,k,h,hk=>by
  simp only[zc0]at h;obtain⟨⟨h1,h2,inf,d,h3,h4,h5,h6,h7⟩,_⟩:=h;simp only[zcy]at hk;exact⟨fd,s,ag,inf,d,OC,by rw[h1];exact hk,h2,h3,h4,h5,h6,h7,by simp[h1]⟩
 |fd::F,(o,s,ag)::fs,f+1,k,h,hk=>by
  simp only[zc0]at h;simp only[zcy]at hk;obtain⟨fd',s',ag',inf,d,h1,h2⟩:=zcq h.2 hk;exact⟨fd',s',ag',inf,d,by simpa using h1,by simpa using h2⟩
theorem TIOK.struct{P:Program}{t:TypeId}{i:TI}(h:TIOK P t i)(hc:i.cls=2):∃F,P.underlying t=some (.struct F)/\zc0 P F.toList i.fs/\(i.eq=true->zxy P t i.z):=by
 obtain⟨d,h1,_,_,h2⟩:=h.und;simp only[zep,hc]at h2;obtain⟨F,rfl,hF⟩:=h2;exact⟨F,h1,hF⟩
theorem TIOK.slice{P:Program}{t:TypeId}{i:TI}(h:TIOK P t i)(hc:i.cls=3):P.underlying t=some (.slice i.e)/\∃inf,P.info? i.e=some inf/\inf.size=i.esz:=by
 obtain⟨d,h1,_,_,h2⟩:=h.und;simp only[zep,hc]at h2;obtain⟨rfl,hF⟩:=h2;exact⟨h1,hF⟩
theorem TIOK.array{P:Program}{t:TypeId}{i:TI}(h:TIOK P t i)(hc:i.cls=4):P.underlying t=some (.array i.len i.e)/\∃inf,P.info? i.e=some inf/\inf.size=i.esz/\0<i.esz:=by
 obtain⟨d,h1,_,_,h2⟩:=h.und;simp only[zep,hc]at h2;obtain⟨rfl,hF⟩:=h2;exact⟨h1,hF⟩
theorem TIOK.int{P:Program}{t:TypeId}{i:TI}(h:TIOK P t i)(hc:i.cls=1):P.underlying t=some (.int i.ik):=by
 obtain⟨d,h1,_,_,h2⟩:=h.und;simp only[zep,hc]at h2;rw[h1,h2]
theorem TIOK.string{P:Program}{t:TypeId}{i:TI}(h:TIOK P t i)(hc:i.cls=5):P.underlying t=some .string :=by
 obtain⟨d,h1,_,_,h2⟩:=h.und;simp only[zep,hc]at h2;rw[h1,h2]
theorem TIOK.bool{P:Program}{t:TypeId}{i:TI}(h:TIOK P t i)(hc:i.cls=6):P.underlying t=some .bool :=by
 obtain⟨d,h1,_,_,h2⟩:=h.und;simp only[zep,hc]at h2;rw[h1,h2]
theorem zjk(hT:TabOK P T)(h:Rel c Y a w){t:TypeId}{x:Operand}{f:Nat}(ho:o.op=.fieldAddr t x f)(he:qo T C (.fieldAddr t x f) dst (zm Y.sl) ids bs E):Snd P F T c o Y a w E:=by
 have hw:wr o.op=false:=by simp[wr,ho]
 simp only[qo]at he;obtain⟨i,hmem,he⟩:=qu _ _ _ he;have hi:=hT.ti _ _ hmem;split at he
 .rename_i sz fs e esz len k ik z by_ eq;obtain⟨F,hu,hF,_⟩:=hi.struct rfl;obtain⟨fd,s,ag,inf,d,hfd,he,hs0,hinf,hsz,_,_,_,_⟩:=zcq hF he;have hfd':F[f]? =some fd:=by simpa using hfd
  have hrun:∀p,a.eval x=.pointer (some p)->(execOp a.eval o).run P w=.ok (.value (.pointer (some (p.add fd.offset)))) w:=fun p hp=>by
   have hne:¬inf.size=0:=O;simp only[execOp,ho,Instr.fieldAt,Sem.run_bind,zaj hu,Result.andThen_ok,hfd',hp,Instr.sureAddr,Sem.run_pure,fieldPlace,zcu hinf,hne,if_false]
  split at he
  .rename_i j off e';refine qk h he hw (fun _ _=>True) fun M pt ow S hg hs=>?_
   have hx:=zc (hs pt ow (Agr.refl _ _ _)).1 x;rw[e']at hx;simp only[R]at hx;obtain⟨p,hp⟩:=hx.1;refine⟨_,hrun p hp,fun pt' ow' hag=>?_⟩;have hx':=zc (hs pt' ow' hag).1 x;rw[e']at hx';simp only[R]at hx'⊢;refine⟨⟨_,rfl⟩,fun b hb=>?_⟩;have:=hx'.2 b hb;rw[hp]at this;simp at this;subst this;rw[wt]
  .rename_i k' y off e';refine qk h he hw (fun _ _=>True) fun M pt ow S hg hs=>?_
   have hx:=zc (hs pt ow (Agr.refl _ _ _)).1 x;rw[e']at hx;simp only[R]at hx;obtain⟨b,p,hp,hat⟩:=hx;refine⟨_,hrun _ hp,fun pt' ow' hag=>?_⟩;simp only[R];exact⟨b,p,by rw[wt,Nat.add_assoc],hat⟩
  .rename_i j s' q off e';refine qk h he hw (fun _ _=>True) fun M pt ow S hg hs=>?_
   have hx:=zc (hs pt ow (Agr.refl _ _ _)).1 x;rw[e']at hx;simp only[R]at hx;obtain⟨p,hp⟩:=hx.1;refine⟨_,hrun p hp,fun pt' ow' hag=>?_⟩;have hx':=zc (hs pt' ow' hag).1 x;rw[e']at hx';simp only[R]at hx'⊢;refine⟨⟨_,rfl⟩,fun b hb=>?_⟩;obtain⟨b',n,cc,hh,hv⟩:=hx'.2 b hb;rw[hp]at hv;simp at hv;subst hv;exact⟨b',n,cc,hh,by rw[wt,Nat.add_assoc]⟩
  .exact he.elim
 .exact he.elim
theorem qd5{t:TypeId}{inf:TypeInfo}{d:TypeDesc}(h1:P.info? t=some inf)(h2:P.underlying t=some d)(ρ:Env){l:List AV}{vs:Array Value}{off s:Nat}{ag:Bool}{K:AV->Prop}
 (hs:inf.size=s) (ha:zmn d=ag) (h3:ag=false->s=1) (hr:Rs ρ l vs.toList) (hk:zqi l off s ag K):
 ∃r v,K r/\(∀w,(part t vs off).run P w=.ok v w)/\r=(if ag then .agg ((l.drop off).take s)else(l.drop off).headD .any)/\v=(if ag then .agg (vs.extract off (off+s))else(vs.toList.drop off).headD undef)/\
  ∀ρ',Rs ρ' l vs.toList->R ρ' r v:=by
 unfold zqi at hk
 cases ag with
 |true=>
  simp only at hk;obtain⟨h4,h5⟩:=za7 _ _ _ _ hk;refine⟨_,.agg (vs.extract off (off+s)),h5,fun w=>?_,rfl,rfl,fun ρ' hr'=>?_⟩
  .simp[part,rAgg h2,ha,zcu h1,hs]
  .simp only[R];exact⟨_,rfl,by simpa using(hr'.drop off).take s⟩
 |false=>
  simp only at hk;obtain⟨h4,h5⟩:=za7 _ _ _ _ hk;split at h5
  .rename_i x e;have hx:l[off]? =some x:=by
    have:((l.drop off).take 1)[0]? =some x:=by rw[e];rfl
    simpa using this
   obtain⟨v,hv,_⟩:=hr.get hx;have hv':vs[off]? =some v:=by simpa using hv
   have hd:l.drop off=x::l.drop (off+1):=by
    have hlt:off<l.length:=(q0.1 hx).1;rw[q1 hlt]
    congr 1
    exact(q0.1 hx).2
   have hdv:vs.toList.drop off=v::vs.toList.drop (off+1):=by
    have hlt:off<vs.toList.length:=(q0.1 hv).1;rw[q1 hlt]
    congr 1
    exact(q0.1 hv).2
   refine⟨x,v,h5,fun w=>?_,by simp[hd],by rw[hdv];simp,fun ρ' hr'=>?_⟩
   .simp[part,rAgg h2,ha,hv']
   .obtain⟨v2,hv2,hr2⟩:=hr'.get hx;rw[hv]at hv2;cases hv2
    exact hr2
  .exact h5.elim
theorem zrw(hT:TabOK P T)(h:Rel c Y a w){t:TypeId}{x:Operand}{f:Nat}(ho:o.op=.field t x f)(he:qo T C (.field t x f) dst (zm Y.sl) ids bs E):Snd P F T c o Y a w E:=by
 have hw:wr o.op=false:=by simp[wr,ho]
 simp only[qo]at he;obtain⟨i,hmem,he⟩:=qu _ _ _ he;have hi:=hT.ti _ _ hmem;split at he
 .rename_i sz fs e esz len k ik z by_ eq l e';obtain⟨F,hu,hF,_⟩:=hi.struct rfl;obtain⟨fd,s,ag,inf,d,hfd,he,hs0,hinf,hsz,hd,ha,h1,_⟩:=zcq hF he;have hfd':F[f]? =some fd:=by simpa using hfd
  obtain⟨M,pt,ow,S,hg,hs,hr⟩:=h.own;have hx:=zc hr x;rw[e']at hx;simp only[R]at hx;obtain⟨vs,hv,hrs⟩:=hx;obtain⟨r,v,hE,hrun,_,_,hrv⟩:=qd5 (P:=P) hinf hd _ hsz ha h1 hrs he;refine qy h hE hw v ?_ fun M' pt' ow' S' hg' hs' pt'' ow'' hag=>?_
  .simp only[execOp,ho,Instr.field,Sem.run_bind,zaj hu,Result.andThen_ok,hfd',hv,asAgg,Sem.run_pure,hrun]
  .have hx':=zc (hs' pt'' ow'' hag).1 x;rw[e',hv]at hx';simp only[R]at hx';obtain⟨vs',hv',hrs'⟩:=hx';simp at hv';subst hv';exact hrv _ hrs'
 .exact he.elim
theorem zmv(h:Rel c Y a w){x:Operand}{n:Nat}(ho:o.op=.extract x n)(he:qo T C (.extract x n) dst (zm Y.sl) ids bs E):Snd P F T c o Y a w E:=by
 have hw:wr o.op=false:=by simp[wr,ho]
 simp only[qo]at he;split at he
 .rename_i l e;obtain⟨h1,h2⟩:=za7 _ _ _ _ he;split at h2
  .rename_i u e2;have hu:l[n]? =some u:=by
    have:((l.drop n).take 1)[0]? =some u:=by rw[e2];rfl
    simpa using this
   refine qk h h2 hw (fun _ _=>True) fun M pt ow S hg hs=>?_
   have hx:=zc (hs pt ow (Agr.refl _ _ _)).1 x;rw[e]at hx;simp only[R]at hx;obtain⟨vs,hv,hrs⟩:=hx;obtain⟨v,hv1,_⟩:=hrs.get hu;have hv2:vs[n]? =some v:=by simpa using hv1
   refine⟨v,by simp[execOp,ho,Instr.extract,hv,hv2],fun pt' ow' hag=>?_⟩;have hx':=zc (hs pt' ow' hag).1 x;rw[e,hv]at hx';simp only[R]at hx';obtain⟨vs',hv',hrs'⟩:=hx';simp at hv';subst hv';obtain⟨v3,hv3,hr3⟩:=hrs'.get hu;rw[hv1]at hv3;cases hv3
   exact hr3
  .exact h2.elim
 .exact he.elim
end
