/- The operations that leave the world as it is. -/
import Derived.Test.YtlbmkjbgfkgcmaaGreatDoorTSxD
import Derived.Deep.MidRow
import Derived.TacticsIn
import Derived.RangeFuncFrom
import Derived.RangeFuncLeaves
import Derived.OrdersIn
set_option linter.all false
open List renaming getElem?_eq_some_iff->q0,getElem?_take->q1,getElem?_drop->q2,take_succ_cons->q3,getElem?_map->q4,range->qA
namespace Go.Sx
open Go
def zmn:TypeDesc->Bool
 |.struct _=>true
 |.array _ _=>true
 | _=>false
def zc0(P:Program):List Field->List (Nat×Nat×Bool)->Prop
 | [],[]=>True
 |f::F,(o,s,a)::fs=>(f.offset=o/\0<s/\∃inf d,P.info? f.type=some inf/\inf.size=s/\P.underlying f.type=some d/\zmn d=a/\(a=false->s=1))/\zc0 P F fs
 | _,_=>False
def zxy(P:Program)(t:TypeId)(z:List AV):Prop:=
 P.eqGuardType P.depth t=false/\∀(l m:List AV)(k:Bool->Prop)(ρ:Env)(vs us:Array Value),eqZ z l m k->Rs ρ l vs.toList->Rs ρ m us.toList->
  ∃r:Bool,k r/\∀w,(Op.equal t (.agg vs) (.agg us)).run P w=.ok r w
def zep(P:Program)(t:TypeId)(i:TI)(d:TypeDesc):Prop:=
 match i.cls with
 |1=>d=.int i.ik
 |2=>∃F,d=.struct F/\zc0 P F.toList i.fs/\(i.eq=true->zxy P t i.z)
 |3=>d=.slice i.e/\∃inf,P.info? i.e=some inf/\inf.size=i.esz
 |4=>d=.array i.len i.e/\∃inf,P.info? i.e=some inf/\inf.size=i.esz/\0<i.esz
 |5=>d=.string
 |6=>d=.bool
 |9=>d=.map i.e i.len
 | _=>zmn d=false
def aggV:Value->Bool
 |.agg _=>true
 | _=>false
structure TIOK(P:Program)(t:TypeId)(i:TI):Prop where
 inf:∃inf z,P.info? t=some inf/\inf.size=i.sz/\inf.bytes=i.bytes/\inf.zero=some z/\z.cells.size=i.sz/\∀ρ,Rs ρ i.z z.cells.toList
 und:∃d,P.underlying t=some d/\zmn d=i.agg/\(i.agg=false->i.sz=1)/\zep P t i d
 eq:i.eq=true->i.cls=2
 zag:∀inf z,P.info? t=some inf->inf.zero=some z->aggV z=i.agg
def zhc(kk:Elt)(x:kk.T):List kk.T->List MapEntry->Nat->Option (Nat×Value)
 |y::ks,e::es,i=>bif zqo kk x y then some (i,e.val)else zhc kk x ks es (i+1)
 | _,_,_=>none
structure KeyOK(P:Program)(t:TypeId)(kk:Elt):Prop where
 kind:kk=.str \/kk=.int \/kk=.op
 chk:∀(w:World)(b:Bool)(x:kk.T),(Instr.checkKey b 10000 t (zbe kk x)).run P w=.ok () w
 fnd:∀(w:World)(x:kk.T)(ks:List kk.T)(es:List MapEntry),es.map (·.key)=ks.map (zbe kk)->(Instr.findKey t (zbe kk x) es).run P w=.ok (zhc kk x ks es 0) w
 stays:∀(w:World)(x y:kk.T),zqo kk x y=true->(Instr.keyThatStays (zbe kk y) (zbe kk x)).run P w=.ok (zbe kk x) w
structure TabOK(P:Program)(T:Tab):Prop where
 ti:∀t i,(t,i)∈T.ty->TIOK P t i
 key:∀t i,(t,i)∈T.ty->i.cls=9->∀j kk,(i.e,j)∈T.ty->j.k=some kk->KeyOK P i.e kk
section
variable {P:Program} {w:World} {t:TypeId}
theorem zk4{i:TypeInfo}(h:P.info? t=some i):(typeInfo t).run P w=.ok i w:=by
 simp[typeInfo,h]
theorem zaj{d:TypeDesc}(h:P.underlying t=some d):(underlying t).run P w=.ok d w:=by
 simp[underlying,h]
theorem zcu{i:TypeInfo}(h:P.info? t=some i):(sizeOf t).run P w=.ok i.size w:=by
 simp[sizeOf,zk4 h]
theorem rAgg{d:TypeDesc}(h:P.underlying t=some d):(isAgg t).run P w=.ok (zmn d) w:=by
 simp only[isAgg,Sem.run_bind,zaj h,Result.andThen_ok];cases d<;>rfl
theorem zv8{i:TypeInfo}{z:Value}(h:P.info? t=some i)(hz:i.zero=some z):(zeroValue t).run P w=.ok z w:=by
 simp[zeroValue,zk4 h,hz]
end
theorem wt(b o j:Nat):(⟨b,o,none⟩:Addr).add j=⟨b,o+j,none⟩:=by unfold Addr.add;split<;>simp_all
theorem zsk{P:Program}{t:TypeId}{i:TI}(hi:TIOK P t i){w:World}{b o:Nat}(vs:List Value)(hl:vs.length=i.sz)(hc:∀j v,vs[j]? =some v->w.cell? ⟨b,o+j,none⟩=some v):
 (loadVar t ⟨b,o,none⟩).run P w=.ok (if i.agg then .agg vs.toArray else vs.headD undef) w:=by
 obtain⟨inf,z,h1,h2,_,_,_,_⟩:=hi.inf;obtain⟨d,hd,ha,hs,_⟩:=hi.und;by_cases hg:i.agg=true
 .have hrow:d.isRow=true:=by
   rw[hg]at ha;cases d<;>simp[zmn]at ha<;>rfl
  rw[run_loadVar_mid w b o t vs d (fun j v hv=>hc j v hv) hd hrow (by simp[h1,h2,hl])];simp[hg]
 .have hg':i.agg=false:=by simpa using hg
  have h1':=hs hg';rw[h1']at hl
  match vs,hl with
  | [v],_=>
    have:=hc 0 v OC;simp only[Nat.add_zero]at this;simp only[loadVar,Sem.run_bind,rAgg hd,Result.andThen_ok,ha,hg',Bool.false_eq_true,if_false,run_load,this];simp[hg']
theorem za7:∀(l:List AV)(off n:Nat)(k:List AV->Prop),cut l off n k->((l.drop off).take n).length =n/\k ((l.drop off).take n)
 |l,0,0,k,h=>by cases l<;>(simp only[cut]at h;exact⟨rfl,h⟩)
 |a::l,0,n+1,k,h=>by
  simp only[cut]at h;obtain⟨h1,h2⟩:=za7 l 0 n _ h;simp only[List.drop_zero]at h1 h2⊢;simp only[q3,List.length_cons];exact⟨O,h2⟩
 | [],0,_+1,_,h=>by simp[cut]at h
 | _::l,off+1,n,k,h=>by
   simp only[cut]at h;obtain⟨h1,h2⟩:=za7 l off n k h;simp only[List.drop_succ_cons];exact⟨h1,h2⟩
 | [],_+1,_,_,h=>by simp[cut]at h
theorem Rs.drop{ρ:Env}:∀ {l:List AV}{vs:List Value}(n:Nat),Rs ρ l vs->Rs ρ (l.drop n) (vs.drop n)
 | _,_,0,h=>by simpa using h
 | [],[],_+1,_=>by simp[Rs]
 | [],_::_,_+1,h=>by simp[Rs]at h
 | _::_,[],_+1,h=>by simp[Rs]at h
 | _::l,_::vs,n+1,h=>by simp only[Rs]at h;simpa using Rs.drop n h.2
theorem Rs.take{ρ:Env}:∀ {l:List AV}{vs:List Value}(n:Nat),Rs ρ l vs->Rs ρ (l.take n) (vs.take n)
 | _,_,0,_=>by simp[Rs]
 | [],[],_+1,_=>by simp[Rs]
 | [],_::_,_+1,h=>by simp[Rs]at h
 | _::_,[],_+1,h=>by simp[Rs]at h
 | _::l,_::vs,n+1,h=>by simp only[Rs]at h;simp only[q3,Rs];exact⟨h.1,Rs.take n h.2⟩
theorem zd7{P:Program}{t:TypeId}{i:TI}(hi:TIOK P t i){l:List AV}{off:Nat}{E:AV->Prop}(h:ldK i l off E):
 ∃r,E r/\((l.drop off).take i.sz).length =i.sz/\∀(ρ:Env)(vs:List Value),Rs ρ ((l.drop off).take i.sz) vs->R ρ r (if i.agg then .agg vs.toArray else vs.headD undef):=by
 obtain⟨d,hd,ha,hs,_⟩:=hi.und;unfold ldK at h;split at h
 .rename_i hg;obtain⟨h1,h2⟩:=za7 _ _ _ _ h;exact⟨_,h2,h1,fun ρ vs hr=>by simp only[hg,if_true,R];exact⟨_,rfl,by simpa using hr⟩⟩
 .rename_i hg;obtain⟨h1,h2⟩:=za7 _ _ _ _ h;rw[hs hg];split at h2
  .rename_i a e;refine⟨a,h2,h1,fun ρ vs hr=>?_⟩;rw[e]at hr
   match vs,hr with
   | [v],hr=>simp only[Rs]at hr;simpa[hg]using hr.1
   | [],hr=>simp[Rs]at hr
   | _::_::_,hr=>simp[Rs]at hr
  .exact h2.elim
theorem qn:∀(k:Elt)(x:k.T),(k.cells x).length =k.size
 |.ex,_=>rfl|.str,_=>rfl|.int,_=>rfl|.rat,_=>rfl|.op,_=>rfl|.eqn,_=>rfl|.ex2,_=>rfl|.bool,_=>rfl|.u32,_=>rfl|.ls,_=>rfl|.dy,_=>rfl|.iv,_=>rfl|.ki,_=>rfl|.vs,_=>rfl|.dd,_=>rfl|.u8,_=>rfl|.f0,_=>rfl|.fk,_=>rfl
theorem At.read{w:World}{M:Nat->Prop}{k:Elt}{x:k.T}{b p:Nat}(h:At (zo w M) k x b p):
 ∃vs:List Value,vs.length=k.size/\(∀j v,vs[j]? =some v->w.cell? ⟨b,p+j,none⟩=some v)/\∀pt ow,Rs ⟨zo w M,pt,ow⟩ (k.cells x) vs:=by
 cases h with
 |mk _ _ _ _ f h1 h2=>
  refine⟨(qA k.size).map f,OC,fun j v hv=>?_,fun pt ow=>?_⟩
  .rw[q4]at hv
   cases hr:(qA k.size)[j]? with
   |none=>rw[hr]at hv;simp at hv
   |some u=>
    rw[hr]at hv;have hj:j<k.size:=by
     have:=(q0.1 hr).1;simpa using this
    have hu:u=j:=by
     have:=(q0.1 hr).2;simpa using this.symm
    subst hu;simp at hv;subst hv;obtain⟨cs,T,fr,hb,hc⟩:=h1 u hj;simp only[World.cell?,hb.2];simpa using hc
  .refine Rs.of_get (by simp[qn]) fun j u v hu hv=>?_
   rw[q4]at hv;have hj:j<k.size:=by
    have:=(q0.1 hu).1;rw[qn]at this;exact this
   have hr:(qA k.size)[j]? =some j:=by simp[hj]
   rw[hr]at hv;simp at hv;subst hv;exact R.of_leaf (h2 j u hu)
def WF(F:Fence):Prop:=F=Fence.wide\/∃l,F=Fence.wide.inRound l
structure Wf where
 F:Fence
 ok:WF F
theorem WF.fn{F:Fence}(h:WF F)(f:Nat):F.fn f:=by rcases h with rfl|⟨l,rfl⟩<;>trivial
theorem WF.depth{F:Fence}(h:WF F):F.depth.isSome=true->1<=0:=by rcases h with rfl|⟨l,rfl⟩<;>(intro h;cases h)
theorem WF.calls{F:Fence}(h:WF F){P:Program}{f:FuncId}{args:Array Value}{w:World}{R:Ending->World->Prop}(hc:CallsIn Fence.wide 0 P f args w R):CallsIn F (0-1) P f args w R:=by
 rcases h with rfl|⟨l,rfl⟩
 .exact hc
 .exact hc
theorem zhe{P:Program}{ro:Option Nat}{ρ:Operand->Value}{o:Oper}{w w':World}{x:Next}(h:(execOp ρ o).run P w=.ok x w')(hx:∀d,x≠ .defer d):(o.semAt ro ρ).run P w=.ok x w':=by
 rw[Oper.semAt_eq]
 .exact h
 .intro c hc;unfold execOp at h;simp only[hc,Sem.run_bind]at h
  cases e:(resolve ρ c o.type).run P w with
  |ok d w2=>rw[e]at h;simp at h;exact hx d h.1.symm
  |halt a b=>rw[e]at h;simp[Result.andThen]at h
def Snd(P:Program)(F:Wf)(T:Tab)(c:Ctx)(o:Oper)(Y:St)(a:Act)(w:World)(E:AV->List Blk->Prop):Prop:=
 ∃r bs,E r bs/\∀Q,o.wpIn F.F 0 P a w (Rel c (nxt o (nd T o Y) Y r bs)) Q
theorem ur{P:Program}{F:Wf}{o:Oper}{a:Act}{w w':World}{v:Value}{K:Act->World->Prop}{Q:Exit->Act->World->Prop}
 (h:(execOp a.eval o).run P w=.ok (.value v) w') (hk:K (a.put o.dst v) w'):o.wpIn F.F 0 P a w K Q:=by
 refine⟨fun f _=>F.ok.fn f,?_⟩;rw[zhe h OC];exact hk
theorem znu{P:Program}{F:Wf}{o:Oper}{a:Act}{w w':World}{K:Act->World->Prop}{Q:Exit->Act->World->Prop}
 (h:(execOp a.eval o).run P w=.ok .skip w') (hk:K (a.put o.dst undef) w'):o.wpIn F.F 0 P a w K Q:=by
 refine⟨fun f _=>F.ok.fn f,?_⟩;rw[zhe h OC];exact hk
theorem qy{P:Program}{F:Wf}{T:Tab}{c:Ctx}{o:Oper}{Y:St}{a:Act}{w:World}(h:Rel c Y a w){E:AV->List Blk->Prop}{r:AV}{bs:List Blk}(hE:E r bs)(hw:wr o.op=false)(v:Value)
 (hrun:(execOp a.eval o).run P w=.ok (.value v) w)
 (hv:∀M pt ow S,Good c M pt ow S Y.hp w->zdj Y a w M pt ow->∀pt' ow',Agr Y.hp pt pt' ow ow'->R ⟨zo w M,pt',ow'⟩ r v):Snd P F T c o Y a w E:=
 ⟨r,bs,hE,fun _=>ur hrun (h.val o _ bs r v hw hv)⟩
section
variable {P:Program} {T:Tab} {F:Wf} {C:Con} {c:Ctx} {o:Oper} {Y:St} {a:Act} {w:World} {E:AV->List Blk->Prop} {ids:List Nat} {bs:List Blk} {dst:Nat}
theorem Rel.own(h:Rel c Y a w):∃M pt ow S,Good c M pt ow S Y.hp w/\zdj Y a w M pt ow/\Rs ⟨zo w M,pt,ow⟩ Y.sl a.tmps.toList:=by
 obtain⟨M,pt,ow,S,hg,hs,_⟩:=h;exact⟨M,pt,ow,S,hg,hs,(hs pt ow (Agr.refl _ _ _)).1⟩
theorem zob(h:Rel c Y a w){x:Operand}(ho:o.op=.move x\/o.op=.assign x)(hE:E (zm Y.sl x) []):Snd P F T c o Y a w E:=by
 refine qy h hE (by rcases ho with ho|ho<;>simp[wr,ho]) (a.eval x) (by rcases ho with ho|ho<;>simp[execOp,ho]) ?_;intro M pt ow S _ hs pt' ow' hag;exact zc (hs pt' ow' hag).1 x
theorem zvu(h:Rel c Y a w){x y z:Operand}(ho:o.op=.pick x y z)(he:qo T C (.pick x y z) dst (zm Y.sl) ids bs E):Snd P F T c o Y a w E:=by
 obtain⟨M,pt,ow,S,hg,hs,hr⟩:=h.own;have hx:=zc hr x;simp only[qo]at he;split at he
 .rename_i t e;rw[e]at hx;simp only[R]at hx;have hrun:∀t',t=t'->(execOp a.eval o).run P w=.ok (.value (if t' then a.eval y else a.eval z)) w:=fun t' ht=>by
   simp[execOp,ho,hx,asBool,ht]
  cases t with
  |true=>exact qy h he (by simp[wr,ho]) _ (hrun true rfl) fun M pt ow S _ hs pt' ow' hag=>zc (hs pt' ow' hag).1 y
  |false=>exact qy h he (by simp[wr,ho]) _ (hrun false rfl) fun M pt ow S _ hs pt' ow' hag=>zc (hs pt' ow' hag).1 z
 .exact he.elim
theorem jb{h:Hp}{i:Nat}:qj h [i]= [hget h i]:=rfl
theorem zvv(hT:TabOK P T)(h:Rel c Y a w){t:TypeId}{x:Operand}(ho:o.op=.load t x)(he:qo T C (.load t x) dst (zm Y.sl) (nd T o Y) (qj Y.hp (nd T o Y)) E):Snd P F T c o Y a w E:=by
 obtain⟨M,pt,ow,S,hg,hs,hr⟩:=h.own;have hx:=zc hr x;have hw:wr o.op=false:=by simp[wr,ho]
 have hrun:∀b p v,a.eval x=.pointer (some ⟨b,p,none⟩)->(loadVar t ⟨b,p,none⟩).run P w=.ok v w->(execOp a.eval o).run P w=.ok (.value v) w:=fun b p v hb hv=>by
  simp[execOp,ho,Instr.loadAt,hb,Instr.sureAddr,hv]
 simp only[qo]at he;split at he
 .rename_i i off e;have hn:nd T o Y= [i]:=by simp[nd,ho,xt,e,pid]
  rw[hn,jb]at he;rw[e]at hx;split at he
  .rename_i l hl;simp at hl;obtain⟨ti,hmem,he⟩:=qu _ _ _ he;have hti:=hT.ti _ _ hmem;obtain⟨r,hE,hlen,hrr⟩:=zd7 hti he;obtain⟨b,cs,Ty,hb,hcs⟩:=hg.cel i l hl;simp only[R]at hx;have hxe:=hx.2 b hb;have hrs:=(hs pt ow (Agr.refl _ _ _)).2 i l b cs Ty hl hb hcs;have hcell:∀j v,((cs.toList.drop off).take ti.sz)[j]? =some v->w.cell? ⟨b,off+j,none⟩=some v:=fun j v hv=>by
    rw[q1]at hv;split at hv
    .simp only[World.cell?,hcs];simpa[q2]using hv
    .simp at hv
   have hlv:((cs.toList.drop off).take ti.sz).length =ti.sz:=((hrs.drop off).take ti.sz).length.symm.trans hlen;refine qy h hE hw _ (hrun b off _ hxe (zsk hti _ hlv hcell)) ?_;intro M' pt' ow' S' hg' hs' pt'' ow'' hag;obtain⟨b',cs',Ty',hb',hcs'⟩:=hg'.cel i l hl;have hx':=zc (hs' pt' ow' (Agr.refl _ _ _)).1 x;rw[e]at hx';simp only[R]at hx';have:=hx'.2 b' hb';rw[hxe]at this;simp at this;subst this;rw[hcs]at hcs';simp at hcs';obtain⟨rfl,rfl⟩:=hcs';exact hrr _ _ (((hs' pt'' ow'' hag).2 i l b cs Ty hl hb' hcs).drop off |>.take ti.sz)
  .exact he.elim
 .rename_i k y off e;rw[e]at hx;obtain⟨ti,hmem,he⟩:=qu _ _ _ he;have hti:=hT.ti _ _ hmem;obtain⟨r,hE,hlen,hrr⟩:=zd7 hti he;simp only[R]at hx;obtain⟨b,p,hxe,hat⟩:=hx;obtain⟨vs,hvl,hvc,hvr⟩:=hat.read;have hcell:∀j v,((vs.drop off).take ti.sz)[j]? =some v->w.cell? ⟨b,p+off+j,none⟩=some v:=fun j v hv=>by
   rw[q1]at hv;split at hv
   .rw[q2]at hv;have:=hvc (off+j) v hv;rwa [<-Nat.add_assoc]at this
   .simp at hv
  have hlv:((vs.drop off).take ti.sz).length =ti.sz:=(((hvr pt ow).drop off).take ti.sz).length.symm.trans hlen;refine qy h hE hw _ (hrun b (p+off) _ hxe (zsk hti _ hlv hcell)) ?_;intro M' pt' ow' S' hg' hs' pt'' ow'' hag;have hx':=zc (hs' pt'' ow'' hag).1 x;rw[e]at hx';simp only[R]at hx';obtain⟨b',p',hxe',hat'⟩:=hx';rw[hxe]at hxe';simp at hxe';obtain⟨rfl,hp⟩:=hxe';have hpp:p=p':=O;subst hpp;obtain⟨vs',hvl',hvc',hvr'⟩:=hat'.read;have:vs=vs':=by
   refine List.ext_getElem? fun j=>?_
   by_cases hj:j<k.size
   .have h1:=hvc j vs[j] OC;have h2:=hvc' j vs'[j] OC;rw[h1]at h2;simp at h2;simp[hvl,hvl',hj,h2]
   .simp[hvl,hvl',hj]
  subst this;exact hrr _ _ (((hvr' pt'' ow'').drop off).take ti.sz)
 .rename_i i sz j off e;have hn:nd T o Y= [i]:=by simp[nd,ho,xt,e,pid]
  rw[hn,jb]at he;rw[e]at hx;split at he
  .rename_i et k xs hl;simp at hl;split at he
   .rename_i hsz;have hsz:=(zd _ _).1 hsz;subst hsz;obtain⟨hj,he⟩:=he;have hxj:xs[j]? =some xs[j]:=by simp[hj]
    obtain⟨ti,hmem,he⟩:=qu _ _ _ (he _ hxj);have hti:=hT.ti _ _ hmem;obtain⟨r,hE,hlen,hrr⟩:=zd7 hti he;have key:∀M pt ow S,Good c M pt ow S Y.hp w->zdj Y a w M pt ow->∃b cs,a.eval x=.pointer (some ⟨b,j*k.size+off,none⟩)/\w.heap[b]? =some (.cells cs et (0,0))/\
     ((cs.toList.drop (j*k.size)).take k.size).length =k.size/\∀pt' ow',Rs ⟨zo w M,pt',ow'⟩ (k.cells xs[j]) ((cs.toList.drop (j*k.size)).take k.size):=by
     intro M pt ow S hg hs;obtain⟨hd,how,hbuf⟩:=hg.buf i et k xs hl;have hx:=zc (hs pt ow (Agr.refl _ _ _)).1 x;rw[e]at hx;simp only[R]at hx;obtain⟨b,n,cc,hhd,hxe⟩:=hx.2 hd how;rcases hbuf with ⟨hh,hxs⟩|⟨b',cap,cs,hh,hcs,hcl,hcm,hcz,hel⟩
     .subst hxs;simp at hj
     .rw[hhd]at hh;simp at hh;obtain⟨rfl,rfl,rfl⟩:=hh;have hle:j*k.size+k.size<=cs.size:=by
       rw[hcz];calc j*k.size+k.size=(j+1)*k.size:=by rw[Nat.succ_mul]
        _<=cc*k.size:=Nat.mul_le_mul_right _ O
      have hlen':((cs.toList.drop (j*k.size)).take k.size).length =k.size:=by
       simp;omega
      refine⟨b,cs,hxe,hcs,hlen',fun pt' ow'=>?_⟩;refine Rs.of_get (by rw[hlen',qn]) fun q u v hu hv=>?_
      obtain⟨v',hv',hlf⟩:=hel j xs[j] hxj q u hu;have hq:q<k.size:=by
       have:=(q0.1 hu).1;rwa [qn]at this
      rw[q1,Z6 hq,q2]at hv;have:cs[j*k.size+q]? =some v:=by simpa using hv
      rw[hv']at this;cases this
      exact R.of_leaf hlf
    obtain⟨b,cs,hxe,hcs,hlen',hrs⟩:=key M pt ow S hg hs;have hcell:∀q v,((((cs.toList.drop (j*k.size)).take k.size).drop off).take ti.sz)[q]? =some v->w.cell? ⟨b,j*k.size+off+q,none⟩=some v:=fun q v hv=>by
     rw[q1]at hv;split at hv
     .rw[q2,q1]at hv;split at hv
      .rw[q2]at hv;simp only[World.cell?,hcs];simpa[Nat.add_assoc]using hv
      .simp at hv
     .simp at hv
    have hlv:((((cs.toList.drop (j*k.size)).take k.size).drop off).take ti.sz).length =ti.sz:=(((hrs pt ow).drop off).take ti.sz).length.symm.trans hlen;refine qy h hE hw _ (hrun b _ _ hxe (zsk hti _ hlv hcell)) ?_;intro M' pt' ow' S' hg' hs' pt'' ow'' hag;obtain⟨b',cs',hxe',hcs',_,hrs'⟩:=key M' pt' ow' S' hg' hs';rw[hxe]at hxe';simp at hxe';subst hxe';rw[hcs]at hcs';simp at hcs';subst hcs';exact hrr _ _ (((hrs' pt'' ow'').drop off).take ti.sz)
   .exact he.elim
  .exact he.elim
 .exact he.elim
end
