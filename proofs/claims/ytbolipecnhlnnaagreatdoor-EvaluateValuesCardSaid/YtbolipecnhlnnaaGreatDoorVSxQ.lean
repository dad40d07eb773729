/- A region that draws its order. -/
import Derived.Test.YtbolipecnhlnnaaGreatDoorVSxP
set_option linter.all false
open Bool renaming and_eq_true->q0
open Option renaming bind_some->q1
open Go.Op renaming operands->q2
open Go.Region renaming binds->q3,ready->q4,lexFrom->q5,lexB->q6
namespace Go.Sx
open Go
theorem zdb{ρ ρ':Operand->AV}:∀(l:List Operand),(∀x∈l,ρ x=ρ' x)->zai ρ l=zai ρ' l
 | [],_=>rfl
 |x::l,h=>by simp only[zai];rw[h x OC,zdb l fun y hy=>h y (by simp[hy])]
theorem zj8{ρ ρ':Operand->AV}:∀(l:List (Nat×Operand)),(∀x∈l.map (·.2),ρ x=ρ' x)->ztv ρ l=ztv ρ' l
 | [],_=>rfl
 |(i,x)::l,h=>by simp only[ztv];rw[h x OC,zj8 l fun y hy=>h y (by simp_all)]
theorem zj7{ρ ρ':Operand->AV}:∀(l:List (Nat×Operand)),(∀x∈l.map (·.2),ρ x=ρ' x)->zjf ρ l=zjf ρ' l
 | [],_=>rfl
 |(i,x)::l,h=>by simp only[zjf];rw[h x OC,zj7 l fun y hy=>h y (by simp_all)]
theorem zj5{T:Tab}{ρ ρ':Operand->AV}{hp:Hp}(op:Op)(dst:Nat)(h:∀x∈op.operands,ρ x=ρ' x):zat T op dst ρ hp=zat T op dst ρ' hp:=by
 cases op with
 |load t p=>simp_all[zat,q2]
 |store t p v=>simp_all[zat,q2]
 |indexAddr t x i=>simp_all[zat,q2]
 |call c=>
  have ha:∀x∈c.args.toList,ρ x=ρ' x:=fun x hx=>h x (by simp_all[q2,Call.operands])
  cases hc:c.callee with
  |value f=>
   have hf:ρ f=ρ' f:=h f (by simp[q2,Call.operands,hc]);simp only[zat,hc];rw[hf,zdb _ ha]
  |invoke r m=>simp only[zat,hc]
  |builtin b=>
   grind[zat]
 |buildSlice t n ps=>cases n<;>rfl
 |slice t x lo hi mx=>simp_all[zat,q2]
 |lookup t x i ok=>simp_all[zat,q2]
 |mapUpdate t m k v=>simp_all[zat,q2]
 |insert t m k v=>simp_all[zat,q2]
 | _=>rfl
theorem ztk{T:Tab}{C:Con}{ρ ρ':Operand->AV}(op:Op)(dst:Nat)(h:∀x∈op.operands,ρ x=ρ' x):qw T C op dst ρ=qw T C op dst ρ':=by
 funext ids bs E
 cases op with
 |call c=>
  have ha:∀x∈c.args.toList,ρ x=ρ' x:=fun x hx=>h x (by simp_all[q2,Call.operands])
  have hm:=zdb (ρ:=ρ) (ρ':=ρ') _ ha
  cases hc:c.callee with
  |value f=>
   simp_all[q2,Call.operands,qw]
  |invoke r m=>simp only[qw,hc]
  |builtin b=>
   cases b<;>simp only[qw,hc,hm]
   .split
    .simp_all
    .rfl
   .split
    .simp_all
    .rfl
 |build t ps=>simp only[qw];grind[zj8,q2]
 |buildSlice t n ps=>simp only[qw];rw[zj7 (ρ:=ρ) (ρ':=ρ') ps.toList fun x hx=>h x (by simpa[q2]using hx)]
 |makeSlice t l c=>simp_all[qw,q2]
 |makeFunc f x y=>simp only[qw];grind[zdb,q2]
 |move x=>simp_all[qw,q2]
 |assign x=>simp_all[qw,q2]
 |pick c x y=>simp_all[qw,q2]
 |box t x=>simp_all[qw,q2]
 |load t x=>simp_all[qw,q2]
 |store t x y=>simp_all[qw,q2]
 |nilCheck x=>simp_all[qw,q2]
 |binOp b t x y ty=>simp_all[qw,q2]
 |unOp u t x=>simp_all[qw,q2]
 |convert s d x=>simp_all[qw,q2]
 |fieldAddr t x f=>simp_all[qw,q2]
 |field t x f=>simp_all[qw,q2]
 |indexAddr t x i=>simp_all[qw,q2]
 |index t x i=>simp_all[qw,q2]
 |extract x n=>simp_all[qw,q2]
 |lookup t x i ok=>simp_all[qw,q2]
 |mapUpdate t m k v=>simp_all[qw,q2]
 |insert t m k v=>simp_all[qw,q2]
 |makeMap t r=>
  simp only[qw];have:r.map ρ=r.map ρ':=by
   cases r with
   |none=>rfl
   |some x=>simp_all[Option.map_some,q2]
  rw[this]
 |slice t x lo hi mx=>
  simp only[qw];have ho:∀r:Option Operand,(∀y,r=some y->ρ y=ρ' y)->r.map ρ=r.map ρ':=fun r hr=>by
   cases r with
   |none=>rfl
   |some y=>simp_all
  simp_all[q2]
 | _=>rfl
def gd(ops:Array Oper)(o:Oper)(σ:St):Option Bool:=
 match o.guard with
 |none=>some true
 |some (j,want)=>match(ops[j]?).bind (·.dst)with
  |none=>none
  |some d=>match σ.sl.getD d .any with
   |.bool b=>some (b==want)
   |.tup []=>some false
   | _=>none
theorem getD_some{l:List AV}{d:Nat}{u:AV}(h:l.getD d .any =u)(hu:u≠ .any):l[d]? =some u:=by
 grind
theorem zwv{ops:Array Oper}{o:Oper}{σ:St}{run skip:St->Prop}(hk:zcl ops.toList o σ run skip):
 (gd ops o σ=some true/\run σ)\/(gd ops o σ=some false/\skip σ):=by
 unfold zcl at hk;unfold gd;split at hk
 .simp_all
 .rename_i j want hgd;split at hk
  .exact hk.elim
  .rename_i oj hoj;split at hk
   .exact hk.elim
   .rename_i d hd;have hoj':ops[j]? =some oj:=by grind
    simp only[hgd,hoj',q1,hd];split at hk
    .rename_i b hb;have hst:(⟨σ.sl.set d (.bool b),σ.hp⟩:St)=σ:=by simp_all[zk9,getD_some]
     simp only[hb];cases b<;>cases want<;>(simp only[zaw]at hk;rw[hst]at hk;simp[hk])
    .simp_all
    grind
theorem zji{ops:Array Oper}{o:Oper}{σ:St}(h:gd ops o σ=some true):zcl ops.toList o σ (fun _=>True) (fun _=>False):=by
 unfold gd at h;unfold zcl;split at h
 .simp_all
 .rename_i j want hgd;simp only[hgd]
  cases hoj:ops[j]? with
  |none=>simp[hoj]at h
  |some oj=>
   cases hd:oj.dst with
   |none=>grind
   |some d=>
    simp only[hoj,q1,hd]at h;have hoj':ops.toList[j]? =some oj:=by grind
    simp only[hoj',hd];split at h
    .rename_i b hb;rw[hb];simp only[zaw];cases b<;>cases want<;>simp_all
    .cases h
    .cases h
theorem zil{ops:Array Oper}{o:Oper}{σ:St}(h:gd ops o σ=some false):zcl ops.toList o σ (fun _=>False) (fun _=>True):=by
 unfold gd at h;unfold zcl;split at h
 .cases h
 .rename_i j want hgd;simp only[hgd]
  cases hoj:ops[j]? with
  |none=>simp[hoj]at h
  |some oj=>
   cases hd:oj.dst with
   |none=>grind
   |some d=>
    simp only[hoj,q1,hd]at h;have hoj':ops.toList[j]? =some oj:=by grind
    simp only[hoj',hd];split at h
    .rename_i b hb;rw[hb];simp only[zaw];cases b<;>cases want<;>simp_all
    .simp_all
    .cases h
section
variable {P:Program} {T:Tab} {C:Con} {ops:Array Oper} {fps:List FP} {K:St->Prop}
abbrev Oc:=Option (AV×List Blk)
def Yl(T:Tab)(C:Con)(ops:Array Oper)(o:Oper)(f:FP)(σ:St):Oc->Prop
 |none=>gd ops o σ=some false/\f=([],false)
 |some (r,bs)=>(gd ops o σ=some true/\Nat.ble (wj o) 99999=true)/\f=(nd T o σ,wr o.op)/\∀E:AV->List Blk->Prop,E r bs->qw T C o.op (wj o) (zo σ.sl) (nd T o σ) (qi σ.hp (nd T o σ)) E
def Oc.v:Oc->AV
 |none=>.tup []
 |some (r,_)=>r
def Oc.b:Oc->List Blk
 |none=> []
 |some (_,bs)=>bs
def wid(f:FP):List Nat:=match f.2 with
 |true=>f.1
 |false=> []
def post(o:Oper)(f:FP)(σ:St)(x:Oc):St:=
 ⟨match o.dst with
  |some d=>σ.sl.set d x.v
  |none=>σ.sl,qh σ.hp (wid f) x.b⟩
theorem zm2{o:Oper}{σ:St}:post o ([],false) σ none=⟨match o.dst with
 |some d=>σ.sl.set d (.tup [])
 |none=>σ.sl,σ.hp⟩:=by simp[post,wid,Oc.v,qh]
theorem zm1{T:Tab}{o:Oper}{σ:St}{r:AV}{bs:List Blk}:post o (nd T o σ,wr o.op) σ (some (r,bs))=nxt o (nd T o σ) σ r bs:=by
 grind[post,nxt,wid,wr,Oc.v,Oc.b,qh]
def qkc(T:Tab)(C:Con)(ops:Array Oper)(K:St->Prop):List Oper->List FP->St->Prop
 | [],[],σ=>K σ
 |o::os,f::fs,σ=>∃x,Yl T C ops o f σ x/\qkc T C ops K os fs (post o f σ x)
 | _,_,_=>False
theorem zln:∀(l:List Oper)(σ:St)(K:List FP->St->Prop),qfg T C ops.toList l σ K->∃fps,qkc T C ops (K fps) l fps σ
 | [],σ,K,h=>⟨[],h⟩
 |o::rest,σ,K,h=>by
  simp only[qfg,opD1]at h;rcases zwv h with ⟨hg,h⟩|⟨hg,h⟩
  .split at h
   .rw[znb,zoc]at h;obtain⟨hlo,h⟩:=h;obtain⟨r,bs,h1,h2⟩:=qgi _ _ _ _ _ _ _ _ h;obtain⟨fps,h3⟩:=zln rest _ _ h1;refine⟨(nd T o σ,wr o.op)::fps,some (r,bs),⟨⟨hg,hlo⟩,rfl,h2⟩,?_⟩;rw[zm1];exact h3
   grind
  .rw[zaw]at h;obtain⟨fps,h3⟩:=zln rest _ _ h;refine⟨([],false)::fps,none,⟨hg,rfl⟩,?_⟩;rw[zm2];exact h3
theorem zw4{sl:List AV}{d:Nat}{v:AV}{x:Operand}(h:x≠ .tmp d):zo (sl.set d v) x=zo sl x:=by
 cases x with
 |tmp t=>
  grind[zo,List.getElem?_set_ne]
 | _=>rfl
theorem ze6{o:Oper}{f:FP}{σ:St}{y:Oc}{x:Operand}(h:∀d,o.dst=some d->x≠ .tmp d):zo (post o f σ y).sl x=zo σ.sl x:=by
 grind[post,zw4]
theorem zce{o:Oper}{d:Nat}(h:d∉o.looksAt ops):∀x∈o.op.operands,x≠ .tmp d:=fun x hx e=>h (by
 subst e;exact List.mem_append_left _ (List.mem_filterMap.2 ⟨.tmp d,by grind,rfl⟩))
theorem zi2{f g:FP}(h:zjl f g=false):(∀i∈wid f,i∉g.1)/\∀i∈wid g,i∉f.1:=by
 obtain⟨l,a⟩:=f;obtain⟨m,b⟩:=g;unfold zjl at h;cases a<;>cases b<;>simp only[Bool.or_true,Bool.true_or,Bool.or_false,Bool.not_eq_false']at h<;>simp only[wid]
 .simp
 .grind[jd]
 .simp_all[jd]
 grind[jd]
theorem qd5(f:FP):∀i∈wid f,i∈f.1:=fun i hi=>by
 grind[wid]
theorem zfl:∀ {is:List Nat}{bs:List Blk}{h:Hp}{i:Nat},i∉is->hget (qh h is bs) i=hget h i
 | [],_,_,_,_=>by simp[qh]
 | _::_,[],_,_,_=>by simp[qh]
 |j::is,b::bs,h,i,hi=>by
  simp only[List.mem_cons,not_or]at hi;simp only[qh];rw[zfl hi.2,jc hi.1]
theorem zii{is:List Nat}{bs:List Blk}{h:Hp}:∀ {js:List Nat},(∀j∈js,j∉is)->qi (qh h is bs) js=qi h js
 | [],_=>rfl
 |j::js,hj=>by
  simp only[qi];rw[zfl (hj j OC),zii fun k hk=>hj k (by simp[hk])]
theorem zno{i j:Nat}(hij:i≠j){v u:Blk}:∀ {h:Hp},zdt (zdt h i v) j u=zdt (zdt h j u) i v
 | []=>rfl
 |(a,b)::r=>by
  rw[ko a b r i v,ko a b r j u];by_cases e1:a=i
  .simp_all[Z4,Z5,ko]
  .by_cases e2:a=j
   .simp_all[Z5,Z4,ko]
   .rw[Z5 e1,Z5 e2,ko,ko,Z5 e2,Z5 e1,zno hij]
theorem zke{i:Nat}{v:Blk}:∀ {is:List Nat}{bs:List Blk}{h:Hp},i∉is->qh (zdt h i v) is bs=zdt (qh h is bs) i v
 | [],_,_,_=>by simp[qh]
 | _::_,[],_,_=>by simp[qh]
 |j::is,b::bs,h,hi=>by
  simp only[List.mem_cons,not_or]at hi;simp only[qh];rw[zno hi.1,zke hi.2]
theorem zkf:∀ {is js:List Nat}{bs cs:List Blk}{h:Hp},(∀i∈is,i∉js)->qh (qh h is bs) js cs=qh (qh h js cs) is bs
 | [],js,bs,cs,h,_=>by simp[qh]
 | _::_,js,[],cs,h,_=>by simp[qh]
 |i::is,js,b::bs,cs,h,hd=>by
  simp only[qh];rw[zkf (fun k hk=>hd k (by simp[hk])),zke (hd i OC)]
theorem zap{h h':Hp}:∀ {l:List Nat},(∀i∈l,hget h' i=hget h i)->qi h' l=qi h l
 | [],_=>rfl
 |i::l,e=>by simp only[qi];rw[e i OC,zap fun j hj=>e j (by simp[hj])]
theorem zim{h h':Hp}{l:List Nat}(e:∀i∈grow h (grow h l),hget h' i=hget h i):grow h' (grow h' l)=grow h (grow h l):=by
 grind[grow,zap,zfe,nub,ztf,qi]
theorem zv8{T:Tab}{ρ:Operand->AV}{h h':Hp}(op:Op)(dst:Nat)(e:∀i∈zat T op dst ρ h,hget h' i=hget h i):zat T op dst ρ h'=zat T op dst ρ h:=by
 cases op with
 |call c=>
  cases hc:c.callee with
  |value f=>
   simp only[zat,hc]at e⊢;split
   .grind[zim]
   .rfl
   .rfl
  |invoke r m=>simp only[zat,hc]
  |builtin b=>grind[zat]
 |buildSlice t n ps=>cases n<;>rfl
 | _=>rfl
theorem qfl{oi oj:Oper}{f:FP}{σ:St}{x:Oc}(h:∀d,oi.dst=some d->d∉oj.looksAt ops)(e:∀i∈nd T oj σ,hget (post oi f σ x).hp i=hget σ.hp i):nd T oj (post oi f σ x)=nd T oj σ:=by
 unfold nd at e⊢;rw[zj5 (ρ':=zo σ.sl) _ _ fun z hz=>ze6 fun d hd=>zce (h d hd) z hz];exact zv8 _ _ e
theorem qaf{oi oj:Oper}{f:FP}{σ:St}{x:Oc}(h:∀d,oi.dst=some d->d∉oj.looksAt ops)(e:∀i∈nd T oj (post oi f σ x),hget (post oi f σ x).hp i=hget σ.hp i):nd T oj (post oi f σ x)=nd T oj σ:=by
 unfold nd at e⊢;rw[zj5 (ρ':=zo σ.sl) _ _ fun z hz=>ze6 fun d hd=>zce (h d hd) z hz]at e⊢;grind[zv8]
theorem zfk{oi:Oper}{f:FP}{σ:St}{x:Oc}{i:Nat}(h:i∉wid f):hget (post oi f σ x).hp i=hget σ.hp i:=by
 have:=zii (is:=wid f) (js:= [i]) (bs:=x.b) (h:=σ.hp) (by simp_all);grind[qi,post]
theorem zww{oi oj:Oper}{f:FP}{σ:St}{x:Oc}(h:∀d,oi.dst=some d->d∉oj.looksAt ops):gd ops oj (post oi f σ x)=gd ops oj σ:=by
 grind[gd,bind,post,ze6,Oper.looksAt]
theorem Yl.keep{oi oj:Oper}{f g:FP}{σ:St}{x y:Oc}(h:∀d,oi.dst=some d->d∉oj.looksAt ops)(hc:zjl f g=false):
 Yl T C ops oj g (post oi f σ x) y<->Yl T C ops oj g σ y:=by
 cases y with
 |none=>grind[Yl,zww]
 |some rb=>
  obtain⟨r,bs⟩:=rb;simp only[Yl];rw[zww h];have he:=ztk (T:=T) (C:=C) (ρ:=zo (post oi f σ x).sl) (ρ':=zo σ.sl) oj.op (wj oj) fun z hz=>ze6 fun d hd=>zce (h d hd) z hz
  rw[he];constructor
  .rintro⟨h1,h2,h3⟩;have hd:∀i∈nd T oj (post oi f σ x),i∉wid f:=fun j hj hi=>(zi2 hc).1 j hi (by grind)
   have hn:=qaf h fun i hi=>zfk (hd i hi)
   grind[qi,post,nd,zap,zfk]
  .rintro⟨h1,h2,h3⟩;have hd:∀i∈nd T oj σ,i∉wid f:=fun j hj hi=>(zi2 hc).1 j hi (by grind)
   have hn:=qfl (x:=x) h fun i hi=>zfk (hd i hi)
   grind[qi,post,nd,zap,zfk]
theorem zvo{oi oj:Oper}{f g:FP}{σ:St}{x y:Oc}(h:∀d,oi.dst=some d->oj.dst≠some d)(hc:zjl f g=false):
 post oj g (post oi f σ x) y=post oi f (post oj g σ y) x:=by
 grind[post,zkf,zi2,qd5,List.set_comm]
theorem ztn{f g:FP}(h:zjl f g=false):zjl g f=false:=by
 grind[zjl,zd5,jd]
def stepX(T:Tab)(C:Con)(ops:Array Oper)(fps:List FP)(i:Nat)(K:St->Prop)(σ:St):Prop:=
 ∃o f x,ops[i]? =some o/\fps[i]? =some f/\Yl T C ops o f σ x/\K (post o f σ x)
def ql3(T:Tab)(C:Con)(ops:Array Oper)(fps:List FP)(K:St->Prop):Nat->Array Bool->St->Prop
 |0,listed,σ=>q4 .any ops listed= []/\K σ
 |fuel+1,listed,σ=>(q4 .any ops listed= []->K σ)/\∀i∈q4 .any ops listed,stepX T C ops fps i (ql3 T C ops fps K fuel (listed.setIfInBounds i true)) σ
theorem ztq{i:Nat}{oi:Oper}{fi:FP}{x:Oc}(hi:ops[i]? =some oi)(hfi:fps[i]? =some fi)(B:Nat->Prop)
 (hB:∀k,B k->k≠i->∃ok,ops[k]? =some ok/\∃e∈ok.after,q3 .any e=true/\B e.on):
 ∀(fuel:Nat)(listed:Array Bool)(σ:St),(∀k,B k->listed.getD k true=false)->
  (∀j oj fj,ops[j]? =some oj->fps[j]? =some fj->j≠i->listed.getD j true=false->(∀e∈oj.after,q3 .any e=true->e.on≠i)->oi.apart ops oj=true/\(¬B j->zjl fi fj=false))->
  i∈q4 .any ops listed->Yl T C ops oi fi σ x->
  ql3 T C ops fps K fuel (listed.setIfInBounds i true) (post oi fi σ x)->ql3 T C ops fps K (fuel+1) listed σ:=by
 intro fuel
 induction fuel with
 |zero=>
  intro listed σ _ _ hr hy H;refine⟨fun h=>(by simp_all),fun j hj=>?_⟩;by_cases hji:j=i
  .subst hji;exact⟨oi,fi,x,hi,hfi,hy,H⟩
  .have:=ready_mono hj hji;rw[H.1]at this;cases this
 |succ fuel ih=>
  intro listed σ hBl hfree hr hy H;refine⟨fun h=>(by simp_all),fun j hj=>?_⟩;by_cases hji:j=i
  .subst hji;exact⟨oi,fi,x,hi,hfi,hy,H⟩
  .obtain⟨oj,fj,y,hoj,hfj,hyj,hK⟩:=H.2 j (ready_mono hj hji);obtain⟨hjun,oj',hoj',hall⟩:=mem_ready.1 hj;rw[hoj]at hoj';cases hoj'
   have hnot:∀e∈oj.after,q3 .any e=true->e.on≠i:=fun e he hb heq=>by
    grind[mem_ready,Nat.lt_or_ge,Array.getElem?_eq_none]
   have hBj:¬B j:=fun hb=>by
    grind
   obtain⟨hap,hcl⟩:=hfree j oj fj hoj hfj hji hjun hnot;have hcl:=hcl hBj;obtain⟨h1,h2,h3⟩:=Oper.apart_spec hap;have hyj':Yl T C ops oj fj σ y:=(Yl.keep h1 hcl).1 hyj;have hyi':Yl T C ops oi fi (post oj fj σ y) x:=(Yl.keep h3 (ztn hcl)).2 hy;refine⟨oj,fj,y,hoj,hfj,hyj',ih _ _ (fun k hk=>by rw[getD_set_ne true (fun e=>hBj (by grind))];grind) (fun k ok fk hk hfk hki hun hno=>?_) (ready_mono hr (Ne.symm hji)) hyi' ?_⟩
   .refine hfree k ok fk hk hfk hki ?_ hno;by_cases hjk:j=k
    .simp_all
    simp_all
   simp_all[zvo,Array.setIfInBounds_comm]
theorem zf5{f:FP}:∀ {os:List Oper}{fs:List FP}{bs:List Nat}{m:Nat},zpn bs m f os fs=true->∃B:Nat->Prop,(∀b∈bs,B b)/\
 (∀j,B j->j∈bs\/∃t o,j=m+t/\os[t]? =some o/\∃e∈o.after,q3 .any e=true/\B e.on)/\
 ∀(t:Nat)(o:Oper)(g:FP),os[t]? =some o->fs[t]? =some g->¬B (m+t)->zjl f g=false
 | [],[],bs,m,_=>⟨fun j=>j∈bs,fun _ h=>h,fun _ h=>.inl h,fun t o g h=>by simp at h⟩
 | [],_::_,_,_,h=>by simp[zpn]at h
 | _::_,[],_,_,h=>by simp[zpn]at h
 |o'::os,g'::fs,bs,m,h=>by
  simp only[zpn]at h
  cases hb:zi5 bs o' with
  |true=>
   rw[hb]at h;obtain⟨B,h1,h2,h3⟩:=zf5 (os:=os) (fs:=fs) h;refine⟨B,fun b hb=>h1 b (List.mem_cons_of_mem _ hb),fun j hj=>?_,fun t o g ho hg hn=>?_⟩
   .rcases h2 j hj with hm|⟨t,o,rfl,ho,he⟩
    .rcases List.mem_cons.1 hm with rfl|hm
     .unfold zi5 at hb;grind[ke]
     grind
    grind
   grind
  |false=>
   rw[hb]at h;simp only[q0,Bool.not_eq_true']at h;obtain⟨B,h1,h2,h3⟩:=zf5 (os:=os) (fs:=fs) h.2;refine⟨B,h1,fun j hj=>?_,fun t o g ho hg hn=>?_⟩
   .rcases h2 j hj with hm|⟨t,o,rfl,ho,he⟩
    .exact .inl hm
    grind
   grind
theorem zse:∀(l:List Oper)(fs:List FP)(k:Nat)(listed:Array Bool)(σ:St),(∀j,l[j]? =ops[k+j]?)->(∀j,fs[j]? =fps[k+j]?)->(∀j,j<k->listed.getD j true=true)->(∀j o,k<=j->ops[j]? =some o->listed.getD j true=false)->
 q5 .any ops l.length k listed=true->qa4 k l fs=true->qkc T C ops K l fs σ->ql3 T C ops fps K l.length listed σ
 | [],[],_,_,_,_,_,_,_,hB,_,h=>⟨by simpa[q5]using hB,h⟩
 | [],_::_,_,_,_,_,_,_,_,_,_,h=>h.elim
 | _::_,[],_,_,_,_,_,_,_,_,_,h=>h.elim
 |o::l,f::fs,k,listed,σ,hl,hf,hlis,hull,hB,hfp,h=>by
  have h0:ops[k]? =some o:=by simpa using(hl 0).symm
  have hf0:fps[k]? =some f:=by simpa using(hf 0).symm
  simp only[List.length_cons,q5,q0]at hB;obtain⟨⟨hr,hfr⟩,hB'⟩:=hB;simp only[qa4,q0]at hfp;obtain⟨x,hy,hK⟩:=h;obtain⟨B,b1,b2,b3⟩:=zf5 hfp.1;have hBop:∀j,B j->j≠k->∃oj,ops[j]? =some oj/\k<=j/\∃e∈oj.after,q3 .any e=true/\B e.on:=fun j hj hne=>by
   rcases b2 j hj with hm|⟨t,oj,rfl,ho,he⟩
   .simp_all
   .refine⟨oj,?_,O,he⟩;have:=hl (t+1);grind
  refine ztq h0 hf0 B (fun j hj hne=>by grind) l.length listed σ (fun j hj=>by
   grind)
   (fun j oj fj hj hfj hne hun hno=>⟨Region.free_spec h0 hfr j oj hj hne hun hno,fun hnB=>?_⟩) (by grind) hy
   (zse l fs (k+1) _ _ (fun j=>by have:=hl (j+1);grind) (fun j=>by have:=hf (j+1);grind)
     (fun j hj=>?_) (fun j oj hj hoj=>by rw[getD_set_ne true O];grind) hB' hfp.2 hK)
  .have hkj:k<j:=by
    grind
   obtain⟨m,rfl⟩:∃m,j=k+(m+1):=⟨j-k-1,O⟩;have ho':l[m]? =some oj:=by have:=hl (m+1);grind
   have hf':fs[m]? =some fj:=by have:=hf (m+1);grind
   grind
  .by_cases hjk:k=j
   .simp_all
   .rw[getD_set_ne true hjk];grind
theorem zf9{F:Wf}{c:Ctx}{Q:Exit->Act->World->Prop}(hT:TabOK P T)(hQ:∀σ a w,Rel c σ a w->K σ->Q .normal a w):
 ∀(fuel:Nat)(listed:Array Bool)(σ:St)(a:Act)(w:World),Rel c σ a w->ql3 T (CN P) ops fps K fuel listed σ->wpAnyIn F.F 0 P .any ops Q fuel listed a w
 |0,_,σ,a,w,h,hk=>⟨hk.1,hQ σ a w h hk.2⟩
 |fuel+1,listed,σ,a,w,h,hk=>by
  refine⟨fun h0=>hQ σ a w h (hk.1 h0),fun i hi=>?_⟩;obtain⟨o,f,x,ho,hf,hy,hK⟩:=hk.2 i hi;unfold wpOpIn;simp only[ho]
  cases x with
  |none=>
   obtain⟨hg,rfl⟩:=hy;rw[zm2]at hK;rcases xe h (zil hg)with ⟨_,h1⟩|⟨h1,_⟩
   .exact h1.elim
   .rw[Z5 (by rw[h1];simp)];exact⟨fun f _=>F.ok.fn f,zf9 hT hQ fuel _ _ _ _ (h.skip o) hK⟩
  |some rb=>
   obtain⟨r,bs⟩:=rb;obtain⟨⟨hg,hlo⟩,rfl,he⟩:=hy;rw[zm1]at hK;rcases xe h (zji hg)with ⟨h1,_⟩|⟨_,h1⟩
   .rw[Z4 h1];obtain⟨r',bs',⟨rfl,rfl⟩,hwp⟩:=zn6 hT hlo h (he (fun r' bs'=>r'=r/\bs'=bs) ⟨rfl,rfl⟩);exact(Oper.wpIn_mono (fun a' w' hr=>zf9 hT hQ fuel _ _ _ _ hr hK) (hwp Q))
   grind
theorem Rel.drawn{c:Ctx}{σ:St}{a:Act}{w:World}(h:Rel c σ a w)(n:Nat):Rel c σ a {w with drawn:=n}:=h.ext (Ext.drawn w n)
theorem zow{F:Wf}{c:Ctx}{Q:Exit->Act->World->Prop}{id:Nat}{σ:St}{a:Act}{w:World}(hT:TabOK P T)(hm:P.follows .mixedOrders =true)(h:Rel c σ a w)
 (hk:qfg T (CN P) ops.toList ops.toList σ fun fps σ=>qa4 0 ops.toList fps=true/\q6 .any ops=true/\K σ) (hQ:∀σ a w,Rel c σ a w->K σ->Q .normal a w):
 (Code.region id ops true).wpIn F.F 0 P Q a w:=by
 obtain⟨fps,hl⟩:=zln _ _ _ hk;have hconst:∀(l:List Oper)(fs:List FP)(σ:St),qkc T (CN P) ops (fun σ=>qa4 0 ops.toList fps=true/\q6 .any ops=true/\K σ) l fs σ->
  (qa4 0 ops.toList fps=true/\q6 .any ops=true)/\qkc T (CN P) ops K l fs σ:=by
  intro l
  induction l with
  |nil=>
   intro fs σ h
   cases fs with
   |nil=>exact⟨⟨h.1,h.2.1⟩,h.2.2⟩
   |cons _ _=>exact h.elim
  |cons o l ih=>
   intro fs σ h
   cases fs with
   |nil=>exact h.elim
   |cons f fs=>
    obtain⟨x,hy,hK⟩:=h;obtain⟨h1,h2⟩:=ih fs _ hK;exact⟨h1,x,hy,h2⟩
 obtain⟨⟨hfp,hB⟩,hlex⟩:=hconst _ _ _ hl;simp only[q6,q0]at hB;refine wpIn_region_any hm (zf9 (fps:=fps) hT hQ _ _ σ a _ (h.drawn _) ?_);have:=zse (fps:=fps) ops.toList fps 0 (Array.replicate ops.size false) σ OC OC OC (fun j o _ ho=>by
  have hj:j<ops.size:=by grind
  simp[hj]) (by grind) hfp hlex
 omega
end
