/- A region that draws its order. -/
import Derived.Test.YtlbmkjbgfkgcmaaGreatDoorTSxP
set_option linter.all false
open Array renaming getElem?_eq_none->q0
open Bool renaming and_eq_true->q1
open List renaming mem_cons->q2,getD_eq_getElem?_getD->q3,mem_cons_of_mem->qB,map_cons->qD
open Nat renaming lt_or_ge->qA,add_assoc->qE,add_comm->qF
open Option renaming bind_some->q4,map_some->qC
open Go.Op renaming operands->qG
open Go.Region renaming binds->qH,ready->qI,lexFrom->qJ,lexB->qK
namespace Go.Sx
open Go
theorem zcj{ρ ρ':Operand->AV}:∀(l:List Operand),(∀x∈l,ρ x=ρ' x)->xf ρ l=xf ρ' l
 | [],_=>rfl
 |x::l,h=>by simp only[xf];rw[h x OC,zcj l fun y hy=>h y (by simp[hy])]
theorem ziq{ρ ρ':Operand->AV}:∀(l:List (Nat×Operand)),(∀x∈l.map (·.2),ρ x=ρ' x)->zq4 ρ l=zq4 ρ' l
 | [],_=>rfl
 |(i,x)::l,h=>by simp only[zq4];rw[h x OC,ziq l fun y hy=>h y (by simp only[qD,q2];exact .inr hy)]
theorem zio{ρ ρ':Operand->AV}:∀(l:List (Nat×Operand)),(∀x∈l.map (·.2),ρ x=ρ' x)->zml ρ l=zml ρ' l
 | [],_=>rfl
 |(i,x)::l,h=>by simp only[zml];rw[h x OC,zio l fun y hy=>h y (by simp only[qD,q2];exact .inr hy)]
theorem zim{T:Tab}{ρ ρ':Operand->AV}{hp:Hp}(op:Op)(dst:Nat)(h:∀x∈op.operands,ρ x=ρ' x):xt T op dst ρ hp=xt T op dst ρ' hp:=by
 cases op with
 |load t p=>simp only[xt];rw[h p (by simp[qG])]
 |store t p v=>simp only[xt];rw[h p (by simp[qG])]
 |indexAddr t x i=>simp only[xt];rw[h x (by simp[qG])]
 |call c=>
  have ha:∀x∈c.args.toList,ρ x=ρ' x:=fun x hx=>h x (by simp[qG,Call.operands];exact .inr (by simpa using hx))
  cases hc:c.callee with
  |value f=>
   have hf:ρ f=ρ' f:=h f (by simp[qG,Call.operands,hc]);simp only[xt,hc];rw[hf,zcj _ ha]
  |invoke r m=>simp only[xt,hc]
  |builtin b=>
   cases b<;>simp only[xt,hc]
   .split
    .rename_i x y e;rw[ha x (by rw[e];simp)]
    .rfl
   .split
    .rename_i x e;rw[ha x (by rw[e];simp)]
    .rfl
 |buildSlice t n ps=>cases n<;>rfl
 |slice t x lo hi mx=>simp only[xt];rw[h x (by simp[qG])]
 |lookup t x i ok=>simp only[xt];rw[h x (by simp[qG])]
 |mapUpdate t m k v=>simp only[xt];rw[h m (by simp[qG])]
 |insert t m k v=>simp only[xt];rw[h m (by simp[qG])]
 | _=>rfl
theorem zqt{T:Tab}{C:Con}{ρ ρ':Operand->AV}(op:Op)(dst:Nat)(h:∀x∈op.operands,ρ x=ρ' x):qo T C op dst ρ=qo T C op dst ρ':=by
 funext ids bs E
 cases op with
 |call c=>
  have ha:∀x∈c.args.toList,ρ x=ρ' x:=fun x hx=>h x (by simp[qG,Call.operands];exact .inr (by simpa using hx))
  have hm:=zcj (ρ:=ρ) (ρ':=ρ') _ ha
  cases hc:c.callee with
  |value f=>
   have hf:ρ f=ρ' f:=h f (by simp[qG,Call.operands,hc]);simp only[qo,hc];rw[hf,hm]
  |invoke r m=>simp only[qo,hc]
  |builtin b=>
   cases b<;>simp only[qo,hc,hm]
   .split
    .rename_i x y t t' e _;rw[ha x (by rw[e];simp),ha y (by rw[e];simp)]
    .rfl
   .split
    .rename_i x t e _;rw[ha x (by rw[e];simp)]
    .rfl
 |build t ps=>simp only[qo];rw[ziq (ρ:=ρ) (ρ':=ρ') ps.toList fun x hx=>h x (by simpa[qG]using hx)]
 |buildSlice t n ps=>simp only[qo];rw[zio (ρ:=ρ) (ρ':=ρ') ps.toList fun x hx=>h x (by simpa[qG]using hx)]
 |makeSlice t l c=>simp only[qo];rw[h l (by simp[qG]),h c (by simp[qG])]
 |makeFunc f x y=>simp only[qo];rw[zcj (ρ:=ρ) (ρ':=ρ') y.toList fun z hz=>h z (by simp[qG];exact .inr (by simpa using hz))]
 |move x=>simp only[qo];rw[h x (by simp[qG])]
 |assign x=>simp only[qo];rw[h x (by simp[qG])]
 |pick c x y=>simp only[qo];rw[h c (by simp[qG]),h x (by simp[qG]),h y (by simp[qG])]
 |box t x=>simp only[qo];rw[h x (by simp[qG])]
 |load t x=>simp only[qo];rw[h x (by simp[qG])]
 |store t x y=>simp only[qo];rw[h x (by simp[qG]),h y (by simp[qG])]
 |nilCheck x=>simp only[qo];rw[h x (by simp[qG])]
 |binOp b t x y ty=>simp only[qo];rw[h x (by simp[qG]),h y (by simp[qG])]
 |unOp u t x=>simp only[qo];rw[h x (by simp[qG])]
 |convert s d x=>simp only[qo];rw[h x (by simp[qG])]
 |fieldAddr t x f=>simp only[qo];rw[h x (by simp[qG])]
 |field t x f=>simp only[qo];rw[h x (by simp[qG])]
 |indexAddr t x i=>simp only[qo];rw[h x (by simp[qG]),h i (by simp[qG])]
 |index t x i=>simp only[qo];rw[h x (by simp[qG]),h i (by simp[qG])]
 |extract x n=>simp only[qo];rw[h x (by simp[qG])]
 |lookup t x i ok=>simp only[qo];rw[h x (by simp[qG]),h i (by simp[qG])]
 |mapUpdate t m k v=>simp only[qo];rw[h m (by simp[qG]),h k (by simp[qG]),h v (by simp[qG])]
 |insert t m k v=>simp only[qo];rw[h m (by simp[qG]),h k (by simp[qG]),h v (by simp[qG])]
 |makeMap t r=>
  simp only[qo];have:r.map ρ=r.map ρ':=by
   cases r with
   |none=>rfl
   |some x=>simp only[qC];rw[h x (by simp[qG])]
  rw[this]
 |slice t x lo hi mx=>
  simp only[qo];have ho:∀r:Option Operand,(∀y,r=some y->ρ y=ρ' y)->r.map ρ=r.map ρ':=fun r hr=>by
   cases r with
   |none=>rfl
   |some y=>simp only[qC];rw[hr y rfl]
  rw[h x (by simp[qG]),ho lo fun y e=>h y (by simp[qG,e]),ho hi fun y e=>h y (by simp[qG,e]),ho mx fun y e=>h y (by simp[qG,e])]
 | _=>rfl
def gd(ops:Array Oper)(o:Oper)(Y:St):Option Bool:=
 match o.guard with
 |none=>some true
 |some (j,want)=>match(ops[j]?).bind (·.dst)with
  |none=>none
  |some d=>match Y.sl.getD d .any with
   |.bool b=>some (b==want)
   |.tup []=>some false
   | _=>none
theorem getD_some{l:List AV}{d:Nat}{u:AV}(h:l.getD d .any =u)(hu:u≠ .any):l[d]? =some u:=by
 rw[q3]at h
 cases hq:l[d]? with
 |none=>rw[hq]at h;exact absurd h.symm hu
 |some x=>rw[hq]at h;simp at h;rw[h]
theorem ztr{ops:Array Oper}{o:Oper}{Y:St}{run skip:St->Prop}(hk:zat ops.toList o Y run skip):
 (gd ops o Y=some true/\run Y)\/(gd ops o Y=some false/\skip Y):=by
 unfold zat at hk;unfold gd;split at hk
 .rename_i hn;exact .inl ⟨by simp[hn],hk⟩
 .rename_i j want hgd;split at hk
  .exact hk.elim
  .rename_i oj hoj;split at hk
   .exact hk.elim
   .rename_i d hd;have hoj':ops[j]? =some oj:=by simpa using hoj
    simp only[hgd,hoj',q4,hd];split at hk
    .rename_i b hb;have hst:(⟨Y.sl.set d (.bool b),Y.hp⟩:St)=Y:=by rw[zjn _ _ _ (getD_some hb OC)]
     simp only[hb];cases b<;>cases want<;>(simp only[zaa]at hk;rw[hst]at hk;simp[hk])
    .rename_i hb;simp only[hb];simp[hk]
    .exact hk.elim
theorem zh2{ops:Array Oper}{o:Oper}{Y:St}(h:gd ops o Y=some true):zat ops.toList o Y (fun _=>True) (fun _=>False):=by
 unfold gd at h;unfold zat;split at h
 .rename_i hn;simp[hn]
 .rename_i j want hgd;simp only[hgd]
  cases hoj:ops[j]? with
  |none=>simp[hoj]at h
  |some oj=>
   cases hd:oj.dst with
   |none=>simp[hoj,hd]at h
   |some d=>
    simp only[hoj,q4,hd]at h;have hoj':ops.toList[j]? =some oj:=by simpa using hoj
    simp only[hoj',hd];split at h
    .rename_i b hb;rw[hb];simp only[zaa];cases b<;>cases want<;>simp_all
    .cases h
    .cases h
theorem zg2{ops:Array Oper}{o:Oper}{Y:St}(h:gd ops o Y=some false):zat ops.toList o Y (fun _=>False) (fun _=>True):=by
 unfold gd at h;unfold zat;split at h
 .cases h
 .rename_i j want hgd;simp only[hgd]
  cases hoj:ops[j]? with
  |none=>simp[hoj]at h
  |some oj=>
   cases hd:oj.dst with
   |none=>simp[hoj,hd]at h
   |some d=>
    simp only[hoj,q4,hd]at h;have hoj':ops.toList[j]? =some oj:=by simpa using hoj
    simp only[hoj',hd];split at h
    .rename_i b hb;rw[hb];simp only[zaa];cases b<;>cases want<;>simp_all
    .rename_i hb;rw[hb];trivial
    .cases h
section
variable {P:Program} {T:Tab} {C:Con} {ops:Array Oper} {fps:List FP} {K:St->Prop}
abbrev Oc:=Option (AV×List Blk)
def Yl(T:Tab)(C:Con)(ops:Array Oper)(o:Oper)(f:FP)(Y:St):Oc->Prop
 |none=>gd ops o Y=some false/\f=([],false)
 |some (r,bs)=>(gd ops o Y=some true/\Nat.ble (ve o) 99999=true)/\f=(nd T o Y,wr o.op)/\∀E:AV->List Blk->Prop,E r bs->qo T C o.op (ve o) (zm Y.sl) (nd T o Y) (qj Y.hp (nd T o Y)) E
def Oc.v:Oc->AV
 |none=>.tup []
 |some (r,_)=>r
def Oc.b:Oc->List Blk
 |none=> []
 |some (_,bs)=>bs
def wid(f:FP):List Nat:=match f.2 with
 |true=>f.1
 |false=> []
def post(o:Oper)(f:FP)(Y:St)(x:Oc):St:=
 ⟨match o.dst with
  |some d=>Y.sl.set d x.v
  |none=>Y.sl,qq Y.hp (wid f) x.b⟩
theorem zk7{o:Oper}{Y:St}:post o ([],false) Y none=⟨match o.dst with
 |some d=>Y.sl.set d (.tup [])
 |none=>Y.sl,Y.hp⟩:=by simp[post,wid,Oc.v,qq]
theorem zk6{T:Tab}{o:Oper}{Y:St}{r:AV}{bs:List Blk}:post o (nd T o Y,wr o.op) Y (some (r,bs))=nxt o (nd T o Y) Y r bs:=by
 unfold post nxt wid;cases wr o.op<;>simp[Oc.v,Oc.b,qq]<;>rfl
def qeq(T:Tab)(C:Con)(ops:Array Oper)(K:St->Prop):List Oper->List FP->St->Prop
 | [],[],Y=>K Y
 |o::os,f::fs,Y=>∃x,Yl T C ops o f Y x/\qeq T C ops K os fs (post o f Y x)
 | _,_,_=>False
theorem zjx:∀(l:List Oper)(Y:St)(K:List FP->St->Prop),qam T C ops.toList l Y K->∃fps,qeq T C ops (K fps) l fps Y
 | [],Y,K,h=>⟨[],h⟩
 |o::rest,Y,K,h=>by
  simp only[qam,opD1]at h;rcases ztr h with ⟨hg,h⟩|⟨hg,h⟩
  .split at h
   .rw[zle,zme]at h;obtain⟨hlo,h⟩:=h;obtain⟨r,bs,h1,h2⟩:=qbl _ _ _ _ _ _ _ _ h;obtain⟨fps,h3⟩:=zjx rest _ _ h1;refine⟨(nd T o Y,wr o.op)::fps,some (r,bs),⟨⟨hg,hlo⟩,rfl,h2⟩,?_⟩;rw[zk6];exact h3
   .exact h.elim
  .rw[zaa]at h;obtain⟨fps,h3⟩:=zjx rest _ _ h;refine⟨([],false)::fps,none,⟨hg,rfl⟩,?_⟩;rw[zk7];exact h3
theorem zt1{sl:List AV}{d:Nat}{v:AV}{x:Operand}(h:x≠ .tmp d):zm (sl.set d v) x=zm sl x:=by
 cases x with
 |tmp t=>
  have hne:d≠t:=fun e=>h (by rw[e])
  simp only[zm,q3];rw[List.getElem?_set_ne hne]
 | _=>rfl
theorem zdw{o:Oper}{f:FP}{Y:St}{y:Oc}{x:Operand}(h:∀d,o.dst=some d->x≠ .tmp d):zm (post o f Y y).sl x=zm Y.sl x:=by
 unfold post
 cases hd:o.dst with
 |none=>rfl
 |some d=>exact zt1 (h d hd)
theorem zbp{o:Oper}{d:Nat}(h:d∉o.looksAt ops):∀x∈o.op.operands,x≠ .tmp d:=fun x hx e=>h (by
 subst e;exact List.mem_append_left _ (List.mem_filterMap.2 ⟨.tmp d,by simpa using hx,rfl⟩))
theorem zhm{f g:FP}(h:zh5 f g=false):(∀i∈wid f,i∉g.1)/\∀i∈wid g,i∉f.1:=by
 obtain⟨l,a⟩:=f;obtain⟨m,b⟩:=g;unfold zh5 at h;cases a<;>cases b<;>simp only[Bool.or_true,Bool.true_or,Bool.or_false,Bool.not_eq_false']at h<;>simp only[wid]
 .simp
 .rw[jr]at h;exact⟨OC,fun i hi hj=>h i hj hi⟩
 .rw[jr]at h;exact⟨h,OC⟩
 .rw[jr]at h;exact⟨h,fun i hi hj=>h i hj hi⟩
theorem zzn(f:FP):∀i∈wid f,i∈f.1:=fun i hi=>by
 unfold wid at hi;split at hi
 .exact hi
 .simp at hi
theorem zec:∀ {is:List Nat}{bs:List Blk}{h:Hp}{i:Nat},i∉is->hget (qq h is bs) i=hget h i
 | [],_,_,_,_=>by simp[qq]
 | _::_,[],_,_,_=>by simp[qq]
 |j::is,b::bs,h,i,hi=>by
  simp only[q2,not_or]at hi;simp only[qq];rw[zec hi.2,zx hi.1]
theorem zgy{is:List Nat}{bs:List Blk}{h:Hp}:∀ {js:List Nat},(∀j∈js,j∉is)->qj (qq h is bs) js=qj h js
 | [],_=>rfl
 |j::js,hj=>by
  simp only[qj];rw[zec (hj j OC),zgy fun k hk=>hj k (by simp[hk])]
theorem zlt{i j:Nat}(hij:i≠j){v u:Blk}:∀ {h:Hp},xo (xo h i v) j u=xo (xo h j u) i v
 | []=>rfl
 |(a,b)::r=>by
  rw[ju a b r i v,ju a b r j u];by_cases e1:a=i
  .have e2:a≠j:=fun e=>hij (e1.symm.trans e)
   rw[Z6 e1,Z7 e2,ju,ju,Z7 e2,Z6 e1]
  .by_cases e2:a=j
   .rw[Z7 e1,Z6 e2,ju,ju,Z6 e2,Z7 e1]
   .rw[Z7 e1,Z7 e2,ju,ju,Z7 e2,Z7 e1,zlt hij]
theorem ziv{i:Nat}{v:Blk}:∀ {is:List Nat}{bs:List Blk}{h:Hp},i∉is->qq (xo h i v) is bs=xo (qq h is bs) i v
 | [],_,_,_=>by simp[qq]
 | _::_,[],_,_=>by simp[qq]
 |j::is,b::bs,h,hi=>by
  simp only[q2,not_or]at hi;simp only[qq];rw[zlt hi.1,ziv hi.2]
theorem ziw:∀ {is js:List Nat}{bs cs:List Blk}{h:Hp},(∀i∈is,i∉js)->qq (qq h is bs) js cs=qq (qq h js cs) is bs
 | [],js,bs,cs,h,_=>by simp[qq]
 | _::_,js,[],cs,h,_=>by simp[qq]
 |i::is,js,b::bs,cs,h,hd=>by
  simp only[qq];rw[ziw (fun k hk=>hd k (by simp[hk])),ziv (hd i OC)]
theorem xp{h h':Hp}:∀ {l:List Nat},(∀i∈l,hget h' i=hget h i)->qj h' l=qj h l
 | [],_=>rfl
 |i::l,e=>by simp only[qj];rw[e i OC,xp fun j hj=>e j (by simp[hj])]
theorem zg3{h h':Hp}{l:List Nat}(e:∀i∈zbf h (zbf h l),hget h' i=hget h i):zbf h' (zbf h' l)=zbf h (zbf h l):=by
 have e1:zbf h' l=zbf h l:=by
  unfold zbf;rw[xp fun i hi=>e i (zd1 (zd1 hi))]
 rw[e1];show nub (zbf h l++zqp (qj h' (zbf h l)))=nub (zbf h l++zqp (qj h (zbf h l)));rw[xp fun i hi=>e i (zd1 hi)]
theorem zs6{T:Tab}{ρ:Operand->AV}{h h':Hp}(op:Op)(dst:Nat)(e:∀i∈xt T op dst ρ h,hget h' i=hget h i):xt T op dst ρ h'=xt T op dst ρ h:=by
 cases op with
 |call c=>
  cases hc:c.callee with
  |value f=>
   simp only[xt,hc]at e⊢;split
   .rename_i g caps hf;simp only[hf]at e;split
    .rename_i hn;simp only[hn]at e;exact zg3 e
    .rename_i n hn;simp only[hn]at e;rw[zg3 fun i hi=>e i (by simp[hi])]
   .rfl
   .rfl
  |invoke r m=>simp only[xt,hc]
  |builtin b=>cases b<;>simp only[xt,hc]
 |buildSlice t n ps=>cases n<;>rfl
 | _=>rfl
theorem qaq{oi oj:Oper}{f:FP}{Y:St}{x:Oc}(h:∀d,oi.dst=some d->d∉oj.looksAt ops)(e:∀i∈nd T oj Y,hget (post oi f Y x).hp i=hget Y.hp i):nd T oj (post oi f Y x)=nd T oj Y:=by
 unfold nd at e⊢;rw[zim (ρ':=zm Y.sl) _ _ fun z hz=>zdw fun d hd=>zbp (h d hd) z hz];exact zs6 _ _ e
theorem zwk{oi oj:Oper}{f:FP}{Y:St}{x:Oc}(h:∀d,oi.dst=some d->d∉oj.looksAt ops)(e:∀i∈nd T oj (post oi f Y x),hget (post oi f Y x).hp i=hget Y.hp i):nd T oj (post oi f Y x)=nd T oj Y:=by
 unfold nd at e⊢;rw[zim (ρ':=zm Y.sl) _ _ fun z hz=>zdw fun d hd=>zbp (h d hd) z hz]at e⊢;exact(zs6 _ _ fun i hi=>(e i hi).symm).symm
theorem zea{oi:Oper}{f:FP}{Y:St}{x:Oc}{i:Nat}(h:i∉wid f):hget (post oi f Y x).hp i=hget Y.hp i:=by
 have:=zgy (is:=wid f) (js:= [i]) (bs:=x.b) (h:=Y.hp) (by intro j hj hi;simp at hj;subst hj;exact h hi);simpa[qj,post]using this
theorem zts{oi oj:Oper}{f:FP}{Y:St}{x:Oc}(h:∀d,oi.dst=some d->d∉oj.looksAt ops):gd ops oj (post oi f Y x)=gd ops oj Y:=by
 unfold gd;split
 .rfl
 .rename_i j want hg;cases ht:(ops[j]?).bind (·.dst)with
  |none=>rfl
  |some d=>
   simp only[];have:(post oi f Y x).sl.getD d .any =Y.sl.getD d .any :=zdw (x:=.tmp d) fun d' hd e=>h d' hd (by
    cases e
    simp[Oper.looksAt,hg,ht])
   rw[this]
theorem Yl.keep{oi oj:Oper}{f g:FP}{Y:St}{x y:Oc}(h:∀d,oi.dst=some d->d∉oj.looksAt ops)(hc:zh5 f g=false):
 Yl T C ops oj g (post oi f Y x) y<->Yl T C ops oj g Y y:=by
 cases y with
 |none=>simp only[Yl];rw[zts h]
 |some rb=>
  obtain⟨r,bs⟩:=rb;simp only[Yl];rw[zts h];have he:=zqt (T:=T) (C:=C) (ρ:=zm (post oi f Y x).sl) (ρ':=zm Y.sl) oj.op (ve oj) fun z hz=>zdw fun d hd=>zbp (h d hd) z hz
  rw[he];constructor
  .rintro⟨h1,h2,h3⟩;have hd:∀i∈nd T oj (post oi f Y x),i∉wid f:=fun j hj hi=>(zhm hc).1 j hi (by rw[h2];exact hj)
   have hn:=zwk h fun i hi=>zea (hd i hi)
   rw[hn]at h2 h3;have:qj (post oi f Y x).hp (nd T oj Y)=qj Y.hp (nd T oj Y):=xp fun j hj=>zea (hd j (by rw[hn];exact hj))
   rw[this]at h3;exact⟨h1,h2,h3⟩
  .rintro⟨h1,h2,h3⟩;have hd:∀i∈nd T oj Y,i∉wid f:=fun j hj hi=>(zhm hc).1 j hi (by rw[h2];exact hj)
   have hn:=qaq (x:=x) h fun i hi=>zea (hd i hi)
   have:qj (post oi f Y x).hp (nd T oj Y)=qj Y.hp (nd T oj Y):=xp fun j hj=>zea (hd j hj)
   rw[hn,this];exact⟨h1,h2,h3⟩
theorem zsr{oi oj:Oper}{f g:FP}{Y:St}{x y:Oc}(h:∀d,oi.dst=some d->oj.dst≠some d)(hc:zh5 f g=false):
 post oj g (post oi f Y x) y=post oi f (post oj g Y y) x:=by
 unfold post;rw[ziw fun i hi hj=>(zhm hc).1 i hi (zzn g i hj)]
 cases hi:oi.dst with
 |none=>rfl
 |some d=>
  cases hj:oj.dst with
  |none=>rfl
  |some e=>
   have hne:d≠e:=fun he=>h d hi (by rw[hj,he])
   simp only[];rw[List.set_comm _ _ hne]
theorem zqu{f g:FP}(h:zh5 f g=false):zh5 g f=false:=by
 obtain⟨l,a⟩:=f;obtain⟨m,b⟩:=g;unfold zh5 at h⊢;have hs:zde l m=true->zde m l=true:=fun h=>by rw[jr]at h⊢;exact fun i hi hj=>h i hj hi
 cases a<;>cases b<;>simp_all
def stepX(T:Tab)(C:Con)(ops:Array Oper)(fps:List FP)(i:Nat)(K:St->Prop)(Y:St):Prop:=
 ∃o f x,ops[i]? =some o/\fps[i]? =some f/\Yl T C ops o f Y x/\K (post o f Y x)
def qf6(T:Tab)(C:Con)(ops:Array Oper)(fps:List FP)(K:St->Prop):Nat->Array Bool->St->Prop
 |0,listed,Y=>qI .any ops listed= []/\K Y
 |fuel+1,listed,Y=>(qI .any ops listed= []->K Y)/\∀i∈qI .any ops listed,stepX T C ops fps i (qf6 T C ops fps K fuel (listed.setIfInBounds i true)) Y
theorem zqx{i:Nat}{oi:Oper}{fi:FP}{x:Oc}(hi:ops[i]? =some oi)(hfi:fps[i]? =some fi)(B:Nat->Prop)
 (hB:∀k,B k->k≠i->∃ok,ops[k]? =some ok/\∃e∈ok.after,qH .any e=true/\B e.on):
 ∀(fuel:Nat)(listed:Array Bool)(Y:St),(∀k,B k->listed.getD k true=false)->
  (∀j oj fj,ops[j]? =some oj->fps[j]? =some fj->j≠i->listed.getD j true=false->(∀e∈oj.after,qH .any e=true->e.on≠i)->oi.apart ops oj=true/\(¬B j->zh5 fi fj=false))->
  i∈qI .any ops listed->Yl T C ops oi fi Y x->
  qf6 T C ops fps K fuel (listed.setIfInBounds i true) (post oi fi Y x)->qf6 T C ops fps K (fuel+1) listed Y:=by
 intro fuel
 induction fuel with
 |zero=>
  intro listed Y _ _ hr hy H;refine⟨fun h=>(by rw[h]at hr;cases hr),fun j hj=>?_⟩;by_cases hji:j=i
  .subst hji;exact⟨oi,fi,x,hi,hfi,hy,H⟩
  .have:=ready_mono hj hji;rw[H.1]at this;cases this
 |succ fuel ih=>
  intro listed Y hBl hfree hr hy H;refine⟨fun h=>(by rw[h]at hr;cases hr),fun j hj=>?_⟩;by_cases hji:j=i
  .subst hji;exact⟨oi,fi,x,hi,hfi,hy,H⟩
  .obtain⟨oj,fj,y,hoj,hfj,hyj,hK⟩:=H.2 j (ready_mono hj hji);obtain⟨hjun,oj',hoj',hall⟩:=mem_ready.1 hj;rw[hoj]at hoj';cases hoj'
   have hnot:∀e∈oj.after,qH .any e=true->e.on≠i:=fun e he hb heq=>by
    have h1:=hall e he hb;have h0:=(mem_ready.1 hr).1;rw[heq]at h1;rcases qA i listed.size with h'|h'
    .simp[h']at h0 h1;rw[h0]at h1;cases h1
    .simp[q0 h']at h1
   have hBj:¬B j:=fun hb=>by
    obtain⟨ok,hok,e,he,hbi,hbe⟩:=hB j hb hji;rw[hoj]at hok;cases hok
    have h1:=hall e he hbi;have h0:=hBl _ hbe;rcases qA e.on listed.size with h'|h'
    .simp[h']at h0 h1;rw[h0]at h1;cases h1
    .simp[q0 h']at h1
   obtain⟨hap,hcl⟩:=hfree j oj fj hoj hfj hji hjun hnot;have hcl:=hcl hBj;obtain⟨h1,h2,h3⟩:=Oper.apart_spec hap;have hyj':Yl T C ops oj fj Y y:=(Yl.keep h1 hcl).1 hyj;have hyi':Yl T C ops oi fi (post oj fj Y y) x:=(Yl.keep h3 (zqu hcl)).2 hy;refine⟨oj,fj,y,hoj,hfj,hyj',ih _ _ (fun k hk=>by rw[getD_set_ne true (fun e=>hBj (by rw[e];exact hk))];exact hBl k hk) (fun k ok fk hk hfk hki hun hno=>?_) (ready_mono hr (Ne.symm hji)) hyi' ?_⟩
   .refine hfree k ok fk hk hfk hki ?_ hno;by_cases hjk:j=k
    .subst hjk;exact hjun
    .rw[getD_set_ne true hjk]at hun;exact hun
   .rw[<-zsr h2 hcl,Array.setIfInBounds_comm _ _ hji];exact hK
theorem ze1{f:FP}:∀ {os:List Oper}{fs:List FP}{bs:List Nat}{m:Nat},znj bs m f os fs=true->∃B:Nat->Prop,(∀b∈bs,B b)/\
 (∀j,B j->j∈bs\/∃t o,j=m+t/\os[t]? =some o/\∃e∈o.after,qH .any e=true/\B e.on)/\
 ∀(t:Nat)(o:Oper)(g:FP),os[t]? =some o->fs[t]? =some g->¬B (m+t)->zh5 f g=false
 | [],[],bs,m,_=>⟨fun j=>j∈bs,fun _ h=>h,fun _ h=>.inl h,fun t o g h=>by simp at h⟩
 | [],_::_,_,_,h=>by simp[znj]at h
 | _::_,[],_,_,h=>by simp[znj]at h
 |o'::os,g'::fs,bs,m,h=>by
  simp only[znj]at h
  cases hb:zi9 bs o' with
  |true=>
   rw[hb]at h;obtain⟨B,h1,h2,h3⟩:=ze1 (os:=os) (fs:=fs) h;refine⟨B,fun b hb=>h1 b (qB _ hb),fun j hj=>?_,fun t o g ho hg hn=>?_⟩
   .rcases h2 j hj with hm|⟨t,o,rfl,ho,he⟩
    .rcases q2.1 hm with rfl|hm
     .unfold zi9 at hb;obtain⟨e,he,hbe⟩:=List.any_eq_true.1 hb;rw[q1]at hbe;exact .inr ⟨0,o',rfl,rfl,e,by simpa using he,hbe.1,h1 _ (qB _ ((wy _ _).1 hbe.2))⟩
     .exact .inl hm
    .exact .inr ⟨t+1,o,O,by simpa using ho,he⟩
   .cases t with
    |zero=>exact absurd (h1 m List.mem_cons_self) hn
    |succ t=>exact h3 t o g (by simpa using ho) (by simpa using hg) (by rw[(O:m+1+t=m+(t+1))];exact hn)
  |false=>
   rw[hb]at h;simp only[q1,Bool.not_eq_true']at h;obtain⟨B,h1,h2,h3⟩:=ze1 (os:=os) (fs:=fs) h.2;refine⟨B,h1,fun j hj=>?_,fun t o g ho hg hn=>?_⟩
   .rcases h2 j hj with hm|⟨t,o,rfl,ho,he⟩
    .exact .inl hm
    .exact .inr ⟨t+1,o,O,by simpa using ho,he⟩
   .cases t with
    |zero=>simp at ho hg;subst ho;subst hg;exact h.1
    |succ t=>exact h3 t o g (by simpa using ho) (by simpa using hg) (by rw[(O:m+1+t=m+(t+1))];exact hn)
theorem zpy:∀(l:List Oper)(fs:List FP)(k:Nat)(listed:Array Bool)(Y:St),(∀j,l[j]? =ops[k+j]?)->(∀j,fs[j]? =fps[k+j]?)->(∀j,j<k->listed.getD j true=true)->(∀j o,k<=j->ops[j]? =some o->listed.getD j true=false)->
 qJ .any ops l.length k listed=true->zxb k l fs=true->qeq T C ops K l fs Y->qf6 T C ops fps K l.length listed Y
 | [],[],_,_,_,_,_,_,_,hB,_,h=>⟨by simpa[qJ]using hB,h⟩
 | [],_::_,_,_,_,_,_,_,_,_,_,h=>h.elim
 | _::_,[],_,_,_,_,_,_,_,_,_,h=>h.elim
 |o::l,f::fs,k,listed,Y,hl,hf,hlis,hull,hB,hfp,h=>by
  have h0:ops[k]? =some o:=by simpa using(hl 0).symm
  have hf0:fps[k]? =some f:=by simpa using(hf 0).symm
  simp only[List.length_cons,qJ,q1]at hB;obtain⟨⟨hr,hfr⟩,hB'⟩:=hB;simp only[zxb,q1]at hfp;obtain⟨x,hy,hK⟩:=h;obtain⟨B,b1,b2,b3⟩:=ze1 hfp.1;have hBop:∀j,B j->j≠k->∃oj,ops[j]? =some oj/\k<=j/\∃e∈oj.after,qH .any e=true/\B e.on:=fun j hj hne=>by
   rcases b2 j hj with hm|⟨t,oj,rfl,ho,he⟩
   .simp at hm;exact absurd hm hne
   .refine⟨oj,?_,O,he⟩;have:=hl (t+1);rw[List.getElem?_cons_succ,ho]at this;rw[(O:k+1+t=k+(t+1))];exact this.symm
  refine zqx h0 hf0 B (fun j hj hne=>by obtain⟨oj,h1,_,h2⟩:=hBop j hj hne;exact⟨oj,h1,h2⟩) l.length listed Y (fun j hj=>by
   by_cases hjk:j=k
   .subst hjk;exact hull j o (Nat.le_refl _) h0
   .obtain⟨oj,h1,h2,_⟩:=hBop j hj hjk;exact hull j oj h2 h1)
   (fun j oj fj hj hfj hne hun hno=>⟨Region.free_spec h0 hfr j oj hj hne hun hno,fun hnB=>?_⟩) (by simpa using hr) hy
   (zpy l fs (k+1) _ _ (fun j=>by have:=hl (j+1);simpa[qE,qF 1 j]using this) (fun j=>by have:=hf (j+1);simpa[qE,qF 1 j]using this)
     (fun j hj=>?_) (fun j oj hj hoj=>by rw[getD_set_ne true O];exact hull j oj O hoj) hB' hfp.2 hK)
  .have hkj:k<j:=by
    rcases qA j k with h'|h'
    .rw[hlis j h']at hun;cases hun
    .omega
   obtain⟨m,rfl⟩:∃m,j=k+(m+1):=⟨j-k-1,O⟩;have ho':l[m]? =some oj:=by have:=hl (m+1);rw[hj]at this;simpa using this
   have hf':fs[m]? =some fj:=by have:=hf (m+1);rw[hfj]at this;simpa using this
   exact b3 m oj fj ho' hf' (by rw[(O:k+1+m=k+(m+1))];exact hnB)
  .by_cases hjk:k=j
   .subst hjk;rcases qA k listed.size with h'|h'
    .simp[h']
    .simp[q0 h',q0 (xs:=listed.setIfInBounds k true) (i:=k) (by simpa using h')]
   .rw[getD_set_ne true hjk];exact hlis j O
theorem ze8{F:Wf}{c:Ctx}{Q:Exit->Act->World->Prop}(hT:TabOK P T)(hQ:∀Y a w,Rel c Y a w->K Y->Q .normal a w):
 ∀(fuel:Nat)(listed:Array Bool)(Y:St)(a:Act)(w:World),Rel c Y a w->qf6 T (CN P) ops fps K fuel listed Y->wpAnyIn F.F 0 P .any ops Q fuel listed a w
 |0,_,Y,a,w,h,hk=>⟨hk.1,hQ Y a w h hk.2⟩
 |fuel+1,listed,Y,a,w,h,hk=>by
  refine⟨fun h0=>hQ Y a w h (hk.1 h0),fun i hi=>?_⟩;obtain⟨o,f,x,ho,hf,hy,hK⟩:=hk.2 i hi;unfold wpOpIn;simp only[ho]
  cases x with
  |none=>
   obtain⟨hg,rfl⟩:=hy;rw[zk7]at hK;rcases jw h (zg2 hg)with ⟨_,h1⟩|⟨h1,_⟩
   .exact h1.elim
   .rw[Z7 (by rw[h1];simp)];exact⟨fun f _=>F.ok.fn f,ze8 hT hQ fuel _ _ _ _ (h.skip o) hK⟩
  |some rb=>
   obtain⟨r,bs⟩:=rb;obtain⟨⟨hg,hlo⟩,rfl,he⟩:=hy;rw[zk6]at hK;rcases jw h (zh2 hg)with ⟨h1,_⟩|⟨_,h1⟩
   .rw[Z6 h1];obtain⟨r',bs',⟨rfl,rfl⟩,hwp⟩:=zl7 hT hlo h (he (fun r' bs'=>r'=r/\bs'=bs) ⟨rfl,rfl⟩);exact(Oper.wpIn_mono (fun a' w' hr=>ze8 hT hQ fuel _ _ _ _ hr hK) (hwp Q))
   .exact h1.elim
theorem Rel.drawn{c:Ctx}{Y:St}{a:Act}{w:World}(h:Rel c Y a w)(n:Nat):Rel c Y a {w with drawn:=n}:=h.ext (Ext.drawn w n)
theorem zmz{F:Wf}{c:Ctx}{Q:Exit->Act->World->Prop}{id:Nat}{Y:St}{a:Act}{w:World}(hT:TabOK P T)(hm:P.follows .mixedOrders =true)(h:Rel c Y a w)
 (hk:qam T (CN P) ops.toList ops.toList Y fun fps Y=>zxb 0 ops.toList fps=true/\qK .any ops=true/\K Y) (hQ:∀Y a w,Rel c Y a w->K Y->Q .normal a w):
 (Code.region id ops true).wpIn F.F 0 P Q a w:=by
 obtain⟨fps,hl⟩:=zjx _ _ _ hk;have hconst:∀(l:List Oper)(fs:List FP)(Y:St),qeq T (CN P) ops (fun Y=>zxb 0 ops.toList fps=true/\qK .any ops=true/\K Y) l fs Y->
  (zxb 0 ops.toList fps=true/\qK .any ops=true)/\qeq T (CN P) ops K l fs Y:=by
  intro l
  induction l with
  |nil=>
   intro fs Y h
   cases fs with
   |nil=>exact⟨⟨h.1,h.2.1⟩,h.2.2⟩
   |cons _ _=>exact h.elim
  |cons o l ih=>
   intro fs Y h
   cases fs with
   |nil=>exact h.elim
   |cons f fs=>
    obtain⟨x,hy,hK⟩:=h;obtain⟨h1,h2⟩:=ih fs _ hK;exact⟨h1,x,hy,h2⟩
 obtain⟨⟨hfp,hB⟩,hlex⟩:=hconst _ _ _ hl;simp only[qK,q1]at hB;refine wpIn_region_any hm (ze8 (fps:=fps) hT hQ _ _ Y a _ (h.drawn _) ?_);have:=zpy (fps:=fps) ops.toList fps 0 (Array.replicate ops.size false) Y OC OC OC (fun j o _ ho=>by
  have hj:j<ops.size:=by rw[Array.getElem?_eq_some_iff]at ho;exact ho.1
  simp[hj]) (by simpa using hB.2) hfp hlex
 simpa using this
end
