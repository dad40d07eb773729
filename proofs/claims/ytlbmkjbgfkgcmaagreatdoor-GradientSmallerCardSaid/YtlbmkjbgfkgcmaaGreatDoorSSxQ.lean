/- A region that draws its order. -/
import Derived.Test.YtlbmkjbgfkgcmaaGreatDoorSSxP
set_option linter.all false
open Array renaming getElem?_eq_none->q0
open Bool renaming and_eq_true->q1
open List renaming mem_cons->q2,getD_eq_getElem?_getD->q3,mem_cons_of_mem->qB,map_cons->qD
open Nat renaming lt_or_ge->qA,add_assoc->qE,add_comm->qF
open Option renaming bind_some->q9,map_some->qC
open Go.Op renaming operands->qG
open Go.Region renaming binds->qH,ready->qI,lexFrom->qJ,lexB->qK
namespace Go.Sx
open Go
theorem zb6{ρ ρ':Operand->AV}:∀(l:List Operand),(∀x∈l,ρ x=ρ' x)->yz ρ l=yz ρ' l
 | [],_=>rfl
 |x::l,h=>by simp only[yz];rw[h x OC,zb6 l fun y hy=>h y (by simp[hy])]
theorem zhy{ρ ρ':Operand->AV}:∀(l:List (Nat×Operand)),(∀x∈l.map (·.2),ρ x=ρ' x)->zqf ρ l=zqf ρ' l
 | [],_=>rfl
 |(i,x)::l,h=>by simp only[zqf];rw[h x OC,zhy l fun y hy=>h y (by simp only[qD,q2];exact .inr hy)]
theorem zhx{ρ ρ':Operand->AV}:∀(l:List (Nat×Operand)),(∀x∈l.map (·.2),ρ x=ρ' x)->zly ρ l=zly ρ' l
 | [],_=>rfl
 |(i,x)::l,h=>by simp only[zly];rw[h x OC,zhx l fun y hy=>h y (by simp only[qD,q2];exact .inr hy)]
theorem zhw{T:Tab}{ρ ρ':Operand->AV}{hp:Hp}(op:Op)(dst:Nat)(h:∀x∈op.operands,ρ x=ρ' x):xg T op dst ρ hp=xg T op dst ρ' hp:=by
 cases op with
 |load t p=>simp only[xg];rw[h p (by simp[qG])]
 |store t p v=>simp only[xg];rw[h p (by simp[qG])]
 |indexAddr t x i=>simp only[xg];rw[h x (by simp[qG])]
 |call c=>
  have ha:∀x∈c.args.toList,ρ x=ρ' x:=fun x hx=>h x (by simp[qG,Call.operands];exact .inr (by simpa using hx))
  cases hc:c.callee with
  |value f=>
   have hf:ρ f=ρ' f:=h f (by simp[qG,Call.operands,hc]);simp only[xg,hc];rw[hf,zb6 _ ha]
  |invoke r m=>simp only[xg,hc]
  |builtin b=>
   cases b<;>simp only[xg,hc]
   .split
    .rename_i x y e;rw[ha x (by rw[e];simp)]
    .rfl
   .split
    .rename_i x e;rw[ha x (by rw[e];simp)]
    .rfl
 |buildSlice t n ps=>cases n<;>rfl
 |slice t x lo hi mx=>simp only[xg];rw[h x (by simp[qG])]
 |lookup t x i ok=>simp only[xg];rw[h x (by simp[qG])]
 |mapUpdate t m k v=>simp only[xg];rw[h m (by simp[qG])]
 |insert t m k v=>simp only[xg];rw[h m (by simp[qG])]
 | _=>rfl
theorem zp4{T:Tab}{C:Con}{ρ ρ':Operand->AV}(op:Op)(dst:Nat)(h:∀x∈op.operands,ρ x=ρ' x):ql T C op dst ρ=ql T C op dst ρ':=by
 funext ids bs E
 cases op with
 |call c=>
  have ha:∀x∈c.args.toList,ρ x=ρ' x:=fun x hx=>h x (by simp[qG,Call.operands];exact .inr (by simpa using hx))
  have hm:=zb6 (ρ:=ρ) (ρ':=ρ') _ ha
  cases hc:c.callee with
  |value f=>
   have hf:ρ f=ρ' f:=h f (by simp[qG,Call.operands,hc]);simp only[ql,hc];rw[hf,hm]
  |invoke r m=>simp only[ql,hc]
  |builtin b=>
   cases b<;>simp only[ql,hc,hm]
   .split
    .rename_i x y t t' e _;rw[ha x (by rw[e];simp),ha y (by rw[e];simp)]
    .rfl
   .split
    .rename_i x t e _;rw[ha x (by rw[e];simp)]
    .rfl
 |build t ps=>simp only[ql];rw[zhy (ρ:=ρ) (ρ':=ρ') ps.toList fun x hx=>h x (by simpa[qG]using hx)]
 |buildSlice t n ps=>simp only[ql];rw[zhx (ρ:=ρ) (ρ':=ρ') ps.toList fun x hx=>h x (by simpa[qG]using hx)]
 |makeSlice t l c=>simp only[ql];rw[h l (by simp[qG]),h c (by simp[qG])]
 |makeFunc f x y=>simp only[ql];rw[zb6 (ρ:=ρ) (ρ':=ρ') y.toList fun z hz=>h z (by simp[qG];exact .inr (by simpa using hz))]
 |move x=>simp only[ql];rw[h x (by simp[qG])]
 |assign x=>simp only[ql];rw[h x (by simp[qG])]
 |pick c x y=>simp only[ql];rw[h c (by simp[qG]),h x (by simp[qG]),h y (by simp[qG])]
 |box t x=>simp only[ql];rw[h x (by simp[qG])]
 |load t x=>simp only[ql];rw[h x (by simp[qG])]
 |store t x y=>simp only[ql];rw[h x (by simp[qG]),h y (by simp[qG])]
 |nilCheck x=>simp only[ql];rw[h x (by simp[qG])]
 |binOp b t x y ty=>simp only[ql];rw[h x (by simp[qG]),h y (by simp[qG])]
 |unOp u t x=>simp only[ql];rw[h x (by simp[qG])]
 |convert s d x=>simp only[ql];rw[h x (by simp[qG])]
 |fieldAddr t x f=>simp only[ql];rw[h x (by simp[qG])]
 |field t x f=>simp only[ql];rw[h x (by simp[qG])]
 |indexAddr t x i=>simp only[ql];rw[h x (by simp[qG]),h i (by simp[qG])]
 |index t x i=>simp only[ql];rw[h x (by simp[qG]),h i (by simp[qG])]
 |extract x n=>simp only[ql];rw[h x (by simp[qG])]
 |lookup t x i ok=>simp only[ql];rw[h x (by simp[qG]),h i (by simp[qG])]
 |mapUpdate t m k v=>simp only[ql];rw[h m (by simp[qG]),h k (by simp[qG]),h v (by simp[qG])]
 |insert t m k v=>simp only[ql];rw[h m (by simp[qG]),h k (by simp[qG]),h v (by simp[qG])]
 |makeMap t r=>
  simp only[ql];have:r.map ρ=r.map ρ':=by
   cases r with
   |none=>rfl
   |some x=>simp only[qC];rw[h x (by simp[qG])]
  rw[this]
 |slice t x lo hi mx=>
  simp only[ql];have ho:∀r:Option Operand,(∀y,r=some y->ρ y=ρ' y)->r.map ρ=r.map ρ':=fun r hr=>by
   cases r with
   |none=>rfl
   |some y=>simp only[qC];rw[hr y rfl]
  rw[h x (by simp[qG]),ho lo fun y e=>h y (by simp[qG,e]),ho hi fun y e=>h y (by simp[qG,e]),ho mx fun y e=>h y (by simp[qG,e])]
 | _=>rfl
def gd(ops:Array Oper)(o:Oper)(Y:St):Option Bool:=
 match o.guard with
 |none=>some true
 |some (j,want)=>match(ops[j]?).bind (·.dst)with
  |none=>none
  |some d=>match Y.sl.getD d .any with
   |.bool b=>some (b==want)
   |.tup []=>some false
   | _=>none
theorem getD_some{l:List AV}{d:Nat}{u:AV}(h:l.getD d .any =u)(hu:u≠ .any):l[d]? =some u:=by
 rw[q3]at h
 cases hq:l[d]? with
 |none=>rw[hq]at h;exact absurd h.symm hu
 |some x=>rw[hq]at h;simp at h;rw[h]
theorem zs4{ops:Array Oper}{o:Oper}{Y:St}{run skip:St->Prop}(hk:zap ops.toList o Y run skip):
 (gd ops o Y=some true/\run Y)\/(gd ops o Y=some false/\skip Y):=by
 unfold zap at hk;unfold gd;split at hk
 .rename_i hn;exact .inl ⟨by simp[hn],hk⟩
 .rename_i j want hgd;split at hk
  .exact hk.elim
  .rename_i oj hoj;split at hk
   .exact hk.elim
   .rename_i d hd;have hoj':ops[j]? =some oj:=by simpa using hoj
    simp only[hgd,hoj',q9,hd];split at hk
    .rename_i b hb;have hst:(⟨Y.sl.set d (.bool b),Y.hp⟩:St)=Y:=by rw[zi2 _ _ _ (getD_some hb OC)]
     simp only[hb];cases b<;>cases want<;>(simp only[xq]at hk;rw[hst]at hk;simp[hk])
    .rename_i hb;simp only[hb];simp[hk]
    .exact hk.elim
theorem zhe{ops:Array Oper}{o:Oper}{Y:St}(h:gd ops o Y=some true):zap ops.toList o Y (fun _=>True) (fun _=>False):=by
 unfold gd at h;unfold zap;split at h
 .rename_i hn;simp[hn]
 .rename_i j want hgd;simp only[hgd]
  cases hoj:ops[j]? with
  |none=>simp[hoj]at h
  |some oj=>
   cases hd:oj.dst with
   |none=>simp[hoj,hd]at h
   |some d=>
    simp only[hoj,q9,hd]at h;have hoj':ops.toList[j]? =some oj:=by simpa using hoj
    simp only[hoj',hd];split at h
    .rename_i b hb;rw[hb];simp only[xq];cases b<;>cases want<;>simp_all
    .cases h
    .cases h
theorem zgn{ops:Array Oper}{o:Oper}{Y:St}(h:gd ops o Y=some false):zap ops.toList o Y (fun _=>False) (fun _=>True):=by
 unfold gd at h;unfold zap;split at h
 .cases h
 .rename_i j want hgd;simp only[hgd]
  cases hoj:ops[j]? with
  |none=>simp[hoj]at h
  |some oj=>
   cases hd:oj.dst with
   |none=>simp[hoj,hd]at h
   |some d=>
    simp only[hoj,q9,hd]at h;have hoj':ops.toList[j]? =some oj:=by simpa using hoj
    simp only[hoj',hd];split at h
    .rename_i b hb;rw[hb];simp only[xq];cases b<;>cases want<;>simp_all
    .rename_i hb;rw[hb];trivial
    .cases h
section
variable {P:Program} {T:Tab} {C:Con} {ops:Array Oper} {fps:List FP} {K:St->Prop}
abbrev Oc:=Option (AV×List Blk)
def Yl(T:Tab)(C:Con)(ops:Array Oper)(o:Oper)(f:FP)(Y:St):Oc->Prop
 |none=>gd ops o Y=some false/\f=([],false)
 |some (r,bs)=>(gd ops o Y=some true/\Nat.ble (vf o) 99999=true)/\f=(nd T o Y,wr o.op)/\∀E:AV->List Blk->Prop,E r bs->ql T C o.op (vf o) (zf Y.sl) (nd T o Y) (qi Y.hp (nd T o Y)) E
def Oc.v:Oc->AV
 |none=>.tup []
 |some (r,_)=>r
def Oc.b:Oc->List Blk
 |none=> []
 |some (_,bs)=>bs
def wid(f:FP):List Nat:=match f.2 with
 |true=>f.1
 |false=> []
def post(o:Oper)(f:FP)(Y:St)(x:Oc):St:=
 ⟨match o.dst with
  |some d=>Y.sl.set d x.v
  |none=>Y.sl,qp Y.hp (wid f) x.b⟩
theorem zkh{o:Oper}{Y:St}:post o ([],false) Y none=⟨match o.dst with
 |some d=>Y.sl.set d (.tup [])
 |none=>Y.sl,Y.hp⟩:=by simp[post,wid,Oc.v,qp]
theorem zkg{T:Tab}{o:Oper}{Y:St}{r:AV}{bs:List Blk}:post o (nd T o Y,wr o.op) Y (some (r,bs))=nxt o (nd T o Y) Y r bs:=by
 unfold post nxt wid;cases wr o.op<;>simp[Oc.v,Oc.b,qp]<;>rfl
def qd9(T:Tab)(C:Con)(ops:Array Oper)(K:St->Prop):List Oper->List FP->St->Prop
 | [],[],Y=>K Y
 |o::os,f::fs,Y=>∃x,Yl T C ops o f Y x/\qd9 T C ops K os fs (post o f Y x)
 | _,_,_=>False
theorem zja:∀(l:List Oper)(Y:St)(K:List FP->St->Prop),zz5 T C ops.toList l Y K->∃fps,qd9 T C ops (K fps) l fps Y
 | [],Y,K,h=>⟨[],h⟩
 |o::rest,Y,K,h=>by
  simp only[zz5,opD1]at h;rcases zs4 h with ⟨hg,h⟩|⟨hg,h⟩
  .split at h
   .rw[zkn,zlm]at h;obtain⟨hlo,h⟩:=h;obtain⟨r,bs,h1,h2⟩:=qa3 _ _ _ _ _ _ _ _ h;obtain⟨fps,h3⟩:=zja rest _ _ h1;refine⟨(nd T o Y,wr o.op)::fps,some (r,bs),⟨⟨hg,hlo⟩,rfl,h2⟩,?_⟩;rw[zkg];exact h3
   .exact h.elim
  .rw[xq]at h;obtain⟨fps,h3⟩:=zja rest _ _ h;refine⟨([],false)::fps,none,⟨hg,rfl⟩,?_⟩;rw[zkh];exact h3
theorem ztj{sl:List AV}{d:Nat}{v:AV}{x:Operand}(h:x≠ .tmp d):zf (sl.set d v) x=zf sl x:=by
 cases x with
 |tmp t=>
  have hne:d≠t:=fun e=>h (by rw[e])
  simp only[zf,q3];rw[List.getElem?_set_ne hne]
 | _=>rfl
theorem zdi{o:Oper}{f:FP}{Y:St}{y:Oc}{x:Operand}(h:∀d,o.dst=some d->x≠ .tmp d):zf (post o f Y y).sl x=zf Y.sl x:=by
 unfold post
 cases hd:o.dst with
 |none=>rfl
 |some d=>exact ztj (h d hd)
theorem zbj{o:Oper}{d:Nat}(h:d∉o.looksAt ops):∀x∈o.op.operands,x≠ .tmp d:=fun x hx e=>h (by
 subst e;exact List.mem_append_left _ (List.mem_filterMap.2 ⟨.tmp d,by simpa using hx,rfl⟩))
theorem zg1{f g:FP}(h:zhg f g=false):(∀i∈wid f,i∉g.1)/\∀i∈wid g,i∉f.1:=by
 obtain⟨l,a⟩:=f;obtain⟨m,b⟩:=g;unfold zhg at h;cases a<;>cases b<;>simp only[Bool.or_true,Bool.true_or,Bool.or_false,Bool.not_eq_false']at h<;>simp only[wid]
 .simp
 .rw[jk]at h;exact⟨OC,fun i hi hj=>h i hj hi⟩
 .rw[jk]at h;exact⟨h,OC⟩
 .rw[jk]at h;exact⟨h,fun i hi hj=>h i hj hi⟩
theorem zyy(f:FP):∀i∈wid f,i∈f.1:=fun i hi=>by
 unfold wid at hi;split at hi
 .exact hi
 .simp at hi
theorem zdw:∀ {is:List Nat}{bs:List Blk}{h:Hp}{i:Nat},i∉is->hget (qp h is bs) i=hget h i
 | [],_,_,_,_=>by simp[qp]
 | _::_,[],_,_,_=>by simp[qp]
 |j::is,b::bs,h,i,hi=>by
  simp only[q2,not_or]at hi;simp only[qp];rw[zdw hi.2,zt hi.1]
theorem zgk{is:List Nat}{bs:List Blk}{h:Hp}:∀ {js:List Nat},(∀j∈js,j∉is)->qi (qp h is bs) js=qi h js
 | [],_=>rfl
 |j::js,hj=>by
  simp only[qi];rw[zdw (hj j OC),zgk fun k hk=>hj k (by simp[hk])]
theorem zky{i j:Nat}(hij:i≠j){v u:Blk}:∀ {h:Hp},yk (yk h i v) j u=yk (yk h j u) i v
 | []=>rfl
 |(a,b)::r=>by
  rw[jm a b r i v,jm a b r j u];by_cases e1:a=i
  .have e2:a≠j:=fun e=>hij (e1.symm.trans e)
   rw[Z6 e1,Z7 e2,jm,jm,Z7 e2,Z6 e1]
  .by_cases e2:a=j
   .rw[Z7 e1,Z6 e2,jm,jm,Z6 e2,Z7 e1]
   .rw[Z7 e1,Z7 e2,jm,jm,Z7 e2,Z7 e1,zky hij]
theorem zh2{i:Nat}{v:Blk}:∀ {is:List Nat}{bs:List Blk}{h:Hp},i∉is->qp (yk h i v) is bs=yk (qp h is bs) i v
 | [],_,_,_=>by simp[qp]
 | _::_,[],_,_=>by simp[qp]
 |j::is,b::bs,h,hi=>by
  simp only[q2,not_or]at hi;simp only[qp];rw[zky hi.1,zh2 hi.2]
theorem zh3:∀ {is js:List Nat}{bs cs:List Blk}{h:Hp},(∀i∈is,i∉js)->qp (qp h is bs) js cs=qp (qp h js cs) is bs
 | [],js,bs,cs,h,_=>by simp[qp]
 | _::_,js,[],cs,h,_=>by simp[qp]
 |i::is,js,b::bs,cs,h,hd=>by
  simp only[qp];rw[zh3 (fun k hk=>hd k (by simp[hk])),zh2 (hd i OC)]
theorem xd{h h':Hp}:∀ {l:List Nat},(∀i∈l,hget h' i=hget h i)->qi h' l=qi h l
 | [],_=>rfl
 |i::l,e=>by simp only[qi];rw[e i OC,xd fun j hj=>e j (by simp[hj])]
theorem zgo{h h':Hp}{l:List Nat}(e:∀i∈za8 h (za8 h l),hget h' i=hget h i):za8 h' (za8 h' l)=za8 h (za8 h l):=by
 have e1:za8 h' l=za8 h l:=by
  unfold za8;rw[xd fun i hi=>e i (zdn (zdn hi))]
 rw[e1];show nub (za8 h l++zp0 (qi h' (za8 h l)))=nub (za8 h l++zp0 (qi h (za8 h l)));rw[xd fun i hi=>e i (zdn hi)]
theorem zsg{T:Tab}{ρ:Operand->AV}{h h':Hp}(op:Op)(dst:Nat)(e:∀i∈xg T op dst ρ h,hget h' i=hget h i):xg T op dst ρ h'=xg T op dst ρ h:=by
 cases op with
 |call c=>
  cases hc:c.callee with
  |value f=>
   simp only[xg,hc]at e⊢;split
   .rename_i g caps hf;simp only[hf]at e;split
    .rename_i hn;simp only[hn]at e;exact zgo e
    .rename_i n hn;simp only[hn]at e;rw[zgo fun i hi=>e i (by simp[hi])]
   .rfl
   .rfl
  |invoke r m=>simp only[xg,hc]
  |builtin b=>cases b<;>simp only[xg,hc]
 |buildSlice t n ps=>cases n<;>rfl
 | _=>rfl
theorem qab{oi oj:Oper}{f:FP}{Y:St}{x:Oc}(h:∀d,oi.dst=some d->d∉oj.looksAt ops)(e:∀i∈nd T oj Y,hget (post oi f Y x).hp i=hget Y.hp i):nd T oj (post oi f Y x)=nd T oj Y:=by
 unfold nd at e⊢;rw[zhw (ρ':=zf Y.sl) _ _ fun z hz=>zdi fun d hd=>zbj (h d hd) z hz];exact zsg _ _ e
theorem zv5{oi oj:Oper}{f:FP}{Y:St}{x:Oc}(h:∀d,oi.dst=some d->d∉oj.looksAt ops)(e:∀i∈nd T oj (post oi f Y x),hget (post oi f Y x).hp i=hget Y.hp i):nd T oj (post oi f Y x)=nd T oj Y:=by
 unfold nd at e⊢;rw[zhw (ρ':=zf Y.sl) _ _ fun z hz=>zdi fun d hd=>zbj (h d hd) z hz]at e⊢;exact(zsg _ _ fun i hi=>(e i hi).symm).symm
theorem zdu{oi:Oper}{f:FP}{Y:St}{x:Oc}{i:Nat}(h:i∉wid f):hget (post oi f Y x).hp i=hget Y.hp i:=by
 have:=zgk (is:=wid f) (js:= [i]) (bs:=x.b) (h:=Y.hp) (by intro j hj hi;simp at hj;subst hj;exact h hi);simpa[qi,post]using this
theorem zs8{oi oj:Oper}{f:FP}{Y:St}{x:Oc}(h:∀d,oi.dst=some d->d∉oj.looksAt ops):gd ops oj (post oi f Y x)=gd ops oj Y:=by
 unfold gd;split
 .rfl
 .rename_i j want hg;cases ht:(ops[j]?).bind (·.dst)with
  |none=>rfl
  |some d=>
   simp only[];have:(post oi f Y x).sl.getD d .any =Y.sl.getD d .any :=zdi (x:=.tmp d) fun d' hd e=>h d' hd (by
    cases e
    simp[Oper.looksAt,hg,ht])
   rw[this]
theorem Yl.keep{oi oj:Oper}{f g:FP}{Y:St}{x y:Oc}(h:∀d,oi.dst=some d->d∉oj.looksAt ops)(hc:zhg f g=false):
 Yl T C ops oj g (post oi f Y x) y<->Yl T C ops oj g Y y:=by
 cases y with
 |none=>simp only[Yl];rw[zs8 h]
 |some rb=>
  obtain⟨r,bs⟩:=rb;simp only[Yl];rw[zs8 h];have he:=zp4 (T:=T) (C:=C) (ρ:=zf (post oi f Y x).sl) (ρ':=zf Y.sl) oj.op (vf oj) fun z hz=>zdi fun d hd=>zbj (h d hd) z hz
  rw[he];constructor
  .rintro⟨h1,h2,h3⟩;have hd:∀i∈nd T oj (post oi f Y x),i∉wid f:=fun j hj hi=>(zg1 hc).1 j hi (by rw[h2];exact hj)
   have hn:=zv5 h fun i hi=>zdu (hd i hi)
   rw[hn]at h2 h3;have:qi (post oi f Y x).hp (nd T oj Y)=qi Y.hp (nd T oj Y):=xd fun j hj=>zdu (hd j (by rw[hn];exact hj))
   rw[this]at h3;exact⟨h1,h2,h3⟩
  .rintro⟨h1,h2,h3⟩;have hd:∀i∈nd T oj Y,i∉wid f:=fun j hj hi=>(zg1 hc).1 j hi (by rw[h2];exact hj)
   have hn:=qab (x:=x) h fun i hi=>zdu (hd i hi)
   have:qi (post oi f Y x).hp (nd T oj Y)=qi Y.hp (nd T oj Y):=xd fun j hj=>zdu (hd j hj)
   rw[hn,this];exact⟨h1,h2,h3⟩
theorem zr2{oi oj:Oper}{f g:FP}{Y:St}{x y:Oc}(h:∀d,oi.dst=some d->oj.dst≠some d)(hc:zhg f g=false):
 post oj g (post oi f Y x) y=post oi f (post oj g Y y) x:=by
 unfold post;rw[zh3 fun i hi hj=>(zg1 hc).1 i hi (zyy g i hj)]
 cases hi:oi.dst with
 |none=>rfl
 |some d=>
  cases hj:oj.dst with
  |none=>rfl
  |some e=>
   have hne:d≠e:=fun he=>h d hi (by rw[hj,he])
   simp only[];rw[List.set_comm _ _ hne]
theorem zp6{f g:FP}(h:zhg f g=false):zhg g f=false:=by
 obtain⟨l,a⟩:=f;obtain⟨m,b⟩:=g;unfold zhg at h⊢;have hs:zc5 l m=true->zc5 m l=true:=fun h=>by rw[jk]at h⊢;exact fun i hi hj=>h i hj hi
 cases a<;>cases b<;>simp_all
def stepX(T:Tab)(C:Con)(ops:Array Oper)(fps:List FP)(i:Nat)(K:St->Prop)(Y:St):Prop:=
 ∃o f x,ops[i]? =some o/\fps[i]? =some f/\Yl T C ops o f Y x/\K (post o f Y x)
def qfs(T:Tab)(C:Con)(ops:Array Oper)(fps:List FP)(K:St->Prop):Nat->Array Bool->St->Prop
 |0,listed,Y=>qI .any ops listed= []/\K Y
 |fuel+1,listed,Y=>(qI .any ops listed= []->K Y)/\∀i∈qI .any ops listed,stepX T C ops fps i (qfs T C ops fps K fuel (listed.setIfInBounds i true)) Y
theorem zp9{i:Nat}{oi:Oper}{fi:FP}{x:Oc}(hi:ops[i]? =some oi)(hfi:fps[i]? =some fi)(B:Nat->Prop)
 (hB:∀k,B k->k≠i->∃ok,ops[k]? =some ok/\∃e∈ok.after,qH .any e=true/\B e.on):
 ∀(fuel:Nat)(listed:Array Bool)(Y:St),(∀k,B k->listed.getD k true=false)->
  (∀j oj fj,ops[j]? =some oj->fps[j]? =some fj->j≠i->listed.getD j true=false->(∀e∈oj.after,qH .any e=true->e.on≠i)->oi.apart ops oj=true/\(¬B j->zhg fi fj=false))->
  i∈qI .any ops listed->Yl T C ops oi fi Y x->
  qfs T C ops fps K fuel (listed.setIfInBounds i true) (post oi fi Y x)->qfs T C ops fps K (fuel+1) listed Y:=by
 intro fuel
 induction fuel with
 |zero=>
  intro listed Y _ _ hr hy H;refine⟨fun h=>(by rw[h]at hr;cases hr),fun j hj=>?_⟩;by_cases hji:j=i
  .subst hji;exact⟨oi,fi,x,hi,hfi,hy,H⟩
  .have:=ready_mono hj hji;rw[H.1]at this;cases this
 |succ fuel ih=>
  intro listed Y hBl hfree hr hy H;refine⟨fun h=>(by rw[h]at hr;cases hr),fun j hj=>?_⟩;by_cases hji:j=i
  .subst hji;exact⟨oi,fi,x,hi,hfi,hy,H⟩
  .obtain⟨oj,fj,y,hoj,hfj,hyj,hK⟩:=H.2 j (ready_mono hj hji);obtain⟨hjun,oj',hoj',hall⟩:=mem_ready.1 hj;rw[hoj]at hoj';cases hoj'
   have hnot:∀e∈oj.after,qH .any e=true->e.on≠i:=fun e he hb heq=>by
    have h1:=hall e he hb;have h0:=(mem_ready.1 hr).1;rw[heq]at h1;rcases qA i listed.size with h'|h'
    .simp[h']at h0 h1;rw[h0]at h1;cases h1
    .simp[q0 h']at h1
   have hBj:¬B j:=fun hb=>by
    obtain⟨ok,hok,e,he,hbi,hbe⟩:=hB j hb hji;rw[hoj]at hok;cases hok
    have h1:=hall e he hbi;have h0:=hBl _ hbe;rcases qA e.on listed.size with h'|h'
    .simp[h']at h0 h1;rw[h0]at h1;cases h1
    .simp[q0 h']at h1
   obtain⟨hap,hcl⟩:=hfree j oj fj hoj hfj hji hjun hnot;have hcl:=hcl hBj;obtain⟨h1,h2,h3⟩:=Oper.apart_spec hap;have hyj':Yl T C ops oj fj Y y:=(Yl.keep h1 hcl).1 hyj;have hyi':Yl T C ops oi fi (post oj fj Y y) x:=(Yl.keep h3 (zp6 hcl)).2 hy;refine⟨oj,fj,y,hoj,hfj,hyj',ih _ _ (fun k hk=>by rw[getD_set_ne true (fun e=>hBj (by rw[e];exact hk))];exact hBl k hk) (fun k ok fk hk hfk hki hun hno=>?_) (ready_mono hr (Ne.symm hji)) hyi' ?_⟩
   .refine hfree k ok fk hk hfk hki ?_ hno;by_cases hjk:j=k
    .subst hjk;exact hjun
    .rw[getD_set_ne true hjk]at hun;exact hun
   .rw[<-zr2 h2 hcl,Array.setIfInBounds_comm _ _ hji];exact hK
theorem zek{f:FP}:∀ {os:List Oper}{fs:List FP}{bs:List Nat}{m:Nat},zmx bs m f os fs=true->∃B:Nat->Prop,(∀b∈bs,B b)/\
 (∀j,B j->j∈bs\/∃t o,j=m+t/\os[t]? =some o/\∃e∈o.after,qH .any e=true/\B e.on)/\
 ∀(t:Nat)(o:Oper)(g:FP),os[t]? =some o->fs[t]? =some g->¬B (m+t)->zhg f g=false
 | [],[],bs,m,_=>⟨fun j=>j∈bs,fun _ h=>h,fun _ h=>.inl h,fun t o g h=>by simp at h⟩
 | [],_::_,_,_,h=>by simp[zmx]at h
 | _::_,[],_,_,h=>by simp[zmx]at h
 |o'::os,g'::fs,bs,m,h=>by
  simp only[zmx]at h
  cases hb:zii bs o' with
  |true=>
   rw[hb]at h;obtain⟨B,h1,h2,h3⟩:=zek (os:=os) (fs:=fs) h;refine⟨B,fun b hb=>h1 b (qB _ hb),fun j hj=>?_,fun t o g ho hg hn=>?_⟩
   .rcases h2 j hj with hm|⟨t,o,rfl,ho,he⟩
    .rcases q2.1 hm with rfl|hm
     .unfold zii at hb;obtain⟨e,he,hbe⟩:=List.any_eq_true.1 hb;rw[q1]at hbe;exact .inr ⟨0,o',rfl,rfl,e,by simpa using he,hbe.1,h1 _ (qB _ ((jg _ _).1 hbe.2))⟩
     .exact .inl hm
    .exact .inr ⟨t+1,o,O,by simpa using ho,he⟩
   .cases t with
    |zero=>exact absurd (h1 m List.mem_cons_self) hn
    |succ t=>exact h3 t o g (by simpa using ho) (by simpa using hg) (by rw[(O:m+1+t=m+(t+1))];exact hn)
  |false=>
   rw[hb]at h;simp only[q1,Bool.not_eq_true']at h;obtain⟨B,h1,h2,h3⟩:=zek (os:=os) (fs:=fs) h.2;refine⟨B,h1,fun j hj=>?_,fun t o g ho hg hn=>?_⟩
   .rcases h2 j hj with hm|⟨t,o,rfl,ho,he⟩
    .exact .inl hm
    .exact .inr ⟨t+1,o,O,by simpa using ho,he⟩
   .cases t with
    |zero=>simp at ho hg;subst ho;subst hg;exact h.1
    |succ t=>exact h3 t o g (by simpa using ho) (by simpa using hg) (by rw[(O:m+1+t=m+(t+1))];exact hn)
theorem zo8:∀(l:List Oper)(fs:List FP)(k:Nat)(listed:Array Bool)(Y:St),(∀j,l[j]? =ops[k+j]?)->(∀j,fs[j]? =fps[k+j]?)->(∀j,j<k->listed.getD j true=true)->(∀j o,k<=j->ops[j]? =some o->listed.getD j true=false)->
 qJ .any ops l.length k listed=true->zwt k l fs=true->qd9 T C ops K l fs Y->qfs T C ops fps K l.length listed Y
 | [],[],_,_,_,_,_,_,_,hB,_,h=>⟨by simpa[qJ]using hB,h⟩
 | [],_::_,_,_,_,_,_,_,_,_,_,h=>h.elim
 | _::_,[],_,_,_,_,_,_,_,_,_,h=>h.elim
 |o::l,f::fs,k,listed,Y,hl,hf,hlis,hull,hB,hfp,h=>by
  have h0:ops[k]? =some o:=by simpa using(hl 0).symm
  have hf0:fps[k]? =some f:=by simpa using(hf 0).symm
  simp only[List.length_cons,qJ,q1]at hB;obtain⟨⟨hr,hfr⟩,hB'⟩:=hB;simp only[zwt,q1]at hfp;obtain⟨x,hy,hK⟩:=h;obtain⟨B,b1,b2,b3⟩:=zek hfp.1;have hBop:∀j,B j->j≠k->∃oj,ops[j]? =some oj/\k<=j/\∃e∈oj.after,qH .any e=true/\B e.on:=fun j hj hne=>by
   rcases b2 j hj with hm|⟨t,oj,rfl,ho,he⟩
   .simp at hm;exact absurd hm hne
   .refine⟨oj,?_,O,he⟩;have:=hl (t+1);rw[List.getElem?_cons_succ,ho]at this;rw[(O:k+1+t=k+(t+1))];exact this.symm
  refine zp9 h0 hf0 B (fun j hj hne=>by obtain⟨oj,h1,_,h2⟩:=hBop j hj hne;exact⟨oj,h1,h2⟩) l.length listed Y (fun j hj=>by
   by_cases hjk:j=k
   .subst hjk;exact hull j o (Nat.le_refl _) h0
   .obtain⟨oj,h1,h2,_⟩:=hBop j hj hjk;exact hull j oj h2 h1)
   (fun j oj fj hj hfj hne hun hno=>⟨Region.free_spec h0 hfr j oj hj hne hun hno,fun hnB=>?_⟩) (by simpa using hr) hy
   (zo8 l fs (k+1) _ _ (fun j=>by have:=hl (j+1);simpa[qE,qF 1 j]using this) (fun j=>by have:=hf (j+1);simpa[qE,qF 1 j]using this)
     (fun j hj=>?_) (fun j oj hj hoj=>by rw[getD_set_ne true O];exact hull j oj O hoj) hB' hfp.2 hK)
  .have hkj:k<j:=by
    rcases qA j k with h'|h'
    .rw[hlis j h']at hun;cases hun
    .omega
   obtain⟨m,rfl⟩:∃m,j=k+(m+1):=⟨j-k-1,O⟩;have ho':l[m]? =some oj:=by have:=hl (m+1);rw[hj]at this;simpa using this
   have hf':fs[m]? =some fj:=by have:=hf (m+1);rw[hfj]at this;simpa using this
   exact b3 m oj fj ho' hf' (by rw[(O:k+1+m=k+(m+1))];exact hnB)
  .by_cases hjk:k=j
   .subst hjk;rcases qA k listed.size with h'|h'
    .simp[h']
    .simp[q0 h',q0 (xs:=listed.setIfInBounds k true) (i:=k) (by simpa using h')]
   .rw[getD_set_ne true hjk];exact hlis j O
theorem zer{F:Wf}{c:Ctx}{Q:Exit->Act->World->Prop}(hT:TabOK P T)(hQ:∀Y a w,Rel c Y a w->K Y->Q .normal a w):
 ∀(fuel:Nat)(listed:Array Bool)(Y:St)(a:Act)(w:World),Rel c Y a w->qfs T (CN P) ops fps K fuel listed Y->wpAnyIn F.F 0 P .any ops Q fuel listed a w
 |0,_,Y,a,w,h,hk=>⟨hk.1,hQ Y a w h hk.2⟩
 |fuel+1,listed,Y,a,w,h,hk=>by
  refine⟨fun h0=>hQ Y a w h (hk.1 h0),fun i hi=>?_⟩;obtain⟨o,f,x,ho,hf,hy,hK⟩:=hk.2 i hi;unfold wpOpIn;simp only[ho]
  cases x with
  |none=>
   obtain⟨hg,rfl⟩:=hy;rw[zkh]at hK;rcases jo h (zgn hg)with ⟨_,h1⟩|⟨h1,_⟩
   .exact h1.elim
   .rw[Z7 (by rw[h1];simp)];exact⟨fun f _=>F.ok.fn f,zer hT hQ fuel _ _ _ _ (h.skip o) hK⟩
  |some rb=>
   obtain⟨r,bs⟩:=rb;obtain⟨⟨hg,hlo⟩,rfl,he⟩:=hy;rw[zkg]at hK;rcases jo h (zhe hg)with ⟨h1,_⟩|⟨_,h1⟩
   .rw[Z6 h1];obtain⟨r',bs',⟨rfl,rfl⟩,hwp⟩:=zlc hT hlo h (he (fun r' bs'=>r'=r/\bs'=bs) ⟨rfl,rfl⟩);exact(Oper.wpIn_mono (fun a' w' hr=>zer hT hQ fuel _ _ _ _ hr hK) (hwp Q))
   .exact h1.elim
theorem Rel.drawn{c:Ctx}{Y:St}{a:Act}{w:World}(h:Rel c Y a w)(n:Nat):Rel c Y a {w with drawn:=n}:=h.ext (Ext.drawn w n)
theorem zmc{F:Wf}{c:Ctx}{Q:Exit->Act->World->Prop}{id:Nat}{Y:St}{a:Act}{w:World}(hT:TabOK P T)(hm:P.follows .mixedOrders =true)(h:Rel c Y a w)
 (hk:zz5 T (CN P) ops.toList ops.toList Y fun fps Y=>zwt 0 ops.toList fps=true/\qK .any ops=true/\K Y) (hQ:∀Y a w,Rel c Y a w->K Y->Q .normal a w):
 (Code.region id ops true).wpIn F.F 0 P Q a w:=by
 obtain⟨fps,hl⟩:=zja _ _ _ hk;have hconst:∀(l:List Oper)(fs:List FP)(Y:St),qd9 T (CN P) ops (fun Y=>zwt 0 ops.toList fps=true/\qK .any ops=true/\K Y) l fs Y->
  (zwt 0 ops.toList fps=true/\qK .any ops=true)/\qd9 T (CN P) ops K l fs Y:=by
  intro l
  induction l with
  |nil=>
   intro fs Y h
   cases fs with
   |nil=>exact⟨⟨h.1,h.2.1⟩,h.2.2⟩
   |cons _ _=>exact h.elim
  |cons o l ih=>
   intro fs Y h
   cases fs with
   |nil=>exact h.elim
   |cons f fs=>
    obtain⟨x,hy,hK⟩:=h;obtain⟨h1,h2⟩:=ih fs _ hK;exact⟨h1,x,hy,h2⟩
 obtain⟨⟨hfp,hB⟩,hlex⟩:=hconst _ _ _ hl;simp only[qK,q1]at hB;refine wpIn_region_any hm (zer (fps:=fps) hT hQ _ _ Y a _ (h.drawn _) ?_);have:=zo8 (fps:=fps) ops.toList fps 0 (Array.replicate ops.size false) Y OC OC OC (fun j o _ ho=>by
  have hj:j<ops.size:=by rw[Array.getElem?_eq_some_iff]at ho;exact ho.1
  simp[hj]) (by simpa using hB.2) hfp hlex
 simpa using this
end
