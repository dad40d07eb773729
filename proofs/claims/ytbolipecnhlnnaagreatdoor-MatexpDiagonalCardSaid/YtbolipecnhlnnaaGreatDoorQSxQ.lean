/-
  A region that draws its order.
-/
import Derived.Test.YtbolipecnhlnnaaGreatDoorQSxP
set_option linter.unusedVariables false
set_option linter.unusedSimpArgs false
open Array renaming getElem?_eq_none->q2
open Bool renaming and_eq_true->q3
open List renaming mem_cons->q4,getD_eq_getElem?_getD->q5,mem_cons_of_mem->q9,map_cons->qB
open Nat renaming lt_or_ge->q7,add_assoc->qC,add_comm->qD
open Option renaming bind_some->q6,map_some->qA
namespace Go.Sx
open Go
theorem zb7 {ρ ρ':Operand->AV}: ∀(l:List Operand),(∀x∈l,ρ x=ρ' x)->yr ρ l=yr ρ' l
 | [],_=>rfl
 |x::l,h=>by simp only[yr];rw[h x (by simp),zb7 l fun y hy=>h y (by simp[hy])]
theorem zih {ρ ρ':Operand->AV}: ∀(l:List (Nat×Operand)),(∀x∈l.map (·.2),ρ x=ρ' x)->zq2 ρ l=zq2 ρ' l
 | [],_=>rfl
 |(i,x)::l,h=>by simp only[zq2];rw[h x (by simp),zih l fun y hy=>h y (by simp only[qB,q4];exact .inr hy)]
theorem zig {ρ ρ':Operand->AV}: ∀(l:List (Nat×Operand)),(∀x∈l.map (·.2),ρ x=ρ' x)->zmk ρ l=zmk ρ' l
 | [],_=>rfl
 |(i,x)::l,h=>by simp only[zmk];rw[h x (by simp),zig l fun y hy=>h y (by simp only[qB,q4];exact .inr hy)]
theorem zid {T:Tab} {ρ ρ':Operand->AV} {hp:Hp} (op:Op) (dst:Nat) (h: ∀x∈op.operands,ρ x=ρ' x):xd T op dst ρ hp=xd T op dst ρ' hp:=by
 cases op with
 |load t p=>simp only[xd];rw[h p (by simp[Op.operands])]
 |store t p v=>simp only[xd];rw[h p (by simp[Op.operands])]
 |indexAddr t x i=>simp only[xd];rw[h x (by simp[Op.operands])]
 |call c=>
  have ha: ∀x∈c.args.toList,ρ x=ρ' x:=fun x hx=>h x (by simp[Op.operands,Call.operands];exact .inr (by simpa using hx))
  cases hc:c.callee with
  |value f=>
   have hf:ρ f=ρ' f:=h f (by simp[Op.operands,Call.operands,hc]);simp only[xd,hc];rw[hf,zb7 _ ha]
  |invoke r m=>simp only[xd,hc]
  |builtin b=>
   cases b<;>simp only[xd,hc]
   ·split
    ·rename_i x y e;rw[ha x (by rw[e];simp)]
    ·rfl
   ·split
    ·rename_i x e;rw[ha x (by rw[e];simp)]
    ·rfl
 |buildSlice t n ps=>cases n<;>rfl
 |slice t x lo hi mx=>simp only[xd];rw[h x (by simp[Op.operands])]
 |lookup t x i ok=>simp only[xd];rw[h x (by simp[Op.operands])]
 |mapUpdate t m k v=>simp only[xd];rw[h m (by simp[Op.operands])]
 |insert t m k v=>simp only[xd];rw[h m (by simp[Op.operands])]
 | _=>rfl
theorem zqt {T:Tab} {C:Con} {ρ ρ':Operand->AV} (op:Op) (dst:Nat) (h: ∀x∈op.operands,ρ x=ρ' x):ql T C op dst ρ=ql T C op dst ρ':=by
 funext ids bs E
 cases op with
 |call c=>
  have ha: ∀x∈c.args.toList,ρ x=ρ' x:=fun x hx=>h x (by simp[Op.operands,Call.operands];exact .inr (by simpa using hx))
  have hm:=zb7 (ρ:=ρ) (ρ':=ρ') _ ha
  cases hc:c.callee with
  |value f=>
   have hf:ρ f=ρ' f:=h f (by simp[Op.operands,Call.operands,hc]);simp only[ql,hc];rw[hf,hm]
  |invoke r m=>simp only[ql,hc]
  |builtin b=>
   cases b<;>simp only[ql,hc,hm]
   ·split
    ·rename_i x y t t' e _;rw[ha x (by rw[e];simp),ha y (by rw[e];simp)]
    ·rfl
   ·split
    ·rename_i x t e _;rw[ha x (by rw[e];simp)]
    ·rfl
 |build t ps=>simp only[ql];rw[zih (ρ:=ρ) (ρ':=ρ') ps.toList fun x hx=>h x (by simpa[Op.operands]using hx)]
 |buildSlice t n ps=>simp only[ql];rw[zig (ρ:=ρ) (ρ':=ρ') ps.toList fun x hx=>h x (by simpa[Op.operands]using hx)]
 |makeSlice t l c=>simp only[ql];rw[h l (by simp[Op.operands]),h c (by simp[Op.operands])]
 |makeFunc f x y=>simp only[ql];rw[zb7 (ρ:=ρ) (ρ':=ρ') y.toList fun z hz=>h z (by simp[Op.operands];exact .inr (by simpa using hz))]
 |move x=>simp only[ql];rw[h x (by simp[Op.operands])]
 |assign x=>simp only[ql];rw[h x (by simp[Op.operands])]
 |pick c x y=>simp only[ql];rw[h c (by simp[Op.operands]),h x (by simp[Op.operands]),h y (by simp[Op.operands])]
 |box t x=>simp only[ql];rw[h x (by simp[Op.operands])]
 |load t x=>simp only[ql];rw[h x (by simp[Op.operands])]
 |store t x y=>simp only[ql];rw[h x (by simp[Op.operands]),h y (by simp[Op.operands])]
 |nilCheck x=>simp only[ql];rw[h x (by simp[Op.operands])]
 |binOp b t x y ty=>simp only[ql];rw[h x (by simp[Op.operands]),h y (by simp[Op.operands])]
 |unOp u t x=>simp only[ql];rw[h x (by simp[Op.operands])]
 |convert s d x=>simp only[ql];rw[h x (by simp[Op.operands])]
 |fieldAddr t x f=>simp only[ql];rw[h x (by simp[Op.operands])]
 |field t x f=>simp only[ql];rw[h x (by simp[Op.operands])]
 |indexAddr t x i=>simp only[ql];rw[h x (by simp[Op.operands]),h i (by simp[Op.operands])]
 |index t x i=>simp only[ql];rw[h x (by simp[Op.operands]),h i (by simp[Op.operands])]
 |extract x n=>simp only[ql];rw[h x (by simp[Op.operands])]
 |lookup t x i ok=>simp only[ql];rw[h x (by simp[Op.operands]),h i (by simp[Op.operands])]
 |mapUpdate t m k v=>simp only[ql];rw[h m (by simp[Op.operands]),h k (by simp[Op.operands]),h v (by simp[Op.operands])]
 |insert t m k v=>simp only[ql];rw[h m (by simp[Op.operands]),h k (by simp[Op.operands]),h v (by simp[Op.operands])]
 |makeMap t r=>
  simp only[ql];have:r.map ρ=r.map ρ':=by
   cases r with
   |none=>rfl
   |some x=>simp only[qA];rw[h x (by simp[Op.operands])]
  rw[this]
 |slice t x lo hi mx=>
  simp only[ql];have ho: ∀r:Option Operand,(∀y,r=some y->ρ y=ρ' y)->r.map ρ=r.map ρ':=fun r hr=>by
   cases r with
   |none=>rfl
   |some y=>simp only[qA];rw[hr y rfl]
  rw[h x (by simp[Op.operands]),ho lo fun y e=>h y (by simp[Op.operands,e]),ho hi fun y e=>h y (by simp[Op.operands,e]),ho mx fun y e=>h y (by simp[Op.operands,e])]
 | _=>rfl
def gd (ops:Array Oper) (o:Oper) (σ:St):Option Bool:=
 match o.guard with
 |none=>some true
 |some (j,want)=>match(ops[j]?).bind (·.dst)with
  |none=>none
  |some d=>match σ.sl.getD d .any with
   | .bool b=>some (b==want)
   | .tup []=>some false
   | _=>none
theorem getD_some {l:List AV} {d:Nat} {u:AV} (h:l.getD d .any =u) (hu:u≠ .any):l[d]? =some u:=by
 rw[q5]at h
 cases hq:l[d]? with
 |none=>rw[hq]at h;exact absurd h.symm hu
 |some x=>rw[hq]at h;simp at h;rw[h]
theorem ztq {ops:Array Oper} {o:Oper} {σ:St} {run skip:St->Prop} (hk:xq ops.toList o σ run skip):
 (gd ops o σ=some true/\run σ)\/(gd ops o σ=some false/\skip σ):=by
 unfold xq at hk;unfold gd;split at hk
 ·rename_i hn;exact .inl ⟨by simp[hn],hk⟩
 ·rename_i j want hgd;split at hk
  ·exact hk.elim
  ·rename_i oj hoj;split at hk
   ·exact hk.elim
   ·rename_i d hd;have hoj':ops[j]? =some oj:=by simpa using hoj
    simp only[hgd,hoj',q6,hd];split at hk
    ·rename_i b hb;have hst:(⟨σ.sl.set d (.bool b),σ.hp⟩:St)=σ:=by rw[zjg _ _ _ (getD_some hb (by simp))]
     simp only[hb];cases b<;>cases want<;>(simp only[xn]at hk;rw[hst]at hk;simp[hk])
    ·rename_i hb;simp only[hb];simp[hk]
    ·exact hk.elim
theorem zhx {ops:Array Oper} {o:Oper} {σ:St} (h:gd ops o σ=some true):xq ops.toList o σ (fun _=>True) (fun _=>False):=by
 unfold gd at h;unfold xq;split at h
 ·rename_i hn;simp[hn]
 ·rename_i j want hgd;simp only[hgd]
  cases hoj:ops[j]? with
  |none=>simp[hoj]at h
  |some oj=>
   cases hd:oj.dst with
   |none=>simp[hoj,hd]at h
   |some d=>
    simp only[hoj,q6,hd]at h;have hoj':ops.toList[j]? =some oj:=by simpa using hoj
    simp only[hoj',hd];split at h
    ·rename_i b hb;rw[hb];simp only[xn];cases b<;>cases want<;>simp_all
    ·cases h
    ·cases h
theorem zgy {ops:Array Oper} {o:Oper} {σ:St} (h:gd ops o σ=some false):xq ops.toList o σ (fun _=>False) (fun _=>True):=by
 unfold gd at h;unfold xq;split at h
 ·cases h
 ·rename_i j want hgd;simp only[hgd]
  cases hoj:ops[j]? with
  |none=>simp[hoj]at h
  |some oj=>
   cases hd:oj.dst with
   |none=>simp[hoj,hd]at h
   |some d=>
    simp only[hoj,q6,hd]at h;have hoj':ops.toList[j]? =some oj:=by simpa using hoj
    simp only[hoj',hd];split at h
    ·rename_i b hb;rw[hb];simp only[xn];cases b<;>cases want<;>simp_all
    ·rename_i hb;rw[hb];trivial
    ·cases h
section
variable {P:Program} {T:Tab} {C:Con} {ops:Array Oper} {fps:List FP} {K:St->Prop}
abbrev Oc:=Option (AV×List Blk)
def Yl (T:Tab) (C:Con) (ops:Array Oper) (o:Oper) (f:FP) (σ:St):Oc->Prop
 |none=>gd ops o σ=some false/\f=([],false)
 |some (r,bs)=>(gd ops o σ=some true/\Nat.ble (qy o) 99999=true)/\f=(nd T o σ,wr o.op)/\ ∀E:AV->List Blk->Prop,E r bs->ql T C o.op (qy o) (zg σ.sl) (nd T o σ) (qh σ.hp (nd T o σ)) E
def Oc.v:Oc->AV
 |none=> .tup []
 |some (r,_)=>r
def Oc.b:Oc->List Blk
 |none=> []
 |some (_,bs)=>bs
def wid (f:FP):List Nat:=match f.2 with
 |true=>f.1
 |false=> []
def post (o:Oper) (f:FP) (σ:St) (x:Oc):St:=
 ⟨match o.dst with
  |some d=>σ.sl.set d x.v
  |none=>σ.sl,qo σ.hp (wid f) x.b⟩
theorem zk3 {o:Oper} {σ:St}:post o ([],false) σ none=⟨match o.dst with
 |some d=>σ.sl.set d (.tup [])
 |none=>σ.sl,σ.hp⟩:=by simp[post,wid,Oc.v,qo]
theorem zk2 {T:Tab} {o:Oper} {σ:St} {r:AV} {bs:List Blk}:post o (nd T o σ,wr o.op) σ (some (r,bs))=nxt o (nd T o σ) σ r bs:=by
 unfold post nxt wid;cases wr o.op<;>simp[Oc.v,Oc.b,qo]<;>rfl
def qe8 (T:Tab) (C:Con) (ops:Array Oper) (K:St->Prop):List Oper->List FP->St->Prop
 | [],[],σ=>K σ
 |o::os,f::fs,σ=> ∃x,Yl T C ops o f σ x/\qe8 T C ops K os fs (post o f σ x)
 | _,_,_=>False
theorem zjq: ∀(l:List Oper) (σ:St) (K:List FP->St->Prop),qa0 T C ops.toList l σ K-> ∃fps,qe8 T C ops (K fps) l fps σ
 | [],σ,K,h=>⟨[],h⟩
 |o::rest,σ,K,h=>by
  simp only[qa0,opD1]at h;rcases ztq h with ⟨hg,h⟩|⟨hg,h⟩
  ·split at h
   ·rw[zla,zl9]at h;obtain⟨hlo,h⟩:=h;obtain⟨r,bs,h1,h2⟩:=qby _ _ _ _ _ _ _ _ h;obtain⟨fps,h3⟩:=zjq rest _ _ h1;refine⟨(nd T o σ,wr o.op)::fps,some (r,bs),⟨⟨hg,hlo⟩,rfl,h2⟩,?_⟩;rw[zk2];exact h3
   ·exact h.elim
  ·rw[xn]at h;obtain⟨fps,h3⟩:=zjq rest _ _ h;refine⟨([],false)::fps,none,⟨hg,rfl⟩,?_⟩;rw[zk3];exact h3
theorem ztz {sl:List AV} {d:Nat} {v:AV} {x:Operand} (h:x≠ .tmp d):zg (sl.set d v) x=zg sl x:=by
 cases x with
 |tmp t=>
  have hne:d≠t:=fun e=>h (by rw[e])
  simp only[zg,q5];rw[List.getElem?_set_ne hne]
 | _=>rfl
theorem zdc {o:Oper} {f:FP} {σ:St} {y:Oc} {x:Operand} (h: ∀d,o.dst=some d->x≠ .tmp d):zg (post o f σ y).sl x=zg σ.sl x:=by
 unfold post
 cases hd:o.dst with
 |none=>rfl
 |some d=>exact ztz (h d hd)
theorem zbn {o:Oper} {d:Nat} (h:d∉o.looksAt ops): ∀x∈o.op.operands,x≠ .tmp d:=fun x hx e=>h (by
 subst e;exact List.mem_append_left _ (List.mem_filterMap.2 ⟨.tmp d,by simpa using hx,rfl⟩))
theorem zhh {f g:FP} (h:zhz f g=false):(∀i∈wid f,i∉g.1)/\ ∀i∈wid g,i∉f.1:=by
 obtain⟨l,a⟩:=f;obtain⟨m,b⟩:=g;unfold zhz at h;cases a<;>cases b<;>simp only[Bool.or_true,Bool.true_or,Bool.or_false,Bool.not_eq_false']at h<;>simp only[wid]
 ·simp
 ·rw[jv]at h;exact⟨by simp,fun i hi hj=>h i hj hi⟩
 ·rw[jv]at h;exact⟨h,by simp⟩
 ·rw[jv]at h;exact⟨h,fun i hi hj=>h i hj hi⟩
theorem zzu (f:FP): ∀i∈wid f,i∈f.1:=fun i hi=>by
 unfold wid at hi;split at hi
 ·exact hi
 ·simp at hi
theorem zdu: ∀ {is:List Nat} {bs:List Blk} {h:Hp} {i:Nat},i∉is->hget (qo h is bs) i=hget h i
 | [],_,_,_,_=>by simp[qo]
 | _::_,[],_,_,_=>by simp[qo]
 |j::is,b::bs,h,i,hi=>by
  simp only[q4,not_or]at hi;simp only[qo];rw[zdu hi.2,zt hi.1]
theorem zgv {is:List Nat} {bs:List Blk} {h:Hp}: ∀ {js:List Nat},(∀j∈js,j∉is)->qh (qo h is bs) js=qh h js
 | [],_=>rfl
 |j::js,hj=>by
  simp only[qh];rw[zdu (hj j (by simp)),zgv fun k hk=>hj k (by simp[hk])]
theorem zlm {i j:Nat} (hij:i≠j) {v u:Blk}: ∀ {h:Hp},zba (zba h i v) j u=zba (zba h j u) i v
 | []=>rfl
 |(a,b)::r=>by
  rw[jg a b r i v,jg a b r j u];by_cases e1:a=i
  ·have e2:a≠j:=fun e=>hij (e1.symm.trans e)
   rw[if_pos e1,if_neg e2,jg,jg,if_neg e2,if_pos e1]
  ·by_cases e2:a=j
   ·rw[if_neg e1,if_pos e2,jg,jg,if_pos e2,if_neg e1]
   ·rw[if_neg e1,if_neg e2,jg,jg,if_neg e2,if_neg e1,zlm hij]
theorem zij {i:Nat} {v:Blk}: ∀ {is:List Nat} {bs:List Blk} {h:Hp},i∉is->qo (zba h i v) is bs=zba (qo h is bs) i v
 | [],_,_,_=>by simp[qo]
 | _::_,[],_,_=>by simp[qo]
 |j::is,b::bs,h,hi=>by
  simp only[q4,not_or]at hi;simp only[qo];rw[zlm hi.1,zij hi.2]
theorem zik: ∀ {is js:List Nat} {bs cs:List Blk} {h:Hp},(∀i∈is,i∉js)->qo (qo h is bs) js cs=qo (qo h js cs) is bs
 | [],js,bs,cs,h,_=>by simp[qo]
 | _::_,js,[],cs,h,_=>by simp[qo]
 |i::is,js,b::bs,cs,h,hd=>by
  simp only[qo];rw[zik (fun k hk=>hd k (by simp[hk])),zij (hd i (by simp))]
theorem yy {h h':Hp}: ∀ {l:List Nat},(∀i∈l,hget h' i=hget h i)->qh h' l=qh h l
 | [],_=>rfl
 |i::l,e=>by simp only[qh];rw[e i (by simp),yy fun j hj=>e j (by simp[hj])]
theorem zgz {h h':Hp} {l:List Nat} (e: ∀i∈zbb h (zbb h l),hget h' i=hget h i):zbb h' (zbb h' l)=zbb h (zbb h l):=by
 have e1:zbb h' l=zbb h l:=by
  unfold zbb;rw[yy fun i hi=>e i (zdi (zdi hi))]
 rw[e1];show nub (zbb h l++zqp (qh h' (zbb h l)))=nub (zbb h l++zqp (qh h (zbb h l)));rw[yy fun i hi=>e i (zdi hi)]
theorem zsw {T:Tab} {ρ:Operand->AV} {h h':Hp} (op:Op) (dst:Nat) (e: ∀i∈xd T op dst ρ h,hget h' i=hget h i):xd T op dst ρ h'=xd T op dst ρ h:=by
 cases op with
 |call c=>
  cases hc:c.callee with
  |value f=>
   simp only[xd,hc]at e⊢;split
   ·rename_i g caps hf;simp only[hf]at e;split
    ·rename_i hn;simp only[hn]at e;exact zgz e
    ·rename_i n hn;simp only[hn]at e;rw[zgz fun i hi=>e i (by simp[hi])]
   ·rfl
   ·rfl
  |invoke r m=>simp only[xd,hc]
  |builtin b=>cases b<;>simp only[xd,hc]
 |buildSlice t n ps=>cases n<;>rfl
 | _=>rfl
theorem qa6 {oi oj:Oper} {f:FP} {σ:St} {x:Oc} (h: ∀d,oi.dst=some d->d∉oj.looksAt ops) (e: ∀i∈nd T oj σ,hget (post oi f σ x).hp i=hget σ.hp i):nd T oj (post oi f σ x)=nd T oj σ:=by
 unfold nd at e⊢;rw[zid (ρ':=zg σ.sl) _ _ fun z hz=>zdc fun d hd=>zbn (h d hd) z hz];exact zsw _ _ e
theorem zwh {oi oj:Oper} {f:FP} {σ:St} {x:Oc} (h: ∀d,oi.dst=some d->d∉oj.looksAt ops) (e: ∀i∈nd T oj (post oi f σ x),hget (post oi f σ x).hp i=hget σ.hp i):nd T oj (post oi f σ x)=nd T oj σ:=by
 unfold nd at e⊢;rw[zid (ρ':=zg σ.sl) _ _ fun z hz=>zdc fun d hd=>zbn (h d hd) z hz]at e⊢;exact(zsw _ _ fun i hi=>(e i hi).symm).symm
theorem zds {oi:Oper} {f:FP} {σ:St} {x:Oc} {i:Nat} (h:i∉wid f):hget (post oi f σ x).hp i=hget σ.hp i:=by
 have:=zgv (is:=wid f) (js:= [i]) (bs:=x.b) (h:=σ.hp) (by intro j hj hi;simp at hj;subst hj;exact h hi);simpa[qh,post]using this
theorem ztr {oi oj:Oper} {f:FP} {σ:St} {x:Oc} (h: ∀d,oi.dst=some d->d∉oj.looksAt ops):gd ops oj (post oi f σ x)=gd ops oj σ:=by
 unfold gd;split
 ·rfl
 ·rename_i j want hg;cases ht:(ops[j]?).bind (·.dst)with
  |none=>rfl
  |some d=>
   simp only[];have:(post oi f σ x).sl.getD d .any =σ.sl.getD d .any :=zdc (x:= .tmp d) fun d' hd e=>h d' hd (by
    cases e
    simp[Oper.looksAt,hg,ht])
   rw[this]
theorem Yl.keep {oi oj:Oper} {f g:FP} {σ:St} {x y:Oc} (h: ∀d,oi.dst=some d->d∉oj.looksAt ops) (hc:zhz f g=false):
 Yl T C ops oj g (post oi f σ x) y<->Yl T C ops oj g σ y:=by
 cases y with
 |none=>simp only[Yl];rw[ztr h]
 |some rb=>
  obtain⟨r,bs⟩:=rb;simp only[Yl];rw[ztr h];have he:=zqt (T:=T) (C:=C) (ρ:=zg (post oi f σ x).sl) (ρ':=zg σ.sl) oj.op (qy oj) fun z hz=>zdc fun d hd=>zbn (h d hd) z hz
  rw[he];constructor
  ·rintro⟨h1,h2,h3⟩;have hd: ∀i∈nd T oj (post oi f σ x),i∉wid f:=fun j hj hi=>(zhh hc).1 j hi (by rw[h2];exact hj)
   have hn:=zwh h fun i hi=>zds (hd i hi)
   rw[hn]at h2 h3;have:qh (post oi f σ x).hp (nd T oj σ)=qh σ.hp (nd T oj σ):=yy fun j hj=>zds (hd j (by rw[hn];exact hj))
   rw[this]at h3;exact⟨h1,h2,h3⟩
  ·rintro⟨h1,h2,h3⟩;have hd: ∀i∈nd T oj σ,i∉wid f:=fun j hj hi=>(zhh hc).1 j hi (by rw[h2];exact hj)
   have hn:=qa6 (x:=x) h fun i hi=>zds (hd i hi)
   have:qh (post oi f σ x).hp (nd T oj σ)=qh σ.hp (nd T oj σ):=yy fun j hj=>zds (hd j hj)
   rw[hn,this];exact⟨h1,h2,h3⟩
theorem zsq {oi oj:Oper} {f g:FP} {σ:St} {x y:Oc} (h: ∀d,oi.dst=some d->oj.dst≠some d) (hc:zhz f g=false):
 post oj g (post oi f σ x) y=post oi f (post oj g σ y) x:=by
 unfold post;rw[zik fun i hi hj=>(zhh hc).1 i hi (zzu g i hj)]
 cases hi:oi.dst with
 |none=>rfl
 |some d=>
  cases hj:oj.dst with
  |none=>rfl
  |some e=>
   have hne:d≠e:=fun he=>h d hi (by rw[hj,he])
   simp only[];rw[List.set_comm _ _ hne]
theorem zqv {f g:FP} (h:zhz f g=false):zhz g f=false:=by
 obtain⟨l,a⟩:=f;obtain⟨m,b⟩:=g;unfold zhz at h⊢;have hs:zeb l m=true->zeb m l=true:=fun h=>by rw[jv]at h⊢;exact fun i hi hj=>h i hj hi
 cases a<;>cases b<;>simp_all
def stepX (T:Tab) (C:Con) (ops:Array Oper) (fps:List FP) (i:Nat) (K:St->Prop) (σ:St):Prop:=
 ∃o f x,ops[i]? =some o/\fps[i]? =some f/\Yl T C ops o f σ x/\K (post o f σ x)
def qgw (T:Tab) (C:Con) (ops:Array Oper) (fps:List FP) (K:St->Prop):Nat->Array Bool->St->Prop
 |0,listed,σ=>Region.ready .any ops listed= []/\K σ
 |fuel+1,listed,σ=>(Region.ready .any ops listed= []->K σ)/\ ∀i∈Region.ready .any ops listed,stepX T C ops fps i (qgw T C ops fps K fuel (listed.setIfInBounds i true)) σ
theorem zqx {i:Nat} {oi:Oper} {fi:FP} {x:Oc} (hi:ops[i]? =some oi) (hfi:fps[i]? =some fi) (B:Nat->Prop)
 (hB: ∀k,B k->k≠i-> ∃ok,ops[k]? =some ok/\ ∃e∈ok.after,Region.binds .any e=true/\B e.on):
 ∀(fuel:Nat) (listed:Array Bool) (σ:St),(∀k,B k->listed.getD k true=false)->
  (∀j oj fj,ops[j]? =some oj->fps[j]? =some fj->j≠i->listed.getD j true=false->(∀e∈oj.after,Region.binds .any e=true->e.on≠i)->oi.apart ops oj=true/\(¬B j->zhz fi fj=false))->
  i∈Region.ready .any ops listed->Yl T C ops oi fi σ x->
  qgw T C ops fps K fuel (listed.setIfInBounds i true) (post oi fi σ x)->qgw T C ops fps K (fuel+1) listed σ:=by
 intro fuel
 induction fuel with
 |zero=>
  intro listed σ _ _ hr hy H;refine⟨fun h=>(by rw[h]at hr;cases hr),fun j hj=>?_⟩;by_cases hji:j=i
  ·subst hji;exact⟨oi,fi,x,hi,hfi,hy,H⟩
  ·have:=ready_mono hj hji;rw[H.1]at this;cases this
 |succ fuel ih=>
  intro listed σ hBl hfree hr hy H;refine⟨fun h=>(by rw[h]at hr;cases hr),fun j hj=>?_⟩;by_cases hji:j=i
  ·subst hji;exact⟨oi,fi,x,hi,hfi,hy,H⟩
  ·obtain⟨oj,fj,y,hoj,hfj,hyj,hK⟩:=H.2 j (ready_mono hj hji);obtain⟨hjun,oj',hoj',hall⟩:=mem_ready.1 hj;rw[hoj]at hoj';cases hoj'
   have hnot: ∀e∈oj.after,Region.binds .any e=true->e.on≠i:=fun e he hb heq=>by
    have h1:=hall e he hb;have h0:=(mem_ready.1 hr).1;rw[heq]at h1;rcases q7 i listed.size with h'|h'
    ·simp[h']at h0 h1;rw[h0]at h1;cases h1
    ·simp[q2 h']at h1
   have hBj: ¬B j:=fun hb=>by
    obtain⟨ok,hok,e,he,hbi,hbe⟩:=hB j hb hji;rw[hoj]at hok;cases hok
    have h1:=hall e he hbi;have h0:=hBl _ hbe;rcases q7 e.on listed.size with h'|h'
    ·simp[h']at h0 h1;rw[h0]at h1;cases h1
    ·simp[q2 h']at h1
   obtain⟨hap,hcl⟩:=hfree j oj fj hoj hfj hji hjun hnot;have hcl:=hcl hBj;obtain⟨h1,h2,h3⟩:=Oper.apart_spec hap;have hyj':Yl T C ops oj fj σ y:=(Yl.keep h1 hcl).1 hyj;have hyi':Yl T C ops oi fi (post oj fj σ y) x:=(Yl.keep h3 (zqv hcl)).2 hy;refine⟨oj,fj,y,hoj,hfj,hyj',ih _ _ (fun k hk=>by rw[getD_set_ne true (fun e=>hBj (by rw[e];exact hk))];exact hBl k hk) (fun k ok fk hk hfk hki hun hno=>?_) (ready_mono hr (Ne.symm hji)) hyi' ?_⟩
   ·refine hfree k ok fk hk hfk hki ?_ hno;by_cases hjk:j=k
    ·subst hjk;exact hjun
    ·rw[getD_set_ne true hjk]at hun;exact hun
   ·rw[←zsq h2 hcl,Array.setIfInBounds_comm _ _ hji];exact hK
theorem zen {f:FP}: ∀ {os:List Oper} {fs:List FP} {bs:List Nat} {m:Nat},znu bs m f os fs=true-> ∃B:Nat->Prop,(∀b∈bs,B b)/\
 (∀j,B j->j∈bs\/ ∃t o,j=m+t/\os[t]? =some o/\ ∃e∈o.after,Region.binds .any e=true/\B e.on)/\
 ∀(t:Nat) (o:Oper) (g:FP),os[t]? =some o->fs[t]? =some g-> ¬B (m+t)->zhz f g=false
 | [],[],bs,m,_=>⟨fun j=>j∈bs,fun _ h=>h,fun _ h=> .inl h,fun t o g h=>by simp at h⟩
 | [],_::_,_,_,h=>by simp[znu]at h
 | _::_,[],_,_,h=>by simp[znu]at h
 |o'::os,g'::fs,bs,m,h=>by
  simp only[znu]at h
  cases hb:zhl bs o' with
  |true=>
   rw[hb]at h;obtain⟨B,h1,h2,h3⟩:=zen (os:=os) (fs:=fs) h;refine⟨B,fun b hb=>h1 b (q9 _ hb),fun j hj=>?_,fun t o g ho hg hn=>?_⟩
   ·rcases h2 j hj with hm|⟨t,o,rfl,ho,he⟩
    ·rcases q4.1 hm with rfl|hm
     ·unfold zhl at hb;obtain⟨e,he,hbe⟩:=List.any_eq_true.1 hb;rw[q3]at hbe;exact .inr ⟨0,o',rfl,rfl,e,by simpa using he,hbe.1,h1 _ (q9 _ ((jc _ _).1 hbe.2))⟩
     ·exact .inl hm
    ·exact .inr ⟨t+1,o,by omega,by simpa using ho,he⟩
   ·cases t with
    |zero=>exact absurd (h1 m List.mem_cons_self) hn
    |succ t=>exact h3 t o g (by simpa using ho) (by simpa using hg) (by rw[show m+1+t=m+(t+1) by omega];exact hn)
  |false=>
   rw[hb]at h;simp only[q3,Bool.not_eq_true']at h;obtain⟨B,h1,h2,h3⟩:=zen (os:=os) (fs:=fs) h.2;refine⟨B,h1,fun j hj=>?_,fun t o g ho hg hn=>?_⟩
   ·rcases h2 j hj with hm|⟨t,o,rfl,ho,he⟩
    ·exact .inl hm
    ·exact .inr ⟨t+1,o,by omega,by simpa using ho,he⟩
   ·cases t with
    |zero=>simp at ho hg;subst ho;subst hg;exact h.1
    |succ t=>exact h3 t o g (by simpa using ho) (by simpa using hg) (by rw[show m+1+t=m+(t+1) by omega];exact hn)
theorem zpy: ∀(l:List Oper) (fs:List FP) (k:Nat) (listed:Array Bool) (σ:St),(∀j,l[j]? =ops[k+j]?)->(∀j,fs[j]? =fps[k+j]?)->(∀j,j<k->listed.getD j true=true)->(∀j o,k<=j->ops[j]? =some o->listed.getD j true=false)->
 Region.lexFrom .any ops l.length k listed=true->zxc k l fs=true->qe8 T C ops K l fs σ->qgw T C ops fps K l.length listed σ
 | [],[],_,_,_,_,_,_,_,hB,_,h=>⟨by simpa[Region.lexFrom]using hB,h⟩
 | [],_::_,_,_,_,_,_,_,_,_,_,h=>h.elim
 | _::_,[],_,_,_,_,_,_,_,_,_,h=>h.elim
 |o::l,f::fs,k,listed,σ,hl,hf,hlis,hull,hB,hfp,h=>by
  have h0:ops[k]? =some o:=by simpa using(hl 0).symm
  have hf0:fps[k]? =some f:=by simpa using(hf 0).symm
  simp only[List.length_cons,Region.lexFrom,q3]at hB;obtain⟨⟨hr,hfr⟩,hB'⟩:=hB;simp only[zxc,q3]at hfp;obtain⟨x,hy,hK⟩:=h;obtain⟨B,b1,b2,b3⟩:=zen hfp.1;have hBop: ∀j,B j->j≠k-> ∃oj,ops[j]? =some oj/\k<=j/\ ∃e∈oj.after,Region.binds .any e=true/\B e.on:=fun j hj hne=>by
   rcases b2 j hj with hm|⟨t,oj,rfl,ho,he⟩
   ·simp at hm;exact absurd hm hne
   ·refine⟨oj,?_,by omega,he⟩;have:=hl (t+1);rw[List.getElem?_cons_succ,ho]at this;rw[show k+1+t=k+(t+1) by omega];exact this.symm
  refine zqx h0 hf0 B (fun j hj hne=>by obtain⟨oj,h1,_,h2⟩:=hBop j hj hne;exact⟨oj,h1,h2⟩) l.length listed σ (fun j hj=>by
   by_cases hjk:j=k
   ·subst hjk;exact hull j o (Nat.le_refl _) h0
   ·obtain⟨oj,h1,h2,_⟩:=hBop j hj hjk;exact hull j oj h2 h1)
   (fun j oj fj hj hfj hne hun hno=>⟨Region.free_spec h0 hfr j oj hj hne hun hno,fun hnB=>?_⟩) (by simpa using hr) hy
   (zpy l fs (k+1) _ _ (fun j=>by have:=hl (j+1);simpa[qC,qD 1 j]using this) (fun j=>by have:=hf (j+1);simpa[qC,qD 1 j]using this)
     (fun j hj=>?_) (fun j oj hj hoj=>by rw[getD_set_ne true (by omega)];exact hull j oj (by omega) hoj) hB' hfp.2 hK)
  ·have hkj:k<j:=by
    rcases q7 j k with h'|h'
    ·rw[hlis j h']at hun;cases hun
    ·omega
   obtain⟨m,rfl⟩: ∃m,j=k+(m+1):=⟨j-k-1,by omega⟩;have ho':l[m]? =some oj:=by have:=hl (m+1);rw[hj]at this;simpa using this
   have hf':fs[m]? =some fj:=by have:=hf (m+1);rw[hfj]at this;simpa using this
   exact b3 m oj fj ho' hf' (by rw[show k+1+m=k+(m+1) by omega];exact hnB)
  ·by_cases hjk:k=j
   ·subst hjk;rcases q7 k listed.size with h'|h'
    ·simp[h']
    ·simp[q2 h',q2 (xs:=listed.setIfInBounds k true) (i:=k) (by simpa using h')]
   ·rw[getD_set_ne true hjk];exact hlis j (by omega)
theorem zet {F:Wf} {c:Ctx} {Q:Exit->Act->World->Prop} (hT:TabOK P T) (hQ: ∀σ a w,Rel c σ a w->K σ->Q .normal a w):
 ∀(fuel:Nat) (listed:Array Bool) (σ:St) (a:Act) (w:World),Rel c σ a w->qgw T (CN P) ops fps K fuel listed σ->wpAnyIn F.F 0 P .any ops Q fuel listed a w
 |0,_,σ,a,w,h,hk=>⟨hk.1,hQ σ a w h hk.2⟩
 |fuel+1,listed,σ,a,w,h,hk=>by
  refine⟨fun h0=>hQ σ a w h (hk.1 h0),fun i hi=>?_⟩;obtain⟨o,f,x,ho,hf,hy,hK⟩:=hk.2 i hi;unfold wpOpIn;simp only[ho]
  cases x with
  |none=>
   obtain⟨hg,rfl⟩:=hy;rw[zk3]at hK;rcases wt h (zgy hg)with ⟨_,h1⟩|⟨h1,_⟩
   ·exact h1.elim
   ·rw[if_neg (by rw[h1];simp)];exact⟨fun f _=>F.ok.fn f,zet hT hQ fuel _ _ _ _ (h.skip o) hK⟩
  |some rb=>
   obtain⟨r,bs⟩:=rb;obtain⟨⟨hg,hlo⟩,rfl,he⟩:=hy;rw[zk2]at hK;rcases wt h (zhx hg)with ⟨h1,_⟩|⟨_,h1⟩
   ·rw[if_pos h1];obtain⟨r',bs',⟨rfl,rfl⟩,hwp⟩:=zl1 hT hlo h (he (fun r' bs'=>r'=r/\bs'=bs) ⟨rfl,rfl⟩);exact(Oper.wpIn_mono (fun a' w' hr=>zet hT hQ fuel _ _ _ _ hr hK) (hwp Q))
   ·exact h1.elim
theorem Rel.drawn {c:Ctx} {σ:St} {a:Act} {w:World} (h:Rel c σ a w) (n:Nat):Rel c σ a {w with drawn:=n}:=h.ext (Ext.drawn w n)
theorem zm2 {F:Wf} {c:Ctx} {Q:Exit->Act->World->Prop} {id:Nat} {σ:St} {a:Act} {w:World} (hT:TabOK P T) (hm:P.follows .mixedOrders =true) (h:Rel c σ a w)
 (hk:qa0 T (CN P) ops.toList ops.toList σ fun fps σ=>zxc 0 ops.toList fps=true/\Region.lexB .any ops=true/\K σ) (hQ: ∀σ a w,Rel c σ a w->K σ->Q .normal a w):
 (Code.region id ops true).wpIn F.F 0 P Q a w:=by
 obtain⟨fps,hl⟩:=zjq _ _ _ hk;have hconst: ∀(l:List Oper) (fs:List FP) (σ:St),qe8 T (CN P) ops (fun σ=>zxc 0 ops.toList fps=true/\Region.lexB .any ops=true/\K σ) l fs σ->
  (zxc 0 ops.toList fps=true/\Region.lexB .any ops=true)/\qe8 T (CN P) ops K l fs σ:=by
  intro l
  induction l with
  |nil=>
   intro fs σ h
   cases fs with
   |nil=>exact⟨⟨h.1,h.2.1⟩,h.2.2⟩
   |cons _ _=>exact h.elim
  |cons o l ih=>
   intro fs σ h
   cases fs with
   |nil=>exact h.elim
   |cons f fs=>
    obtain⟨x,hy,hK⟩:=h;obtain⟨h1,h2⟩:=ih fs _ hK;exact⟨h1,x,hy,h2⟩
 obtain⟨⟨hfp,hB⟩,hlex⟩:=hconst _ _ _ hl;simp only[Region.lexB,q3]at hB;refine wpIn_region_any hm (zet (fps:=fps) hT hQ _ _ σ a _ (h.drawn _) ?_);have:=zpy (fps:=fps) ops.toList fps 0 (Array.replicate ops.size false) σ (by simp) (by simp) (by simp) (fun j o _ ho=>by
  have hj:j<ops.size:=by rw[Array.getElem?_eq_some_iff]at ho;exact ho.1
  simp[hj]) (by simpa using hB.2) hfp hlex
 simpa using this
end
end Go.Sx
