/-
  Matrices of intervals, exponential functions of matrices: plain functions; the series ends.
-/
import Derived.Test.YtbolipecnhlnnaaGreatDoorQXe
import Derived.Test.YtbolipecnhlnnaaGreatDoorQXa
import Derived.Test.YtbolipecnhlnnaaGreatDoorQYl
set_option linter.unusedVariables false
set_option linter.unusedSimpArgs false
open Bool renaming not_eq_true'->w3,not_eq_false->wi,and_eq_true->wD,or_eq_true->wH
open List renaming getElem?_eq_getElem->qB,mem_cons_of_mem->qC,getElem?_map->qH,mem_map->qI,getElem?_mapIdx->qK,getElem_mem->qL,mem_of_getElem?->qO,getElem?_eq_some_iff->qQ,getElem?_of_mem->qT,getElem?_range->qV,range->w6,length_mapIdx->w9,any_eq_true->wE,mem_cons->wK
open Nat renaming le_refl->q7,exists_eq_add_of_le->qE,add_zero->qX,zero_add->w8,sub_self->wA,zero_le->wG,le_trans->wL
open Option renaming getD_some->w5,map_eq_some_iff->w7
open Rat renaming mul_le_mul_of_nonneg_left->q5,le_refl->q6,natCast_le_natCast->q9,le_trans->qA,mul_nonneg->qD,mul_le_mul_of_nonneg_right->qF,le_of_lt->qG,mul_inv_cancel->qJ,one_mul->qM,sub_self->qN,le_of_mul_le_mul_right->qP,intCast_natCast->qR,div_def->qS,natCast_pos->qU,mul_comm->qW,le_total->qY,inv_pos->qZ,mul_one->w4,zero_mul->ws,add_zero->wB,zero_add->wC,neg_neg->wF,natCast_add->wJ,mul_zero->wO
namespace Go.Proofs.YtbolipecnhlnnaaGreatDoor
open Go Go.Sx
set_option maxHeartbeats 2000000
abbrev Mx:=List (List Iv)
def hdL (m:Mx):Nat:=(m.headD []).length
def vmB (m:Mx):Bool:=(decide (1<=m.length/\m.length<=8)&&decide (1<=hdL m/\hdL m<=8))&& !(m.any fun r=>decide (r.length≠hdL m)||r.any fun x=> !viB x)
def xc (f:Nat->Nat->Iv->Iv) (m:Mx):Mx:=m.mapIdx fun i r=>r.mapIdx fun j x=>f i j x
def atM (m:Mx) (i j:Nat):Iv:=((m[i]?.getD [])[j]?).getD zI
def idM (n:Nat):Mx:=if n<1\/8<n then []else(w6 n).map fun i=>(w6 n).map fun j=>whI (if i=j then 1 else 0)
def scM (a:Mx) (x:Iv) (p:Int):Mx:=if(vmB a&&viB x&&pcB p)=true then xc (fun _ _ y=>jh x y p) a else []
def adM (a b:Mx) (p:Int):Mx×Int:=
 if(vmB a&&vmB b)=false then([],1)else if pcB p=false then([],2)else if a.length≠b.length\/hdL a≠hdL b then([],3)else(xc (fun i j x=>yo x (atM b i j) p) a,0)
def dtG (p:Int):List Iv->List Iv->Iv->Iv
 |r::rs,c::cs,o=>dtG p rs cs (yo o (jh r c p) p)
 | _,_,o=>o
def dtM (p:Int):List Iv->List Iv->Iv
 |r::rs,c::cs=>dtG p rs cs (jh r c p)
 | _,_=>zI
def zkn (b:Mx) (j:Nat):List Iv:=b.map fun r=>(r[j]?).getD zI
def muM (a b:Mx) (p:Int):Mx×Int:=
 if(vmB a&&vmB b)=false then([],1)else if pcB p=false then([],2)else if hdL a≠b.length then([],3)else(a.map fun r=>(w6 (hdL b)).map fun j=>dtM p r (zkn b j),0)
def zfl (p:Int):List Iv->Dy->Option Dy
 | [],s=>some s
 |x::r,s=>if kB x=true/\(zan s (jd x) p.toNat true).2=0 then zfl p r (zan s (jd x) p.toNat true).1 else none
def nmG (p:Int):Mx->Dy->Option Dy
 | [],m=>some m
 |r::rs,m=>match zfl p r d0 with
  |none=>none
  |some s=>nmG p rs (if 0<qe s m then s else m)
def nmM (a:Mx) (p:Int):Dy×Bool:=if(vmB a&&pcB p)=true then(match nmG p a d0 with|some d=>(d,true)|none=>(d0,false))else(d0,false)
def arM (m:Mx) (e:Iv) (p:Int):Mx:=m.map fun r=>r.map fun y=>yo y (za9 (zd9 e) e) p
def knM (m:Mx):Bool:= !(m.any fun r=>r.any fun x=>x.all)&&decide (0<m.length)
def rdM (m:Mx) (p:Int):Mx:=m.map fun r=>r.map fun x=>wj x p
def rsI (u:Iv) (p:Int):Nat->Iv
 |0=>whI 1
 |k+1=>jh (jh (rsI u p k) u p) (zcx (whI 1) (whI ((k+1:Nat):Int)) p) p
def zkt (x:Iv) (p:Int):Bool:=x.all||decide (wk x.hi=0)||decide (zu x.hi< -p-8)
structure MSt where
 term:Mx
 exp:Mx
 phi:Mx
theorem ztk {k:Nat} (h:8<=k):(0:Rat)<=(k:Rat)⁻¹ /\(k:Rat)⁻¹ <=pw (-3):=by
 have hk:(8:Rat)<=(k:Rat):=by
  have:=(q9 (a:=8) (b:=k)).2 h;simpa using this
 have h0:(0:Rat)<(k:Rat):=by grind
 have hi:(0:Rat)<(k:Rat)⁻¹ :=qZ.2 h0;have hm:=qJ (k:Rat) (by grind);have h8:pw (-3)*8=1:=by
  rw[show(8:Rat)=pw 3 from(by rw[show pw 3=((2^3:Nat):Rat)from wp 3];rfl),←pwA];unfold pw;simp
 refine⟨qG hi,?_⟩;have h1:(k:Rat)⁻¹ *8<=(k:Rat)⁻¹ *(k:Rat):=q5 hk (qG hi);have h2:(k:Rat)⁻¹ *(k:Rat)=1:=by rw[qW];exact hm
 grind
theorem bI_by {k:Nat} (h:8<=k) (h2:k<=1000000) {p:Int} (hp:pcB p=true):bI (pw (-3)) (zcx (whI 1) (whI (k:Int)) p):=by
 have kn:=zbf (n:=(k:Int)) (by omega);have k1:=zbf (n:=1) (by decide);have e:dv (whI (k:Int)).lo =(k:Rat):=(kv (k:Int)).trans (qR k);have e':dv (whI (k:Int)).hi =(k:Rat):=(kv (k:Int)).trans (qR k);have o:dv (whI 1).lo =1:=(kv 1).trans (by simp);have o':dv (whI 1).hi =1:=(kv 1).trans (by simp);have hk0:(0:Rat)<(k:Rat):=by
  have:=(q9 (a:=8) (b:=k)).2 h;have h8:(8:Rat)<=(k:Rat):=by simpa using this
  grind
 have hs:0<dv (whI (k:Int)).lo \/dv (whI (k:Int)).hi <0:= .inl (by rw[e];exact hk0);refine⟨zhd (.inl k1) (.inl kn) hp,?_⟩
 cases ha:(zcx (whI 1) (whI (k:Int)) p).all with
 |true=>exact .inl rfl
 |false=>
  right;rw[zkd k1 kn hs hp]at ha⊢;obtain⟨i1,i2⟩:=ztk h;have hq: -pw (-3)<=1/(k:Rat)/\1/(k:Rat)<=pw (-3):=by
   rw[qS,qM];have:=za8 (-3);constructor<;>grind
  refine zqz (zps k1 kn hs (qu hp)) (pwF (by decide) (by decide)) ?_ ha;unfold zlv;rw[e,e',o,o'];exact⟨hq,hq,hq,hq⟩
theorem zyd {u:Iv} {p:Int} (hp:pcB p=true) (hu:bI (pw 2) u): ∀k:Nat,k<=8->bI (pw (2*(k:Int))) (rsI u p k)
 |0,_=>zut
 |k+1,hk=>by
  have ih:=zyd hp hu k (by omega);have e1:pw (2*(k:Int))*pw 2=pw (2*((k+1:Nat):Int)):=by rw[←pwA];congr 1<;>omega
  have h1:=zi3 ih hu hp (by rw[e1];exact pwF (by omega) (by omega));rw[e1]at h1;have h2:=zuu zut (n:=((k+1:Nat):Int)) (by omega) (by omega) hp (pwF (by decide) (by decide));have e2:pw (2*((k+1:Nat):Int))*pw 0=pw (2*((k+1:Nat):Int)):=by rw[←pwA];congr 1<;>omega
  have h3:=zi3 h1 h2 hp (by rw[e2];exact pwF (by omega) (by omega));rw[e2]at h3;exact h3
theorem zyc {u:Iv} {p:Int} (hp:pcB p=true) (hu:bI (pw 2) u): ∀k:Nat,k<=2000->bI (pw (16-(k:Int))) (rsI u p (8+k))
 |0,_=>zyd hp hu 8 (by omega)
 |k+1,hk=>by
  have ih:=zyc hp hu k (by omega);have e1:pw (16-(k:Int))*pw 2=pw (18-(k:Int)):=by rw[←pwA];congr 1<;>omega
  have h1:=zi3 ih hu hp (by rw[e1];exact pwF (by omega) (by omega));rw[e1]at h1;have h2:=bI_by (k:=8+k+1) (by omega) (by omega) hp;have e2:pw (18-(k:Int))*pw (-3)=pw (16-((k+1:Nat):Int)):=by rw[←pwA];congr 1<;>omega
  have h3:=zi3 h1 h2 hp (by rw[e2];exact pwF (by omega) (by omega));rw[e2]at h3;exact h3
theorem qd3 {x:Iv} {p t:Int} (hx:bI (pw t) x) (h:zkt x p=false): -p-9<=t:=by
 unfold zkt at h;simp only[Bool.or_eq_false_iff,decide_eq_false_iff_not]at h;obtain⟨⟨h1,h2⟩,h3⟩:=h;have k:=(yt hx.1).1 h1;obtain⟨_,a3,a4⟩:=hx.ends k;have hn:nm x.hi≠0:=fun c=>h2 (by unfold wk;rw[if_pos c])
 unfold zu at h3;rw[if_neg hn]at h3;have ht:=jp (n:=nm x.hi) (e:=x.hi.e) (t:=(bl (nm x.hi):Int)+x.hi.e-1) (by omega) hn;have h4:vN (nm x.hi) x.hi.e<=pw t:=by
  unfold dv at a3 a4;split at a4
  ·grind
  ·exact a4
 have:=xx.1 (qA ht h4);omega
theorem qaa {u:Iv} {p:Int} (hp:pcB p=true) (hu:bI (pw 2) u): ∃k:Nat,1<=k/\k<=700/\zkt (rsI u p k) p=true:=by
 obtain⟨q,rfl,hq⟩:=jz.1 hp;refine⟨8+(q+30),by omega,by omega,?_⟩
 cases h:zkt (rsI u q (8+(q+30))) q with
 |true=>rfl
 |false=>
  have:=qd3 (zyc hp hu (q+30) (by omega)) h;omega
structure VM (n k:Nat) (m:Mx):Prop where
 n1:1<=n/\n<=8
 k1:1<=k/\k<=8
 len:m.length=n
 row: ∀r∈m,r.length=k
 el: ∀r∈m,∀x∈r,VI x
theorem VM.hd {n k:Nat} {m:Mx} (h:VM n k m):hdL m=k:=by
 have h1:=h.n1;have h2:=h.len;have h3:=h.row;unfold hdL
 cases m with
 |nil=>simp at h2;omega
 |cons r m=>exact h3 r (by simp)
def RM (m:Mx):Prop:= ∀r∈m,∀x∈r,RI x
theorem VM.ri {n k:Nat} {m:Mx} (h:VM n k m):RM m:=fun r hr x hx=>(h.el r hr x hx).ri
theorem zex {m:Mx} (h:RM m):vmB m=true<-> ∃n k,VM n k m:=by
 unfold vmB;simp only[wD,decide_eq_true_eq,w3,List.any_eq_false,wH,not_or,ne_eq,Decidable.not_not];constructor
 ·rintro⟨⟨h1,h2⟩,h3⟩;exact⟨m.length,hdL m,h1,h2,rfl,fun r hr=>(h3 r hr).1,fun r hr x hx=>by
   have h4:=(h3 r hr).2;simp only[wE,w3,not_exists,not_and,wi]at h4;exact(je (h r hr x hx)).1 (h4 x hx)⟩
 ·rintro⟨n,k,v⟩;refine⟨⟨by rw[v.len];exact v.n1,by rw[v.hd];exact v.k1⟩,fun r hr=>⟨by rw[v.hd];exact v.row r hr,?_⟩⟩;simp only[wE,w3,not_exists,not_and,wi];exact fun x hx=>(je (h r hr x hx)).2 (v.el r hr x hx)
theorem VM.ok {n k:Nat} {m:Mx} (h:VM n k m):vmB m=true:=(zex h.ri).2 ⟨n,k,h⟩
theorem wz {α β:Type} {f:Nat->α->β} {l:List α} {y:β} (h:y∈l.mapIdx f): ∃i x,l[i]? =some x/\x∈l/\y=f i x:=by
 obtain⟨i,hi⟩:=qT h;rw[qK,w7]at hi;obtain⟨x,hx,rfl⟩:=hi;exact⟨i,x,hx,qO hx,rfl⟩
theorem zt5 {n k:Nat} {m:Mx} (h:VM n k m) {f:Nat->Nat->Iv->Iv} (hf: ∀i j x,VI x->i<n->j<k->VI (f i j x)):VM n k (xc f m):=by
 refine⟨h.n1,h.k1,by unfold xc;rw[w9];exact h.len,fun r hr=>?_,fun r hr x hx=>?_⟩
 ·obtain⟨i,r0,_,hr0,rfl⟩:=wz hr;rw[w9];exact h.row r0 hr0
 ·obtain⟨i,r0,hi,hr0,rfl⟩:=wz hr;obtain⟨j,x0,hj,hx0,rfl⟩:=wz hx;refine hf i j x0 (h.el r0 hr0 x0 hx0) ?_ ?_
  ·have:=(qQ.1 hi).1;rw[h.len]at this;exact this
  ·have:=(qQ.1 hj).1;rw[h.row r0 hr0]at this;exact this
theorem yn {n k:Nat} {m:Mx} (h:VM n k m) {i j:Nat} (hi:i<n) (hj:j<k):VI (atM m i j):=by
 unfold atM;have hi:i<m.length:=by rw[h.len];exact hi
 rw[qB hi];have hm:=qL hi;have hj:j<m[i].length :=by rw[h.row _ hm];exact hj
 simp only[w5];rw[qB hj];exact h.el _ hm _ (qL hj)
theorem zao {n:Int} (h: -4611686018427387904<=n/\n<=4611686018427387904):VI (whI n):= .inl (zbf h)
theorem ztm {n:Nat} (h:1<=n/\n<=8):VM n n (idM n):=by
 unfold idM;rw[if_neg (by omega)];refine⟨h,h,by simp,fun r hr=>?_,fun r hr x hx=>?_⟩
 ·obtain⟨i,_,rfl⟩:=qI.1 hr;simp
 ·obtain⟨i,_,rfl⟩:=qI.1 hr;obtain⟨j,_,rfl⟩:=qI.1 hx;split<;>exact zao (by decide)
theorem zar {n k:Nat} {a:Mx} (h:VM n k a) {x:Iv} (hx:VI x) {p:Int} (hp:pcB p=true):VM n k (scM a x p):=by
 unfold scM;rw[if_pos (by rw[h.ok,(je hx.ri).2 hx,hp];rfl)];exact zt5 h fun i j y hy _ _=>wq hx hy hp
theorem zeu {n k:Nat} {a b:Mx} (ha:VM n k a) (hb:VM n k b) {p:Int} (hp:pcB p=true):(adM a b p).2=0/\VM n k (adM a b p).1:=by
 unfold adM;rw[if_neg (by rw[ha.ok,hb.ok];simp),if_neg (by rw[hp];simp),if_neg (by rw[ha.len,hb.len,ha.hd,hb.hd];simp)];exact⟨rfl,zt5 ha fun i j y hy hi hj=>zho hy (yn hb hi hj) hp⟩
theorem zzc {p:Int} (hp:pcB p=true): ∀(r c:List Iv) (o:Iv),(∀x∈r,VI x)->(∀x∈c,VI x)->VI o->VI (dtG p r c o)
 | [],_,o,_,_,ho=>ho
 | _::_,[],o,_,_,ho=>ho
 |x::r,y::c,o,hr,hc,ho=>zzc hp r c _ (fun z hz=>hr z (qC _ hz)) (fun z hz=>hc z (qC _ hz)) (zho ho (wq (hr x (by simp)) (hc y (by simp)) hp) hp)
theorem qb2 {p:Int} (hp:pcB p=true) {r c:List Iv} (hr: ∀x∈r,VI x) (hc: ∀x∈c,VI x):VI (dtM p r c):=by
 unfold dtM;split
 ·rename_i x r y c;exact zzc hp r c _ (fun z hz=>hr z (qC _ hz)) (fun z hz=>hc z (qC _ hz)) (wq (hr x (by simp)) (hc y (by simp)) hp)
 ·exact zI_VI
theorem qgf {n k:Nat} {b:Mx} (h:VM n k b) {j:Nat} (hj:j<k): ∀x∈zkn b j,VI x:=fun x hx=>by
 obtain⟨r,hr,rfl⟩:=qI.1 hx;have hj:j<r.length:=by rw[h.row r hr];exact hj
 rw[qB hj];exact h.el r hr _ (qL hj)
theorem zhv {n k l:Nat} {a b:Mx} (ha:VM n k a) (hb:VM k l b) {p:Int} (hp:pcB p=true):(muM a b p).2=0/\VM n l (muM a b p).1:=by
 unfold muM;rw[if_neg (by rw[ha.ok,hb.ok];simp),if_neg (by rw[hp];simp),if_neg (by rw[ha.hd,hb.len];simp)];refine⟨rfl,ha.n1,hb.k1,by simp[ha.len],fun r hr=>?_,fun r hr x hx=>?_⟩
 ·obtain⟨r0,_,rfl⟩:=qI.1 hr;simp[hb.hd]
 ·obtain⟨r0,hr0,rfl⟩:=qI.1 hr;obtain⟨j,hj,rfl⟩:=qI.1 hx;have hj:j<l:=by have:=List.mem_range.1 hj;rw[hb.hd]at this;exact this
  exact qb2 hp (ha.el r0 hr0) (qgf hb hj)
theorem zjm {x:Iv} (hx:VI x) (p:Int):VI (wj x p):=by
 unfold wj;split
 ·rename_i c;have k:=(zy hx.ri).1 c.1;exact qar (ur k.lo (qu c.2)) (ur k.hi (qu c.2)) (zew (xr _ _ _ (qu c.2)) (xr _ _ _ (qu c.2))) k.dle
 ·exact .inr rfl
theorem zyt {n k:Nat} {m:Mx} (h:VM n k m) {f:Iv->Iv} (hf: ∀x,VI x->VI (f x)):VM n k (m.map fun r=>r.map f):=by
 refine⟨h.n1,h.k1,by simp[h.len],fun r hr=>?_,fun r hr x hx=>?_⟩
 ·obtain⟨r0,hr0,rfl⟩:=qI.1 hr;simp[h.row r0 hr0]
 ·obtain⟨r0,hr0,rfl⟩:=qI.1 hr;obtain⟨y,hy,rfl⟩:=qI.1 hx;exact hf y (h.el r0 hr0 y hy)
theorem zm3 {n k:Nat} {m:Mx} (h:VM n k m) (p:Int):VM n k (rdM m p):=zyt h fun x hx=>zjm hx p
theorem zuz {n k:Nat} {m:Mx} (h:VM n k m) {e:Iv} (he:VI e) {p:Int} (hp:pcB p=true):VM n k (arM m e p):=zyt h fun x hx=>zho hx (zj3 (zk9 he).ri he.ri) hp
theorem zfe {k:Nat} (h:1<=k) (h2:k<=1000000) {p:Int} (hp:pcB p=true):VI (zcx (whI 1) (whI (k:Int)) p):=zhd (zao (by decide)) (zao (by omega)) hp
theorem qas {u:Iv} (hu:VI u) {p:Int} (hp:pcB p=true): ∀k:Nat,k<=100000->VI (rsI u p k)
 |0,_=>zao (by decide)
 |k+1,hk=>wq (wq (qas hu hp k (by omega)) hu hp) (zfe (by omega) (by omega) hp) hp
theorem zs4 {x:Iv} (k:KI x):0<=dv (jd x)/\(∀a:Rat,dv x.lo<=a->a<=dv x.hi-> -dv (jd x)<=a/\a<=dv (jd x)):=by
 obtain⟨h1,h2,h3⟩:=zmf k q6 k.dle;refine⟨qA h1 (qA h2 h3),fun a ha hb=>?_⟩;obtain⟨_,_,h4⟩:=zmf k ha hb;unfold qd at h4;split at h4<;>constructor<;>grind
theorem qcl {x:Iv} (k:KI x):bI (dv (jd x)) x:=by
 obtain⟨_,h⟩:=zs4 k;exact⟨.inl k,.inr ⟨(h _ q6 k.dle).1,(h _ k.dle q6).2⟩⟩
theorem zb0 {x:Iv} (hx:VI x) (j:Int):VI (zq x j):=by
 rcases hx with k|rfl
 ·exact(zki (qcl k) j).1
 ·exact .inr rfl
theorem zjl {p:Int} (hp:pcB p=true): ∀(r:List Iv) (s S:Dy),(∀x∈r,VI x)->VD s->0<=dv s->zfl p r s=some S->VD S/\dv s<=dv S/\ ∀x∈r,KI x/\dv (jd x)<=dv S
 | [],s,S,_,hs,_,h=>by cases h;exact⟨hs,q6,fun x hx=>by cases hx⟩
 |x::r,s,S,hx,hs,h0,h=>by
  unfold zfl at h;split at h
  ·rename_i c;have k:=(zy (hx x (by simp)).ri).1 c.1;have R1:=(zby hs (xt k) (qu hp)).2.1 c.2;obtain⟨m0,_⟩:=zs4 k;have h1:dv s+dv (jd x)<=dv (zan s (jd x) p.toNat true).1:=R1.1;obtain⟨a1,a2,a3⟩:=zjl hp r _ S (fun y hy=>hx y (qC _ hy)) (ze5 _ _ _ _ (qu hp)) (by grind) h;refine⟨a1,by grind,fun y hy=>?_⟩;rcases wK.1 hy with rfl|hy
   ·exact⟨k,by grind⟩
   ·exact a3 y hy
  ·cases h
theorem zy4 {p:Nat} (hp:8<=p) {c:Nat} (hc:c<=256):inF p (vN c (-1)):=by
 refine⟨c,-1,rfl,wL hc (wL (by decide:256<=2^8) (Nat.pow_le_pow_right (by decide) hp)),by decide,?_⟩;have h1:vN c (-1)<=pw 8:=by
  unfold vN;have h2:(c:Rat)<=pw 8:=by
   rw[show pw 8=((2^8:Nat):Rat)from wp 8];exact q9.2 hc
  have h3:pw (-1)<=pw 0:=xx.2 (by decide);have h4:=zb2 (Rat.natCast_nonneg (a:=c)) h2 (za8 (-1)) h3;rw[←pwA]at h4;exact h4
 exact zm1 h1 (zso (by decide))
theorem zq9 (c:Nat):vN (c+1) (-1)=vN c (-1)+pw (-1):=by
 unfold vN;rw[show((c+1:Nat):Rat)=(c:Rat)+1 from wJ c 1];grind
theorem zyf {p:Int} (hp:pcB p=true): ∀(r:List Iv) (s S:Dy) (c:Nat),(∀x∈r,bI (pw (-1)) x)->VD s->dv s<=vN c (-1)->c+r.length<=200->zfl p r s=some S->dv S<=vN (c+r.length) (-1)
 | [],s,S,c,_,_,h1,_,h=>by cases h;exact h1
 |x::r,s,S,c,hx,hs,h1,hc,h=>by
  unfold zfl at h;split at h
  ·rename_i e;have hb:=hx x (by simp);have k:=(zy hb.1.ri).1 e.1;have hm:=(zo9 hb k).2.1;have hF:=zy4 (p:=p.toNat) (qu hp).1 (c:=c+1) (by simp at hc;omega);have R1:=(zby hs (xt k) (qu hp)).2.2 (vN (c+1) (-1)) (.inl hF) (by show dv s+dv (jd x)<=_;rw[zq9];grind);have:=zyf hp r _ S (c+1) (fun y hy=>hx y (qC _ hy)) (ze5 _ _ _ _ (qu hp)) R1.2 (by simp at hc;omega) h;rw[show c+(x::r).length =c+1+r.length by simp;omega];exact this
  ·cases h
theorem zjs {p:Int} (hp:pcB p=true): ∀(m:Mx) (D0 D:Dy),(∀r∈m,∀x∈r,VI x)->VD D0->nmG p m D0=some D->VD D/\dv D0<=dv D/\ ∀r∈m,∃s,zfl p r d0=some s/\dv s<=dv D
 | [],D0,D,_,h0,h=>by cases h;exact⟨h0,q6,fun r hr=>by cases hr⟩
 |r::m,D0,D,hv,h0,h=>by
  unfold nmG at h;split at h
  ·cases h
  ·rename_i s hs;have hs1:=zjl hp r d0 s (hv r (by simp)) qc (by rw[ym];exact q6) hs;have hcm:=zbw s D0;obtain⟨a1,a2,a3⟩:=zjs hp m _ D (fun r hr=>hv r (qC _ hr)) (by split;exact hs1.1;exact h0) h;have h1:dv s<=dv D/\dv D0<=dv D:=by
    split at a2
    ·rename_i c;have:=hcm.2.1.1 c;exact⟨a2,qA (qG this) a2⟩
    ·rename_i c;have:dv s<=dv D0:=Rat.not_lt.1 fun c2=>c (hcm.2.1.2 c2)
     exact⟨qA this a2,a2⟩
   refine⟨a1,h1.2,fun r' hr'=>?_⟩;rcases wK.1 hr' with rfl|hr'
   ·exact⟨s,hs,h1.1⟩
   ·exact a3 r' hr'
theorem zwe {p:Int} (hp:pcB p=true) {k:Nat} (hk:k<=8): ∀(m:Mx) (D0 D:Dy),(∀r∈m,r.length=k/\ ∀x∈r,bI (pw (-1)) x)->dv D0<=vN k (-1)->nmG p m D0=some D->dv D<=vN k (-1)
 | [],D0,D,_,h0,h=>by cases h;exact h0
 |r::m,D0,D,hv,h0,h=>by
  unfold nmG at h;split at h
  ·cases h
  ·rename_i s hs;obtain⟨hl,hb⟩:=hv r (by simp);have h1:=zyf hp r d0 s 0 hb qc (by rw[ym];exact zc4 _ _) (by omega) hs;rw[w8,hl]at h1;refine zwe hp hk m _ D (fun r hr=>hv r (qC _ hr)) ?_ h;split
   ·exact h1
   ·exact h0
theorem zju {a:Mx} {p:Int} (h: ∀r∈a,∀x∈r,VI x):VD (nmM a p).1/\0<=dv (nmM a p).1:=by
 unfold nmM;split
 ·rename_i c;rw[wD]at c;split
  ·rename_i d hd;obtain⟨a1,a2,_⟩:=zjs c.2 a d0 d h qc hd;rw[ym]at a2;exact⟨a1,a2⟩
  ·exact⟨qc,by rw[ym];exact q6⟩
 ·exact⟨qc,by rw[ym];exact q6⟩
def hvS (N:Dy):Int:=max 0 (zu N+1)
theorem zwo {f:Iv->Iv} {m:Mx} {r:List Iv} {x:Iv} (hr:r∈m) (hx:x∈r): ∃r'∈xc (fun _ _ y=>f y) m,f x∈r':=by
 obtain⟨i,hi⟩:=qT hr;obtain⟨j,hj⟩:=qT hx;refine⟨r.mapIdx fun _ y=>f y,qO (i:=i) (by unfold xc;rw[qK,hi];rfl),qO (i:=j) (by rw[qK,hj];rfl)⟩
theorem znt {n k:Nat} {a:Mx} (ha:VM n k a) {t:Iv} (kt:KI t) {q:Int} (hq:pcB q=true) {N:Dy} (hN:nmM (scM a t q) q=(N,true)): ∀r∈a,∀y∈r,bI (pw (-1)) (jh (zq t (-hvS N)) y q):=by
 have hsc:scM a t q=xc (fun _ _ y=>jh t y q) a:=by
  unfold scM;rw[if_pos (by rw[ha.ok,(je kt.ri).2 (.inl kt),hq];rfl)]
 have vs:=zar ha (.inl kt) hq;have key: ∀r∈a,∀y∈r,KI (jh t y q)/\dv (jd (jh t y q))<=dv N:=fun r hr y hy=>by
  unfold nmM at hN;rw[if_pos (by rw[vs.ok,hq];rfl)]at hN;split at hN
  ·rename_i d hd;cases hN
   obtain⟨a1,a2,a3⟩:=zjs hq _ d0 N vs.el qc hd;obtain⟨r',hr',hx'⟩:=zwo (f:=fun y=>jh t y q) hr hy;rw[←hsc]at hr';obtain⟨s,hs,hle⟩:=a3 r' hr';obtain⟨_,_,b3⟩:=zjl hq r' d0 s (vs.el r' hr') qc (by rw[ym];exact q6) hs;exact⟨(b3 _ hx').1,qA (b3 _ hx').2 hle⟩
  ·cases hN
 have hNv:=zju (p:=q) vs.el;rw[hN]at hNv;intro r hr y hy;obtain⟨km,hm⟩:=key r hr y hy;have vy:=ha.el r hr y hy;have vh:=zb0 (.inl kt:VI t) (-hvS N);refine⟨wq vh vy hq,?_⟩
 cases hal:(jh (zq t (-hvS N)) y q).all with
 |true=>exact .inl rfl
 |false=>
  right;by_cases hk:KI (zq t (-hvS N))/\KI y
  ·have hsa:(zq t (-hvS N)).all =false:=hk.1.all;have e:zq t (-hvS N)=jq (vj t.lo (-hvS N)) (vj t.hi (-hvS N)):=by unfold zq;rw[if_pos ((zy kt.ri).2 kt)]
   rw[e]at hsa;obtain⟨o1,o2⟩:=ut.1 hsa;have e1:dv (zq t (-hvS N)).lo =dv t.lo*pw (-hvS N):=by rw[e,zaw hsa];exact zbz o1
   have e2:dv (zq t (-hvS N)).hi =dv t.hi*pw (-hvS N):=by rw[e,zaw hsa];exact zbz o2
   have hNp:dv N*pw (-hvS N)<=pw (-1):=by
    by_cases h0:nm N=0
    ·rw[zhb h0,ws];exact za8 _
    ·have h1:=(zpm h0).2;have h2:=vf h1 (za8 (-hvS N));rw[←pwA]at h2;exact qA h2 (xx.2 (by unfold hvS;omega))
   have prod: ∀u v:Rat,inI u t->inI v y-> -pw (-1)<=(u*pw (-hvS N))*v/\(u*pw (-hvS N))*v<=pw (-1):=fun u v hu hv=>by
    have hin:=zcj (.inl kt) vy hq hu hv;rcases hin with c|⟨c1,c2⟩
    ·rw[km.all]at c;cases c
    ·obtain⟨d1,d2⟩:=(zs4 km).2 _ c1 c2;have hp:=za8 (-hvS N);have f1:=vf (show u*v<=dv N from qA d2 hm) hp;have f2:=vf (show-(dv N)<=u*v by grind) hp;constructor<;>grind
   have tl:inI (dv t.lo) t:= .inr ⟨q6,kt.dle⟩;have th:inI (dv t.hi) t:= .inr ⟨kt.dle,q6⟩;have yl:inI (dv y.lo) y:= .inr ⟨q6,hk.2.dle⟩;have yh:inI (dv y.hi) y:= .inr ⟨hk.2.dle,q6⟩;rw[zlc hk.1 hk.2 hq]at hal⊢;refine zqz (zld hk.1 hk.2 (qu hq)) (pwF (by decide) (by decide)) ?_ hal;unfold zlv;rw[e1,e2];exact⟨prod _ _ tl yl,prod _ _ tl yh,prod _ _ th yl,prod _ _ th yh⟩
  ·rw[zwl vh.ri vy.ri hk]at hal;cases hal
theorem u_bd {n k:Nat} {a:Mx} (ha:VM n k a) {t:Iv} (kt:KI t) {q:Int} (hq:pcB q=true) {N:Dy} (hN:nmM (scM a t q) q=(N,true)):bI (pw 2) (zj (nmM (scM a (zq t (-hvS N)) q) q).1):=by
 have vh:=zb0 (.inl kt:VI t) (-hvS N);have vs:=zar ha vh hq;have hb:=znt ha kt hq hN;have hsc:scM a (zq t (-hvS N)) q=xc (fun _ _ y=>jh (zq t (-hvS N)) y q) a:=by
  unfold scM;rw[if_pos (by rw[ha.ok,(je vh.ri).2 vh,hq];rfl)]
 have hrow: ∀r∈scM a (zq t (-hvS N)) q,r.length=k/\ ∀x∈r,bI (pw (-1)) x:=fun r hr=>⟨vs.row r hr,fun x hx=>by
  rw[hsc]at hr;obtain⟨i,r0,_,hr0,rfl⟩:=wz hr;obtain⟨j,y,_,hy,rfl⟩:=wz hx;exact hb r0 hr0 y hy⟩
 obtain⟨w1,w2⟩:=zju (p:=q) vs.el;have h4:dv (nmM (scM a (zq t (-hvS N)) q) q).1<=pw 2:=by
  have hk4:vN k (-1)<=pw 2:=by
   have h1:vN k (-1)<=vN 8 (-1):=by
    unfold vN;exact vf (q9.2 ha.k1.2) (za8 _)
   have h2:vN 8 (-1)=pw 2:=by
    unfold vN;rw[show((8:Nat):Rat)=pw 3 from(by rw[show pw 3=((2^3:Nat):Rat)from wp 3]),←pwA];rfl
   rw[h2]at h1;exact h1
  unfold nmM;split
  ·split
   ·rename_i d hd;exact qA (zwe hq ha.k1.2 _ d0 d hrow (by rw[ym];exact zc4 _ _) hd) hk4
   ·rw[ym];exact za8 _
  ·rw[ym];exact za8 _
 refine⟨.inl (zhq w1),.inr ⟨?_,h4⟩⟩;have:=za8 2;show-pw 2<=dv (nmM (scM a (zq t (-hvS N)) q) q).1;grind
def byI (k:Nat) (p:Int):Iv:=zcx (whI 1) (whI (k:Int)) p
def zd8 (m:Mx) (p:Int) (k:Nat) (s:MSt):MSt:=
 let t:=scM (muM s.term m p).1 (byI k p) p
 ⟨t,(adM s.exp t p).1,(adM s.phi (scM t (byI (k+1) p) p) p).1⟩
def zvb (u:Iv) (p:Int) (k:Nat) (r:Iv):Iv:=jh (jh r u p) (byI k p) p
def xm (m:Mx) (u:Iv) (p:Int):Nat->Nat->MSt->Iv->MSt×Iv
 |0,_,s,r=>(s,r)
 |n+1,k,s,r=>if zkt (zvb u p k r) p=true then(zd8 m p k s,zvb u p k r)else xm m u p n (k+1) (zd8 m p k s) (zvb u p k r)
structure MPr where
 exp:Mx
 phi:Mx
def zmt (m:Mx) (h:Iv) (p:Int):MPr:=
 let s:=xm m (zj (nmM m p).1) p 700 1 ⟨idM m.length,idM m.length,idM m.length⟩ (whI 1)
 ⟨arM s.1.exp s.2 p,scM (arM s.1.phi s.2 p) h p⟩
def zqu (q:Int) (x:MPr):MPr:=⟨(muM x.exp x.exp q).1,(adM x.phi (muM x.exp x.phi q).1 q).1⟩
def znz (q:Int):Nat->MPr->MPr
 |0,x=>x
 |n+1,x=>znz q n (zqu q x)
def zkh (a:Mx) (t:Iv) (p:Int):Option MPr:=
 let q:=min (p+40) 512
 let n:=nmM (scM a t q) q
 if n.2=false\/0<qe n.1 (za4 256)then none else
  let half:=zq t (-hvS n.1)
  let x:=znz q (hvS n.1).toNat (zmt (scM a half q) half q)
  let y:MPr:=⟨rdM x.exp p,rdM x.phi p⟩
  if(knM y.exp&&knM y.phi)=true then some y else none
def ziz (a:Mx) (t:Iv) (p:Int):Bool:=vmB a&&decide (a.length=hdL a)&&kB t&&pcB p&& !(a.any fun r=>r.any fun x=>x.all)
def zq4 (a:Mx) (t:Iv) (p:Int):Mx×Int:=if ziz a t p=true then(match zkh a t p with|some x=>(x.exp,0)|none=>([],13))else([],1)
def apM (a:Mx) (x:List Iv) (p:Int):List Iv:=a.map fun r=>dtM p r x
def bvB (l:List Iv):Bool:=decide (1<=l.length/\l.length<=8)&& !l.any fun x=>x.all|| !viB x
def zyw (a:Mx) (b x:List Iv) (t:Iv) (p:Int):List Iv×Int:=
 if(ziz a t p&&bvB b&&bvB x&&decide (b.length=a.length)&&decide (x.length=a.length))=true then
  match zkh a t p with
  |some y=>let out:=List.zipWith (fun u v=>yo u v p) (apM y.exp x p) (apM y.phi b p);if bvB out=true then(out,0)else([],13)
  |none=>([],13)
 else([],1)
structure kI (B:Rat) (x:Iv):Prop where
 k:KI x
 lo: -B<=dv x.lo
 hi:dv x.hi<=B
theorem kI.b {B:Rat} {x:Iv} (h:kI B x):bI B x:=⟨.inl h.k,.inr ⟨h.lo,h.hi⟩⟩
theorem ztj {B:Rat} {x:Iv} (h:bI B x) (ha:x.all=false):kI B x:=by
 have k:=(yt h.1).1 ha;rcases h.2 with c|c
 ·rw[ha]at c;cases c
 ·exact⟨k,c.1,c.2⟩
theorem kI.mono {B C:Rat} {x:Iv} (h:kI B x) (hb:B<=C):kI C x:=⟨h.k,by have:=h.lo;grind,by have:=h.hi;grind⟩
theorem kI.nn {B:Rat} {x:Iv} (h:kI B x):0<=B:=by
 have h1:=h.lo;have h2:=h.hi;have h3:=h.k.dle;grind
theorem qct {p:Nat} {op:Rat->Rat->Rat} {dn up:Dy->Dy->Dy×Int} {x y:Iv} (f:F4 p op dn up x y) {b:Rat} (hb:inF p b) (h:zlv op x y (fun z=> -b<=z/\z<=b)):(jo dn up x y).all =false:=by
 obtain⟨a1,a2,a3,a4⟩:=h;have hn:Fp p (-b):= .inr (by rw[wF];exact hb);have hp:Fp p b:= .inl hb;have c1:=f.rt1;have c2:=f.rt2;have c3:=f.rt3;have c4:=f.rt4;exact zxd ⟨(c1.1.2 (-b) hn a1.1).1,(c2.1.2 (-b) hn a2.1).1,(c3.1.2 (-b) hn a3.1).1,(c4.1.2 (-b) hn a4.1).1⟩
  ⟨(c1.2.2 b hp a1.2).1,(c2.2.2 b hp a2.2).1,(c3.2.2 b hp a3.2).1,(c4.2.2 b hp a4.2).1⟩
theorem zgr {B C:Rat} {x y:Iv} (hx:kI B x) (hy:kI C y) {p:Int} (hp:pcB p=true) (hF:inF p.toNat (B*C)):kI (B*C) (jh x y p):=by
 refine ztj (zi3 hx.b hy.b hp hF) ?_;obtain⟨⟨a1,a2⟩,⟨a3,a4⟩⟩:=hx.b.ends hx.k;obtain⟨⟨b1,b2⟩,⟨b3,b4⟩⟩:=hy.b.ends hy.k;rw[zlc hx.k hy.k hp];exact qct (zld hx.k hy.k (qu hp)) hF ⟨uf a1 a2 b1 b2,uf a1 a2 b3 b4,uf a3 a4 b1 b2,uf a3 a4 b3 b4⟩
theorem qbn {B:Rat} {x:Iv} (hx:kI B x) {n:Int} (h1:1<=n) (h2:n<=4611686018427387904) {c:Rat} (hc:(n:Rat)⁻¹ <=c) {p:Int} (hp:pcB p=true) (hF:inF p.toNat (B*c)):kI (B*c) (zcx x (whI n) p):=by
 have kn:=zbf (n:=n) (by omega);have hn:=zia h1;have e:dv (whI n).lo =(n:Rat):=kv n;have e':dv (whI n).hi =(n:Rat):=kv n;have hs:0<dv (whI n).lo \/dv (whI n).hi <0:= .inl (by rw[e];grind);obtain⟨⟨a1,a2⟩,⟨a3,a4⟩⟩:=hx.b.ends hx.k;have i0:0<(n:Rat)⁻¹ :=qZ.2 (by grind);have q: ∀a:Rat,-B<=a->a<=B-> -(B*c)<=a/(n:Rat)/\a/(n:Rat)<=B*c:=fun a c1 c2=>by
  rw[qS];exact uf c1 c2 (by grind) hc
 have hq:zlv (fun u v=>u/v) x (whI n) (fun z=> -(B*c)<=z/\z<=B*c):=by
  unfold zlv;rw[e,e'];exact⟨q _ a1 a2,q _ a1 a2,q _ a3 a4,q _ a3 a4⟩
 have f:=zps hx.k kn hs (qu hp);have ha:=qct f hF hq;have hb:=zqz f hF hq ha;have hv:=zhd (.inl hx.k) (.inl kn) (y:=whI n) (x:=x) hp;rw[zkd hx.k kn hs hp]at hv⊢;exact⟨(yt hv).1 ha,hb.1,hb.2⟩
theorem zpc {B C D:Rat} {x y:Iv} (hx:kI B x) (hy:kI C y) (hD:B+C<=D) {p:Int} (hp:pcB p=true) (hF:inF p.toNat D):kI D (yo x y p):=by
 have hv:=zho (.inl hx.k) (.inl hy.k) (x:=x) (y:=y) hp;rw[zpz hx.k hy.k hp]at hv⊢;have R1:=zby hx.k.lo hy.k.lo (qu hp);have R2:=zby hx.k.hi hy.k.hi (qu hp);have q1:=hx.lo;have q2:=hy.lo;have q3:=hx.hi;have q4:=hy.hi;have r1:=R1.1.2 (-D) (.inr (by rw[wF];exact hF)) (by grind);have r2:=R2.2.2 D (.inl hF) (by grind);have ha:=ut.2 ⟨r1.1,r2.1⟩;rw[zaw ha]at hv⊢;exact⟨(yt hv).1 rfl,r1.2,r2.2⟩
theorem zw1 {B:Rat} {x:Iv} (hx:kI B x) {p:Int} (hp:pcB p=true) (hF:inF p.toNat B):kI B (wj x p):=by
 refine ztj (zpx hx.b hF) ?_;obtain⟨⟨a1,a2⟩,⟨a3,a4⟩⟩:=hx.b.ends hx.k;unfold wj;rw[if_pos ⟨(zy hx.k.ri).2 hx.k,hp⟩];have R1:=ur hx.k.lo (qu hp);have R2:=ur hx.k.hi (qu hp);exact ut.2 ⟨(R1.1.2 (-B) (.inr (by rw[wF];exact hF)) a1).1,(R2.2.2 B (.inl hF) a4).1⟩
def sQ (f:Nat->Rat):Nat->Rat
 |0=>f 0
 |k+1=>sQ f k+f (k+1)
theorem zef {f g:Nat->Rat}: ∀ {k:Nat},(∀i,i<=k->f i<=g i)->sQ f k<=sQ g k
 |0,h=>h 0 (q7 _)
 |k+1,h=>by
  have h1:=zef (k:=k) fun i hi=>h i (by omega)
  have h2:=h (k+1) (q7 _);show sQ f k+f (k+1)<=sQ g k+g (k+1);grind
theorem yd {f g:Nat->Rat}: ∀ {k:Nat},(∀i,i<=k->f i=g i)->sQ f k=sQ g k
 |0,h=>h 0 (q7 _)
 |k+1,h=>by
  have h1:=yd (k:=k) fun i hi=>h i (by omega)
  have h2:=h (k+1) (q7 _);show sQ f k+f (k+1)=sQ g k+g (k+1);rw[h1,h2]
theorem zsb {f:Nat->Rat}: ∀ {k:Nat},(∀i,i<=k->0<=f i)->0<=sQ f k
 |0,h=>h 0 (q7 _)
 |k+1,h=>by
  have h1:=zsb (k:=k) fun i hi=>h i (by omega)
  have h2:=h (k+1) (q7 _);show 0<=sQ f k+f (k+1);grind
theorem zop {f g:Nat->Rat}: ∀ {k:Nat},sQ (fun i=>f i+g i) k=sQ f k+sQ g k
 |0=>rfl
 |k+1=>by
  show sQ (fun i=>f i+g i) k+(f (k+1)+g (k+1))=(sQ f k+f (k+1))+(sQ g k+g (k+1));rw[zop];grind
theorem zoo {f g:Nat->Rat}: ∀ {k:Nat},sQ (fun i=>f i-g i) k=sQ f k-sQ g k
 |0=>rfl
 |k+1=>by
  show sQ (fun i=>f i-g i) k+(f (k+1)-g (k+1))=(sQ f k+f (k+1))-(sQ g k+g (k+1));rw[zoo];grind
theorem jk {c:Rat} {f:Nat->Rat}: ∀ {k:Nat},sQ (fun i=>c*f i) k=c*sQ f k
 |0=>rfl
 |k+1=>by
  show sQ (fun i=>c*f i) k+c*f (k+1)=c*(sQ f k+f (k+1));rw[jk];grind
theorem zee {f:Nat->Nat->Rat} {l:Nat}: ∀ {k:Nat},sQ (fun i=>sQ (fun j=>f i j) l) k=sQ (fun j=>sQ (fun i=>f i j) k) l
 |0=>rfl
 |k+1=>by
  show sQ (fun i=>sQ (fun j=>f i j) l) k+sQ (fun j=>f (k+1) j) l=sQ (fun j=>sQ (fun i=>f i j) k+f (k+1) j) l;rw[zee,zop]
theorem xw {a b:Rat}:qd a<=b<-> -b<=a/\a<=b:=by
 unfold qd;split<;>constructor<;>(try rintro⟨h1,h2⟩)<;>(try intro h1)<;>grind
theorem ud (a:Rat): -qd a<=a/\a<=qd a:=xw.1 q6
theorem zat (a b:Rat):qd (a+b)<=qd a+qd b:=by
 have h1:=ud a;have h2:=ud b;rw[xw];constructor<;>grind
theorem zas (a:Rat):qd (-a)=qd a:=by
 unfold qd;split<;>split<;>grind
theorem zor (a b:Rat):qd (a-b)<=qd a+qd b:=by
 have h1:=ud a;have h2:=ud b;rw[xw];constructor<;>grind
theorem jn {a:Rat} (h:0<=a):qd a=a:=by unfold qd;split<;>grind
theorem zyi:qd 1=1:=jn (by decide)
theorem zh8:qd 0=0:=jn (by decide)
theorem zac {a b:Rat}:qd (a*b)=qd a*qd b:=by
 by_cases ha:0<=a<;>by_cases hb:0<=b
 ·rw[jn ha,jn hb,jn (qD ha hb)]
 ·have h:=qD ha (show 0<= -b by grind);rw[jn ha,←zas b,jn (show 0<= -b by grind),←zas,show-(a*b)=a* -b by grind,jn h]
 ·have h:=qD (show 0<= -a by grind) hb;rw[jn hb,←zas a,jn (show 0<= -a by grind),←zas,show-(a*b)= -a*b by grind,jn h]
 ·have h:=qD (show 0<= -a by grind) (show 0<= -b by grind);rw[←zas a,←zas b,jn (show 0<= -a by grind),jn (show 0<= -b by grind),show a*b= -a* -b by grind,jn h]
theorem zoq {f:Nat->Rat}: ∀ {k:Nat},qd (sQ f k)<=sQ (fun i=>qd (f i)) k
 |0=>q6
 |k+1=>by
  have h:=zoq (f:=f) (k:=k);have h2:=zat (sQ f k) (f (k+1));show qd (sQ f k+f (k+1))<=sQ (fun i=>qd (f i)) k+qd (f (k+1));grind
theorem zvy {f:Nat->Rat}: ∀ {k:Nat},(∀i,i<=k->0<=f i)-> ∀j,j<=k->f j<=sQ f k
 |0,_,j,hj=>by obtain rfl:j=0:=by omega
               exact q6
 |k+1,h,j,hj=>by
  have h1:=zsb (k:=k) fun i hi=>h i (by omega)
  have h2:=h (k+1) (q7 _);show f j<=sQ f k+f (k+1);by_cases e:j=k+1
  ·subst e;grind
  ·have:=zvy (k:=k) (fun i hi=>h i (by omega)) j (by omega);grind
theorem qd8 {f:Nat->Rat} (h: ∀i,0<=f i) (k:Nat): ∀d:Nat,sQ f k<=sQ f (k+d)
 |0=>q6
 |d+1=>by
  have h1:=qd8 h k d;have h2:=h (k+d+1);show sQ f k<=sQ f (k+d)+f (k+d+1);grind
theorem zya {f:Nat->Rat} (h: ∀i,0<=f i) {k n:Nat} (hk:k<=n):sQ f k<=sQ f n:=by
 obtain⟨d,rfl⟩:=qE hk;exact qd8 h k d
theorem qak {f g:Nat->Rat} (h: ∀i,qd (f i)<=g i) (k:Nat): ∀d:Nat,qd (sQ f (k+d)-sQ f k)<=sQ g (k+d)-sQ g k
 |0=>by rw[qX,qN,qN,zh8];exact q6
 |d+1=>by
  have h1:=qak h k d;have h2:=h (k+d+1);have h3:=zat (sQ f (k+d)-sQ f k) (f (k+d+1));show qd (sQ f (k+d)+f (k+d+1)-sQ f k)<=sQ g (k+d)+g (k+d+1)-sQ g k;rw[show sQ f (k+d)+f (k+d+1)-sQ f k=sQ f (k+d)-sQ f k+f (k+d+1) by grind];grind
theorem qd9 {f g:Nat->Rat} (h: ∀i,qd (f i)<=g i) {k n:Nat} (hk:k<=n):qd (sQ f n-sQ f k)<=sQ g n-sQ g k:=by
 obtain⟨d,rfl⟩:=qE hk;exact qak h k d
def Nul (s:Nat->Rat):Prop:= ∀e:Rat,0<e-> ∃N:Nat,∀n,N<=n->qd (s n)<=e
def Bnd (s:Nat->Rat):Prop:= ∃B:Rat,0<=B/\ ∀n,qd (s n)<=B
theorem zax {e:Rat} (h:0<e):0<e/2/\e/2+e/2=e:=by constructor<;>grind
theorem Nul.cg {s t:Nat->Rat} (hs:Nul s) (h: ∀n,s n=t n):Nul t:=by rw[show t=s from funext fun n=>(h n).symm];exact hs
theorem zbj {e B:Rat} (he:0<e) (hB:0<=B):0<e/(B+1)/\B*(e/(B+1))<=e:=by
 have h1:(0:Rat)<(B+1)⁻¹ :=qZ.2 (by grind);have h2:=qJ (B+1) (by grind);rw[qS];have h3:0<e*(B+1)⁻¹ :=Rat.mul_pos he h1;have h4:B*(e*(B+1)⁻¹)=e*((B+1)*(B+1)⁻¹)-e*(B+1)⁻¹ :=by grind
 exact⟨h3,by rw[h4,h2];grind⟩
theorem Nul.zero:Nul fun _=>0:=fun e he=>⟨0,fun n _=>by rw[zh8];grind⟩
theorem Bnd.const (c:Rat):Bnd fun _=>c:=⟨qd c,zx c,fun _=>q6⟩
theorem Bnd.add {s t:Nat->Rat} (hs:Bnd s) (ht:Bnd t):Bnd fun n=>s n+t n:=by
 obtain⟨B,h1,h2⟩:=hs;obtain⟨C,h3,h4⟩:=ht;refine⟨B+C,by grind,fun n=>?_⟩;have:=zat (s n) (t n);have:=h2 n;have:=h4 n;grind
structure Smb (α:Nat->Rat):Prop where
 nn: ∀i,0<=α i
 tl: ∀e:Rat,0<e-> ∃N:Nat,∀n,N<=n->sQ α n-sQ α N<=e
theorem Smb.sc {α:Nat->Rat} (h:Smb α) {C:Rat} (hC:0<=C):Smb fun i=>C*α i:=by
 refine⟨fun i=>qD hC (h.nn i),fun e he=>?_⟩;obtain⟨q1,q2⟩:=zbj he hC;obtain⟨N,hN⟩:=h.tl _ q1;refine⟨N,fun n hn=>?_⟩;have h1:=q5 (hN n hn) hC;rw[jk,jk];grind
theorem Smb.bnd {α:Nat->Rat} (h:Smb α): ∃A:Rat,0<=A/\ ∀n,sQ α n<=A:=by
 obtain⟨N,hN⟩:=h.tl 1 (by decide);have h0:=zsb (k:=N) fun i _=>h.nn i
 refine⟨sQ α N+1,by grind,fun n=>?_⟩;rcases Nat.le_total N n with c|c
 ·have:=hN n c;grind
 ·have:=zya h.nn c;grind
theorem Smb.tl2 {α:Nat->Rat} (h:Smb α) {e:Rat} (he:0<e): ∃N:Nat,∀m n,N<=m->m<=n->sQ α n-sQ α m<=e:=by
 obtain⟨N,hN⟩:=h.tl e he;refine⟨N,fun m n hm hn=>?_⟩;have h1:=hN n (by omega);have h2:=zya h.nn hm;grind
theorem Smb.of {α f:Nat->Rat} (h:Smb α) (hf: ∀i,qd (f i)<=α i):Bnd (sQ f):=by
 obtain⟨A,h0,hA⟩:=h.bnd;refine⟨A,h0,fun n=>qA zoq (qA (zef fun i _=>hf i) (hA n))⟩
theorem qea {g:Nat->Rat} {i:Nat}: ∀ {n:Nat},i<=n->sQ (fun k=>if i<=k then g (k-i)else 0) n=sQ g (n-i)
 |0,h=>by
  obtain rfl:i=0:=by omega
  rfl
 |n+1,h=>by
  show sQ (fun k=>if i<=k then g (k-i)else 0) n+(if i<=n+1 then g (n+1-i)else 0)=_;rw[if_pos h];by_cases e:i=n+1
  ·subst e;have hz: ∀k,k<=n->(if n+1<=k then g (k-(n+1))else 0)=(fun _=>(0:Rat)) k:=fun k hk=>by rw[if_neg (by omega)]
   rw[yd hz,wA];have h0: ∀m,sQ (fun _=>(0:Rat)) m=0:=fun m=>by
    induction m with
    |zero=>rfl
    |succ m ih=>show sQ (fun _=>(0:Rat)) m+0=0;rw[ih,wB]
   rw[h0];show 0+g 0=g 0;grind
  ·rw[qea (by omega),show n+1-i=(n-i)+1 by omega];rfl
def trQ (f:Nat->Nat->Rat) (n:Nat):Rat:=sQ (fun k=>sQ (fun i=>f i (k-i)) k) n
theorem qal {f:Nat->Rat} {k:Nat}: ∀ {n:Nat},k<=n->sQ (fun i=>if i<=k then f i else 0) n=sQ f k
 |0,h=>by obtain rfl:k=0:=by omega
          rfl
 |n+1,h=>by
  show sQ (fun i=>if i<=k then f i else 0) n+(if n+1<=k then f (n+1)else 0)=_;by_cases e:k=n+1
  ·subst e;rw[if_pos (q7 _),yd (g:=f) fun i hi=>if_pos (by omega)];rfl
  ·rw[if_neg (by omega),qal (by omega)];grind
theorem qdu (f:Nat->Nat->Rat) (n:Nat):trQ f n=sQ (fun i=>sQ (f i) (n-i)) n:=by
 unfold trQ;have h1:sQ (fun k=>sQ (fun i=>f i (k-i)) k) n=sQ (fun k=>sQ (fun i=>if i<=k then f i (k-i)else 0) n) n:=yd fun k hk=>(qal hk).symm
 rw[h1,zee (f:=fun k i=>if i<=k then f i (k-i)else 0)];exact yd fun i hi=>qea hi
theorem zzf {f:Nat->Nat->Rat} {α β:Nat->Rat} (ha:Smb α) (hb:Smb β) (hf: ∀i j,qd (f i j)<=α i*β j):Nul fun n=>sQ (fun i=>sQ (f i) n) n-trQ f n:=fun e he=>by
 obtain⟨A,hA,hA'⟩:=ha.bnd;obtain⟨B,hB,hB'⟩:=hb.bnd;obtain⟨q1,q2⟩:=zbj he (show 0<=A+B by grind);generalize e/(A+B+1)=d at*;obtain⟨N1,hN1⟩:=ha.tl2 q1;obtain⟨N2,hN2⟩:=hb.tl2 q1;refine⟨N1+N2,fun n hn=>?_⟩;show qd (sQ (fun i=>sQ (f i) n) n-trQ f n)<=e;rw[qdu,←zoo];refine qA zoq ?_;have h1: ∀i,i<=n->qd (sQ (f i) n-sQ (f i) (n-i))<=α i*(sQ β n-sQ β (n-i)):=fun i hi=>by
  have:=qd9 (f:=f i) (g:=fun j=>α i*β j) (hf i) (show n-i<=n by omega);rw[jk,jk]at this;grind
 refine qA (zef h1) ?_;have h2: ∀i,i<=n->α i*(sQ β n-sQ β (n-i))<=d*α i+B*(if i<=n-N2 then 0 else α i):=fun i hi=>by
  have h0:=ha.nn i;by_cases c:i<=n-N2
  ·rw[if_pos c];have h3:=hN2 (n-i) n (by omega) (by omega);have:=q5 h3 h0;grind
  ·rw[if_neg c];have h3:=hB' n;have h4:=zsb (k:=n-i) fun j _=>hb.nn j
   have:=q5 (show sQ β n-sQ β (n-i)<=B by grind) h0;have:=qD (qG q1) h0;grind
 refine qA (zef h2) ?_;rw[zop,jk,jk];have h5:sQ (fun i=>if i<=n-N2 then 0 else α i) n=sQ α n-sQ α (n-N2):=by
  rw[←qal (f:=α) (k:=n-N2) (n:=n) (by omega),←zoo];refine yd fun i _=>?_
  split<;>grind
 rw[h5];have h6:=hN1 (n-N2) n (by omega) (by omega);have h7:=q5 h6 hB;have h8:=q5 (hA' n) (qG q1);grind
theorem arch (q:Rat): ∃n:Nat,q<=(n:Rat):=by
 refine⟨(q.floor+1).toNat,?_⟩;have h1:=Rat.lt_floor_add_one q;have h2:((q.floor+1:Int):Rat)<=(((q.floor+1).toNat :Int):Rat):=Rat.intCast_le_intCast.2 (by omega);rw[qR]at h2;grind
def rQ (u:Rat):Nat->Rat
 |0=>1
 |j+1=>rQ u j*u*(1/((j+1:Nat):Rat))
theorem zlk (j:Nat):(0:Rat)<=1/((j+1:Nat):Rat)/\(1:Rat)/((j+1:Nat):Rat)<=1:=by
 have h:(1:Rat)<=((j+1:Nat):Rat):=by
  have:=(q9 (a:=1) (b:=j+1)).2 (by omega);simpa using this
 have h3:(0:Rat)<((j+1:Nat):Rat)⁻¹ :=qZ.2 (by grind);have h4:=qJ ((j+1:Nat):Rat) (by grind);have h5:=qF h (qG h3);rw[qS,qM];exact⟨qG h3,by grind⟩
theorem rQ_s (u:Rat) (j:Nat):((j+1:Nat):Rat)*rQ u (j+1)=u*rQ u j:=by
 have h0:(0:Rat)<((j+1:Nat):Rat):=qU.2 (by omega);have h4:=qJ ((j+1:Nat):Rat) (by grind);rw[show rQ u (j+1)=rQ u j*u*(1/((j+1:Nat):Rat))from rfl,qS,qM];generalize ((j+1:Nat):Rat)=c at*;generalize rQ u j=q;grind
theorem zhu {u:Rat} (h:0<=u): ∀j,0<=rQ u j
 |0=>by unfold rQ;decide
 |j+1=>qD (qD (zhu h j) h) (zlk j).1
theorem ze1 (u:Rat): ∀j,qd (rQ u j)=rQ (qd u) j
 |0=>zyi
 |j+1=>by
  unfold rQ;rw[zac,zac,ze1 u j,jn (zlk j).1]
theorem zm6 {u:Rat} (h:0<=u) {K:Nat} (hu:u*2<=((K+1:Nat):Rat)) {j:Nat} (hj:K<=j):rQ u (j+1)*2<=rQ u j:=by
 have h1:((K+1:Nat):Rat)<=((j+1:Nat):Rat):=q9.2 (by omega);have h0:(0:Rat)<((j+1:Nat):Rat):=qU.2 (by omega);have hm:=qJ ((j+1:Nat):Rat) (by grind);have hi:(0:Rat)<=((j+1:Nat):Rat)⁻¹ :=qG (qZ.2 h0);have h2:(u*2)*((j+1:Nat):Rat)⁻¹ <=1:=by
  have:=qF (qA hu h1) hi;rw[hm]at this;exact this
 have h3:=q5 h2 (zhu h j);rw[show rQ u (j+1)=rQ u j*u*(1/((j+1:Nat):Rat))from rfl,qS,qM];generalize ((j+1:Nat):Rat)⁻¹ =c at*;generalize rQ u j=q at*;grind
theorem zm5 {u:Rat} (h:0<=u) {K:Nat} (hu:u*2<=((K+1:Nat):Rat)): ∀d:Nat,sQ (rQ u) (K+d)-sQ (rQ u) K<=rQ u K-rQ u (K+d)
 |0=>by rw[qX,qN,qN];exact q6
 |d+1=>by
  have h1:=zm5 h hu d;have h2:=zm6 h hu (j:=K+d) (by omega);show sQ (rQ u) (K+d)+rQ u (K+d+1)-sQ (rQ u) K<=rQ u K-rQ u (K+d+1);grind
theorem zyj {u:Rat} (h:0<=u) {K:Nat} (hu:u*2<=((K+1:Nat):Rat)): ∀d:Nat,rQ u (K+d)*((d+1:Nat):Rat)<=rQ u K
 |0=>by
  rw[show((0+1:Nat):Rat)=1 from rfl];simp
 |d+1=>by
  have h1:=zyj h hu d;have h2:=zm6 h hu (j:=K+d) (by omega);have h3:((d+1+1:Nat):Rat)<=2*((d+1:Nat):Rat):=by
   have:=(q9 (a:=d+1+1) (b:=2*(d+1))).2 (by omega);rw[Rat.natCast_mul]at this;exact this
  have h4:=q5 h3 (zhu h (K+d+1));have h5:=qF h2 (zsx (d+1));show rQ u (K+d+1)*((d+1+1:Nat):Rat)<=rQ u K;grind
theorem zv4 {u:Rat}: ∃K:Nat,u*2<=((K+1:Nat):Rat):=by
 obtain⟨n,hn⟩:=arch (u*2);refine⟨n,qA hn (q9.2 (by omega))⟩
theorem zv3 {u:Rat} (h:0<=u) {e:Rat} (he:0<e): ∃N:Nat,u*2<=((N+1:Nat):Rat)/\ ∀n,N<=n->rQ u n<=e:=by
 obtain⟨K,hK⟩:=zv4 (u:=u);obtain⟨m,hm⟩:=arch (rQ u K/e);have hB:rQ u K<=e*(m:Rat):=by
  have:=q5 hm (qG he);have h2:=qJ e (by grind);rw[qS,show e*(rQ u K*e⁻¹)=rQ u K*(e*e⁻¹) by grind,h2,w4]at this;exact this
 have hK':u*2<=((K+m+1:Nat):Rat):=qA hK (q9.2 (by omega));refine⟨K+m,hK',fun n hn=>?_⟩;obtain⟨d,rfl⟩:=qE hn;have h1:=zyj h hK (m+d);rw[←Nat.add_assoc]at h1;have h2:((m:Nat):Rat)<=((m+d+1:Nat):Rat):=q9.2 (by omega);have h3:=q5 h2 (qG he);have h4:rQ u (K+m+d)*((m+d+1:Nat):Rat)<=e*((m+d+1:Nat):Rat):=by grind
 exact qP h4 (qU.2 (by omega))
theorem zh9 {u:Rat} (h:0<=u):Smb (rQ u):=by
 refine⟨zhu h,fun e he=>?_⟩;obtain⟨N,h1,h2⟩:=zv3 h he;refine⟨N,fun n hn=>?_⟩;obtain⟨d,rfl⟩:=qE hn;have h3:=zm5 h h1 d;have h4:=zhu h (N+d);have h5:=h2 N (q7 _);grind
theorem zji {f:Nat->Rat}: ∀ {k:Nat},sQ f (k+1)=f 0+sQ (fun i=>f (i+1)) k
 |0=>rfl
 |k+1=>by
  show sQ f (k+1)+f (k+1+1)=f 0+(sQ (fun i=>f (i+1)) k+f (k+1+1));rw[zji];grind
theorem zos (x y:Rat): ∀k:Nat,sQ (fun i=>rQ x i*rQ y (k-i)) k=rQ (x+y) k
 |0=>by exact qM 1
 |k+1=>by
  have ih:=zos x y k;have h0:(0:Rat)<((k+1:Nat):Rat):=qU.2 (by omega);have hs:=rQ_s (x+y) k;have key:((k+1:Nat):Rat)*sQ (fun i=>rQ x i*rQ y (k+1-i)) (k+1)=(x+y)*sQ (fun i=>rQ x i*rQ y (k-i)) k:=by
   rw[←jk];have e1:sQ (fun i=>((k+1:Nat):Rat)*(rQ x i*rQ y (k+1-i))) (k+1)=sQ (fun i=>(i:Rat)*(rQ x i*rQ y (k+1-i))+((k+1-i:Nat):Rat)*(rQ x i*rQ y (k+1-i))) (k+1):=yd fun i hi=>by
    have:((k+1:Nat):Rat)=(i:Rat)+((k+1-i:Nat):Rat):=by rw[←wJ];congr 1;omega
    rw[this];grind
   rw[e1,zop];have e2:sQ (fun i=>(i:Rat)*(rQ x i*rQ y (k+1-i))) (k+1)=x*sQ (fun i=>rQ x i*rQ y (k-i)) k:=by
    rw[zji,←jk];have:sQ (fun i=>((i+1:Nat):Rat)*(rQ x (i+1)*rQ y (k+1-(i+1)))) k=sQ (fun i=>x*(rQ x i*rQ y (k-i))) k:=yd fun i hi=>by
     have h1:=rQ_s x i;rw[show k+1-(i+1)=k-i by omega];grind
    rw[this];rw[show((0:Nat):Rat)=0 from rfl,ws,wC]
   have e3:sQ (fun i=>((k+1-i:Nat):Rat)*(rQ x i*rQ y (k+1-i))) (k+1)=y*sQ (fun i=>rQ x i*rQ y (k-i)) k:=by
    show sQ (fun i=>((k+1-i:Nat):Rat)*(rQ x i*rQ y (k+1-i))) k+((k+1-(k+1):Nat):Rat)*(rQ x (k+1)*rQ y (k+1-(k+1)))=_;rw[wA,show((0:Nat):Rat)=0 from rfl,ws,wB,←jk];exact yd fun i hi=>by
     have h1:=rQ_s y (k-i);rw[show k+1-i=k-i+1 by omega];grind
   rw[e2,e3];grind
  rw[ih,←hs]at key;have:=q6 (a:=((k+1:Nat):Rat)*sQ (fun i=>rQ x i*rQ y (k+1-i)) (k+1));refine zjn (qP (c:=((k+1:Nat):Rat)) ?_ h0) (qP (c:=((k+1:Nat):Rat)) ?_ h0)<;>grind
def eS (x:Rat) (n:Nat):Rat:=sQ (rQ x) n
theorem zzb (x:Rat):Bnd (eS x):=(zh9 (zx x)).of fun i=>by rw[ze1];exact q6
theorem zt7 (x y:Rat):Nul fun n=>eS x n*eS y n-eS (x+y) n:=by
 have h:=zzf (f:=fun i j=>rQ x i*rQ y j) (zh9 (zx x)) (zh9 (zx y)) fun i j=>by rw[zac,ze1,ze1];exact q6
 refine h.cg fun n=>?_
 have e1:sQ (fun i=>sQ (fun j=>rQ x i*rQ y j) n) n=eS x n*eS y n:=by
  have:(fun i=>sQ (fun j=>rQ x i*rQ y j) n)=fun i=>eS y n*rQ x i:=by
   funext i;rw[jk];unfold eS;grind
  rw[this,jk];unfold eS;grind
 have e2:trQ (fun i j=>rQ x i*rQ y j) n=eS (x+y) n:=by
  unfold trQ eS;exact yd fun k _=>zos x y k
 rw[e1,e2]
theorem qbz {x:Rat} {K:Nat} (hu:qd x*2<=((K+1:Nat):Rat)) {n:Nat} (hn:K<=n):qd (eS x n-eS x K)<=rQ (qd x) K:=by
 obtain⟨d,rfl⟩:=qE hn;have h1:=qak (f:=rQ x) (g:=rQ (qd x)) (fun i=>by rw[ze1];exact q6) K d;have h2:=zm5 (zx x) hu d;have h3:=zhu (zx x) (K+d);unfold eS;grind
theorem qf5 {d:Rat} (h:0<=d) (n:Nat):1<=eS d n:=zvy (f:=rQ d) (fun i _=>zhu h i) 0 (wG _)
theorem eS_lo (x:Rat) {e:Rat} (he:0<e): ∃N:Nat,∀n,N<=n-> -e<=eS x n:=by
 have h:=zt7 (x/2) (x/2);obtain⟨N,hN⟩:=h e he;refine⟨N,fun n hn=>?_⟩;have h1:=hN n hn;simp only[show x/2+x/2=x by grind]at h1;have h2:0<=eS (x/2) n*eS (x/2) n:=by
  rcases qY (a:=0) (b:=eS (x/2) n)with c|c
  ·exact qD c c
  ·have:=qD (show 0<= -eS (x/2) n by grind) (show 0<= -eS (x/2) n by grind);grind
 have h3:=ud (eS (x/2) n*eS (x/2) n-eS x n);grind
theorem zt6 {x y:Rat} (h:x<=y) {e:Rat} (he:0<e): ∃N:Nat,∀n,N<=n->eS x n<=eS y n+e:=by
 obtain⟨C,hC,hC'⟩:=zzb (y-x);obtain⟨p1,p2⟩:=zax he;obtain⟨q1,q2⟩:=zbj p1 hC;obtain⟨N,hN⟩:=eS_lo x q1;obtain⟨M,hM⟩:=zt7 x (y-x) _ p1;refine⟨N+M,fun n hn=>?_⟩;have h1:=hN n (by omega);have h2:=hM n (by omega);have h3:=ud (eS x n*eS (y-x) n-eS (x+(y-x)) n);rw[show x+(y-x)=y by grind]at h2 h3;have h4:=qf5 (show 0<=y-x by grind) n;have h5:=(ud (eS (y-x) n)).2;have h6:=hC' n;generalize e/2/(C+1)=d at*;have h7:=qD (show 0<=eS x n+d by grind) (show 0<=eS (y-x) n-1 by grind);have h8:=q5 (show eS (y-x) n-1<=C by grind) (qG q1);grind
def lI (s:Nat->Rat) (x:Iv):Prop:= ∀e:Rat,0<e-> ∃N:Nat,∀n,N<=n-> ∃q,inI q x/\qd (s n-q)<=e
theorem ztc {s:Nat->Rat} {x:Iv} (N:Nat) (h: ∀n,N<=n->inI (s n) x):lI s x:=fun e he=>⟨N,fun n hn=>⟨s n,h n hn,by rw[qN,zh8];grind⟩⟩
theorem qfb {q:Rat} {x:Iv} (h:inI q x):lI (fun _=>q) x:=ztc 0 fun _ _=>h
theorem lI.nul {s t:Nat->Rat} {x:Iv} (h:lI s x) (hn:Nul fun n=>s n-t n):lI t x:=fun e he=>by
 obtain⟨h1,h2⟩:=zax he;obtain⟨N,hN⟩:=h _ h1;obtain⟨M,hM⟩:=hn _ h1;refine⟨N+M,fun n hk=>?_⟩;obtain⟨q,hq,hd⟩:=hN n (by omega);have h3:=hM n (by omega);refine⟨q,hq,?_⟩;have h4:=zor (s n-q) (s n-t n);rw[show s n-q-(s n-t n)=t n-q by grind]at h4;grind
theorem lI.cg {s t:Nat->Rat} {x:Iv} (h:lI s x) (e: ∀n,s n=t n):lI t x:=by rw[show t=s from funext fun n=>(e n).symm];exact h
theorem zy1 {s t:Nat->Rat} {x y:Iv} (hx:VI x) (hy:VI y) {p:Int} (hp:pcB p=true) (hs:lI s x) (ht:lI t y):lI (fun n=>s n+t n) (yo x y p):=fun e he=>by
 obtain⟨h1,h2⟩:=zax he;obtain⟨N,hN⟩:=hs _ h1;obtain⟨M,hM⟩:=ht _ h1;refine⟨N+M,fun n hk=>?_⟩;obtain⟨q,hq,hd⟩:=hN n (by omega);obtain⟨r,hr,hc⟩:=hM n (by omega);refine⟨q+r,zi4 hx hy hp hq hr,?_⟩;have h4:=zat (s n-q) (t n-r);rw[show s n-q+(t n-r)=s n+t n-(q+r) by grind]at h4;grind
theorem zy0 {s t:Nat->Rat} {x y:Iv} (hx:VI x) (hy:VI y) {p:Int} (hp:pcB p=true) (hs:lI s x) (ht:lI t y) (bs:Bnd s) (bt:Bnd t):lI (fun n=>s n*t n) (jh x y p):=fun e he=>by
 obtain⟨B,hB,hB'⟩:=bs;obtain⟨C,hC,hC'⟩:=bt;obtain⟨d,d0,d1,d2⟩: ∃d:Rat,0<d/\d<=1/\(B+C+1)*d<=e:=by
  obtain⟨q1,q2⟩:=zbj he (show 0<=B+C+1 by grind);rcases qY (a:=e/(B+C+1+1)) (b:=1)with c|c
  ·exact⟨_,q1,c,q2⟩
  ·refine⟨1,by decide,q6,?_⟩;have:=q5 c (show 0<=B+C+1 by grind);grind
 obtain⟨N,hN⟩:=hs d d0;obtain⟨M,hM⟩:=ht d d0;refine⟨N+M,fun n hk=>?_⟩;obtain⟨q,hq,hd⟩:=hN n (by omega);obtain⟨r,hr,hc⟩:=hM n (by omega);refine⟨q*r,zcj hx hy hp hq hr,?_⟩;have e1:s n*t n-q*r=(s n-q)*t n+q*(t n-r):=by grind
 have h3:=zat ((s n-q)*t n) (q*(t n-r));rw[zac,zac]at h3;have hq1:qd q<=B+1:=by
  have h4:=zor (s n) (s n-q);rw[show s n-(s n-q)=q by grind]at h4;have:=hB' n;grind
 have h5:=zb2 (zx (s n-q)) hd (zx (t n)) (hC' n);have h6:=zb2 (zx q) hq1 (zx (t n-r)) hc;rw[e1];grind
theorem qe9 {s:Nat->Rat} {x y:Iv} (hi: ∀q,inI q x->inI q y) (h:lI s x):lI s y:=fun e he=>by
 obtain⟨N,hN⟩:=h e he;refine⟨N,fun n hn=>?_⟩;obtain⟨q,hq,hd⟩:=hN n hn;exact⟨q,hi q hq,hd⟩
theorem zww {s:Nat->Rat} {x:Iv} (h:lI s x) (ha:x.all=false) {e:Rat} (he:0<e): ∃N:Nat,∀n,N<=n->dv x.lo-e<=s n/\s n<=dv x.hi+e:=by
 obtain⟨N,hN⟩:=h e he;refine⟨N,fun n hn=>?_⟩;obtain⟨q,hq,hd⟩:=hN n hn;rcases hq with c|⟨h1,h2⟩
 ·rw[ha]at c;cases c
 have h3:=ud (s n-q);constructor<;>grind
theorem qbi {s:Nat->Rat} {x:Iv} (hle:dv x.lo<=dv x.hi) (h: ∀e:Rat,0<e-> ∃N:Nat,∀n,N<=n->dv x.lo-e<=s n/\s n<=dv x.hi+e):lI s x:=fun e he=>by
 obtain⟨N,hN⟩:=h e he;refine⟨N,fun n hn=>?_⟩;obtain⟨h1,h2⟩:=hN n hn;rcases qY (a:=s n) (b:=dv x.lo)with c|c
 ·exact⟨dv x.lo,.inr ⟨q6,hle⟩,xw.2 ⟨by grind,by grind⟩⟩
 ·rcases qY (a:=s n) (b:=dv x.hi)with d|d
  ·exact⟨s n,.inr ⟨c,d⟩,by rw[qN,zh8];grind⟩
  ·exact⟨dv x.hi,.inr ⟨hle,q6⟩,xw.2 ⟨by grind,by grind⟩⟩
theorem zyz {a b:Rat} (h: ∀e:Rat,0<e->a<=b+e):a<=b:=by
 rcases qY (a:=a) (b:=b)with c|c
 ·exact c
 ·by_cases k:0<a-b
  ·have:=h ((a-b)/2) (zax k).1;grind
  ·grind
theorem ztd {s:Nat->Rat} {x y:Iv} (hx:lI s x) (hy:lI s y) (kx:x.all=false) (ky:y.all=false):dv x.lo<=dv y.hi:=zyz fun e he=>by
 obtain⟨h1,h2⟩:=zax he;obtain⟨N,hN⟩:=zww hx kx h1;obtain⟨M,hM⟩:=zww hy ky h1;have a:=(hN (N+M) (by omega)).1;have b:=(hM (N+M) (by omega)).2;grind
theorem zuw {n k:Nat} {m:Mx} (h:VM n k m) {i j:Nat} (hi:i<n) (hj:j<k): ∃r,m[i]? =some r/\r∈m/\r.length=k/\r[j]? =some (atM m i j):=by
 have hi:i<m.length:=by rw[h.len];exact hi
 have hm:=qL hi;have hl:=h.row _ hm;refine⟨m[i],qB hi,hm,hl,?_⟩;have hj:j<m[i].length :=by rw[hl];exact hj
 unfold atM;rw[qB hi,w5,qB hj];rfl
theorem zes {m:Mx} {i j:Nat} {r:List Iv} {x:Iv} (h:m[i]? =some r) (hx:r[j]? =some x):atM m i j=x:=by
 unfold atM;rw[h,w5,hx];rfl
theorem zux {n k:Nat} {m:Mx} (h:VM n k m) {f:Nat->Nat->Iv->Iv} {i j:Nat} (hi:i<n) (hj:j<k):atM (xc f m) i j=f i j (atM m i j):=by
 obtain⟨r,h1,_,_,h4⟩:=zuw h hi hj;refine zes (r:=r.mapIdx fun j x=>f i j x) ?_ ?_
 ·unfold xc;rw[qK,h1];rfl
 ·rw[qK,h4];rfl
theorem zzj {n k:Nat} {m:Mx} (h:VM n k m) {f:Iv->Iv} {i j:Nat} (hi:i<n) (hj:j<k):atM (m.map fun r=>r.map f) i j=f (atM m i j):=by
 obtain⟨r,h1,_,_,h4⟩:=zuw h hi hj;refine zes (r:=r.map f) ?_ ?_
 ·rw[qH,h1];rfl
 ·rw[qH,h4];rfl
theorem qcn {n k:Nat} {m:Mx} (h:VM n k m) {p:Int} {i j:Nat} (hi:i<n) (hj:j<k):atM (rdM m p) i j=wj (atM m i j) p:=zzj h hi hj
theorem qco {n k:Nat} {m:Mx} (h:VM n k m) {e:Iv} {p:Int} {i j:Nat} (hi:i<n) (hj:j<k):atM (arM m e p) i j=yo (atM m i j) (za9 (zd9 e) e) p:=zzj h hi hj
theorem qgt {n:Nat} (h:1<=n/\n<=8) {i j:Nat} (hi:i<n) (hj:j<n):atM (idM n) i j=whI (if i=j then 1 else 0):=by
 refine zes (r:=(w6 n).map fun j=>whI (if i=j then 1 else 0)) ?_ ?_
 ·unfold idM;rw[if_neg (by omega),qH,qV hi];rfl
 ·rw[qH,qV hj];rfl
theorem zxp {n k:Nat} {a:Mx} (h:VM n k a) {x:Iv} (hx:VI x) {p:Int} (hp:pcB p=true) {i j:Nat} (hi:i<n) (hj:j<k):atM (scM a x p) i j=jh x (atM a i j) p:=by
 unfold scM;rw[if_pos (by rw[h.ok,(je hx.ri).2 hx,hp];rfl)];exact zux h hi hj
theorem zuy {n k:Nat} {a b:Mx} (ha:VM n k a) (hb:VM n k b) {p:Int} (hp:pcB p=true) {i j:Nat} (hi:i<n) (hj:j<k):atM (adM a b p).1 i j=yo (atM a i j) (atM b i j) p:=by
 unfold adM;rw[if_neg (by rw[ha.ok,hb.ok];simp),if_neg (by rw[hp];simp),if_neg (by rw[ha.len,hb.len,ha.hd,hb.hd];simp)];exact zux ha hi hj
def dtF (p:Int) (f g:Nat->Iv):Nat->Iv
 |0=>jh (f 0) (g 0) p
 |k+1=>yo (dtF p f g k) (jh (f (k+1)) (g (k+1)) p) p
theorem qf8 {p:Int} {f g:Nat->Iv}: ∀(rs cs:List Iv) (d:Nat),rs.length=cs.length->(∀i x,rs[i]? =some x->x=f (d+1+i))->(∀i x,cs[i]? =some x->x=g (d+1+i))->dtG p rs cs (dtF p f g d)=dtF p f g (d+rs.length)
 | [],[],d,_,_,_=>rfl
 | [],_::_,_,h,_,_=>by simp at h
 | _::_,[],_,h,_,_=>by simp at h
 |x::rs,y::cs,d,hl,hr,hc=>by
  have e1:x=f (d+1):=hr 0 x rfl;have e2:y=g (d+1):=hc 0 y rfl;subst e1;subst e2;show dtG p rs cs (dtF p f g (d+1))=_;rw[qf8 rs cs (d+1) (by simpa using hl) (fun i x h=>by rw[hr (i+1) x h];congr 1;omega) (fun i x h=>by rw[hc (i+1) x h];congr 1;omega)]
  congr 1
  simp;omega
theorem dtM_F {p:Int} {f g:Nat->Iv} {k:Nat} {r c:List Iv} (hr:r.length=k+1) (hc:c.length=k+1) (h1: ∀i x,r[i]? =some x->x=f i) (h2: ∀i x,c[i]? =some x->x=g i):dtM p r c=dtF p f g k:=by
 match r,c,hr,hc with
 |x::rs,y::cs,hr,hc=>
  have e1:x=f 0:=h1 0 x rfl;have e2:y=g 0:=h2 0 y rfl;subst e1;subst e2;have:=qf8 (p:=p) (f:=f) (g:=g) rs cs 0 (by simp at hr hc;omega) (fun i x h=>by rw[h1 (i+1) x h];congr 1;omega) (fun i x h=>by rw[h2 (i+1) x h];congr 1;omega);have hk:rs.length=k:=by simpa using hr
  rw[hk,w8]at this;exact this
theorem zuv {n k l:Nat} {a b:Mx} (ha:VM n (k+1) a) (hb:VM (k+1) l b) {p:Int} (hp:pcB p=true) {i j:Nat} (hi:i<n) (hj:j<l):atM (muM a b p).1 i j=dtF p (fun r=>atM a i r) (fun r=>atM b r j) k:=by
 unfold muM;rw[if_neg (by rw[ha.ok,hb.ok];simp),if_neg (by rw[hp];simp),if_neg (by rw[ha.hd,hb.len];simp)];have hr: ∃r,a[i]? =some r/\r∈a:=⟨a[i]'(by rw[ha.len];exact hi),qB (by rw[ha.len];exact hi),qL _⟩;obtain⟨r,hr,hm⟩:=hr;have hl:=ha.row r hm;refine zes (r:=(w6 (hdL b)).map fun j=>dtM p r (zkn b j)) (by rw[qH,hr];rfl) ?_;rw[hb.hd,qH,qV hj];simp only[Option.map_some,Option.some.injEq];refine dtM_F hl (by unfold zkn;rw[List.length_map,hb.len]) (fun q x hx=>(zes hr hx).symm) fun q x hx=>?_
 unfold zkn at hx;rw[qH,w7]at hx;obtain⟨s,hs,rfl⟩:=hx;have hsl:=hb.row s (qO hs);have hj2:j<s.length:=by rw[hsl];exact hj
 rw[qB hj2];exact(zes hs (qB hj2)).symm
theorem qb1 {p:Int} (hp:pcB p=true) {f g:Nat->Iv} {a b:Nat->Rat}: ∀k:Nat,(∀i,i<=k->VI (f i)/\inI (a i) (f i))->(∀i,i<=k->VI (g i)/\inI (b i) (g i))->VI (dtF p f g k)/\inI (sQ (fun i=>a i*b i) k) (dtF p f g k)
 |0,hf,hg=>⟨wq (hf 0 (q7 _)).1 (hg 0 (q7 _)).1 hp,zcj (hf 0 (q7 _)).1 (hg 0 (q7 _)).1 hp (hf 0 (q7 _)).2 (hg 0 (q7 _)).2⟩
 |k+1,hf,hg=>by
  obtain⟨h1,h2⟩:=qb1 hp k (fun i hi=>hf i (by omega)) (fun i hi=>hg i (by omega));have f1:=hf (k+1) (q7 _);have g1:=hg (k+1) (q7 _);have hm:=wq f1.1 g1.1 hp;exact⟨zho h1 hm hp,zi4 h1 hm hp h2 (zcj f1.1 g1.1 hp f1.2 g1.2)⟩
structure inM (n k:Nat) (A:Nat->Nat->Rat) (m:Mx):Prop where
 v:VM n k m
 i: ∀i j,i<n->j<k->inI (A i j) (atM m i j)
def dlt (i j:Nat):Rat:=if i=j then 1 else 0
def mQ (k:Nat) (A B:Nat->Nat->Rat):Nat->Nat->Rat:=fun i j=>sQ (fun r=>A i r*B r j) k
theorem zc0 (n:Int):inI (n:Rat) (whI n):= .inr (by
 have e:dv (whI n).lo =(n:Rat):=kv n;have e':dv (whI n).hi =(n:Rat):=kv n;rw[e,e'];exact⟨q6,q6⟩)
theorem id_in {n:Nat} (h:1<=n/\n<=8):inM n n dlt (idM n):=by
 refine⟨ztm h,fun i j hi hj=>?_⟩;rw[qgt h hi hj];unfold dlt;have:=zc0 (if i=j then 1 else 0);split<;>simp_all
theorem zvx {n k:Nat} {A:Nat->Nat->Rat} {a:Mx} (h:inM n k A a) {x:Iv} (hx:VI x) {c:Rat} (hc:inI c x) {p:Int} (hp:pcB p=true):inM n k (fun i j=>c*A i j) (scM a x p):=by
 refine⟨zar h.v hx hp,fun i j hi hj=>?_⟩;rw[zxp h.v hx hp hi hj];exact zcj hx (yn h.v hi hj) hp hc (h.i i j hi hj)
theorem qgx {n k:Nat} {A B:Nat->Nat->Rat} {a b:Mx} (ha:inM n k A a) (hb:inM n k B b) {p:Int} (hp:pcB p=true):inM n k (fun i j=>A i j+B i j) (adM a b p).1:=by
 refine⟨(zeu ha.v hb.v hp).2,fun i j hi hj=>?_⟩;rw[zuy ha.v hb.v hp hi hj];exact zi4 (yn ha.v hi hj) (yn hb.v hi hj) hp (ha.i i j hi hj) (hb.i i j hi hj)
theorem mu_in {n k l:Nat} {A B:Nat->Nat->Rat} {a b:Mx} (ha:inM n (k+1) A a) (hb:inM (k+1) l B b) {p:Int} (hp:pcB p=true):inM n l (mQ k A B) (muM a b p).1:=by
 refine⟨(zhv ha.v hb.v hp).2,fun i j hi hj=>?_⟩;rw[zuv ha.v hb.v hp hi hj];exact(qb1 hp k (fun r hr=>⟨yn ha.v hi (by omega),ha.i i r hi (by omega)⟩) fun r hr=>⟨yn hb.v (by omega) hj,hb.i r j (by omega) hj⟩).2
theorem zge {x:Iv} (hx:VI x) {p:Int} {q:Rat} (hq:inI q x):inI q (wj x p):=by
 unfold wj;split
 ·rename_i c;have k:=(zy hx.ri).1 c.1;rcases hq with hq|hq
  ·rw[k.all]at hq;cases hq
  exact qec (ur k.lo (qu c.2)) (ur k.hi (qu c.2)) hq.1 hq.2
 ·exact zu8 _
def nQ (k:Nat) (A:Nat->Nat->Rat) (U:Rat):Prop:= ∀i,i<=k->sQ (fun r=>qd (A i r)) k<=U
theorem zwj {k:Nat} {A:Nat->Nat->Rat} {U:Rat} (h:nQ k A U) {i j:Nat} (hi:i<=k) (hj:j<=k):qd (A i j)<=U:=
 qA (zvy (f:=fun r=>qd (A i r)) (fun _ _=>zx _) j hj) (h i hi)
theorem zqj {k:Nat} {A:Nat->Nat->Rat} {U:Rat} (h:nQ k A U):0<=U:=qA (zx _) (zwj h (wG k) (wG k))
theorem zyq {k:Nat} {A B:Nat->Nat->Rat} {U V:Rat} (ha:nQ k A U) (hb:nQ k B V):nQ k (mQ k A B) (U*V):=fun i hi=>by
 have h1:sQ (fun j=>qd (mQ k A B i j)) k<=sQ (fun j=>sQ (fun r=>qd (A i r)*qd (B r j)) k) k:=zef fun j _=>by
  have:=zoq (f:=fun r=>A i r*B r j) (k:=k);simp only[zac]at this;exact this
 have h2:sQ (fun j=>sQ (fun r=>qd (A i r)*qd (B r j)) k) k=sQ (fun r=>qd (A i r)*sQ (fun j=>qd (B r j)) k) k:=by
  rw[zee (f:=fun j r=>qd (A i r)*qd (B r j))];simp only[jk]
 have h3:sQ (fun r=>qd (A i r)*sQ (fun j=>qd (B r j)) k) k<=sQ (fun r=>V*qd (A i r)) k:=zef fun r hr=>by
  have:=q5 (hb r hr) (zx (A i r));grind
 rw[jk]at h3;have h4:=q5 (ha i hi) (zqj hb);rw[h2]at h1;grind
theorem nQ_sc {k:Nat} {A:Nat->Nat->Rat} {U c:Rat} (ha:nQ k A U) (hc:0<=c):nQ k (fun i j=>c*A i j) (c*U):=fun i hi=>by
 have e:(fun r=>qd (c*A i r))=fun r=>c*qd (A i r):=by
  funext r
  rw[zac]
  congr 1
  unfold qd;split<;>grind
 rw[e,jk];exact q5 (ha i hi) hc
theorem zt9 (i j:Nat):qd (dlt i j)=if i=j then 1 else 0:=by
 unfold dlt;by_cases h:i=j
 ·simp only[if_pos h];exact zyi
 ·simp only[if_neg h];exact zh8
theorem zyb {i:Nat}: ∀ {k:Nat},sQ (fun r=>qd (dlt i r)) k=if i<=k then 1 else 0
 |0=>by
  show qd (dlt i 0)=_;rw[zt9];by_cases h:i=0
  ·rw[if_pos h,if_pos (by omega)]
  ·rw[if_neg h,if_neg (by omega)]
 |k+1=>by
  show sQ (fun r=>qd (dlt i r)) k+qd (dlt i (k+1))=_;rw[zyb,zt9];by_cases h:i=k+1
  ·rw[if_neg (by omega),if_pos h,if_pos (by omega)];grind
  ·by_cases h2:i<=k
   ·rw[if_pos h2,if_neg h,if_pos (by omega)];grind
   ·rw[if_neg h2,if_neg h,if_neg (by omega)];grind
theorem zyr {k:Nat}:nQ k dlt 1:=fun i hi=>by rw[zyb,if_pos hi];exact q6
def tQ (k:Nat) (A:Nat->Nat->Rat):Nat->Nat->Nat->Rat
 |0=>dlt
 |j+1=>fun a b=>(1/((j+1:Nat):Rat))*mQ k (tQ k A j) A a b
def eQ (k:Nat) (A:Nat->Nat->Rat):Nat->Nat->Nat->Rat
 |0=>dlt
 |j+1=>fun a b=>eQ k A j a b+tQ k A (j+1) a b
def fQ (k:Nat) (A:Nat->Nat->Rat):Nat->Nat->Nat->Rat
 |0=>dlt
 |j+1=>fun a b=>fQ k A j a b+(1/((j+2:Nat):Rat))*tQ k A (j+1) a b
theorem nQ_t {k:Nat} {A:Nat->Nat->Rat} {U:Rat} (h:nQ k A U): ∀j,nQ k (tQ k A j) (rQ U j)
 |0=>zyr
 |j+1=>by
  have:=nQ_sc (zyq (nQ_t h j) h) (zlk j).1;rw[show rQ U (j+1)=1/((j+1:Nat):Rat)*(rQ U j*U)from(qW _ _)];exact this
theorem zza {k:Nat} {A:Nat->Nat->Rat} {U:Rat} (h:nQ k A U) {K:Nat} (hu:U*2<=((K+1:Nat):Rat)) {a b:Nat} (ha:a<=k) (hb:b<=k): ∀d:Nat,
 (qd (eQ k A (K+d) a b-eQ k A K a b)<=rQ U K-rQ U (K+d))/\(qd (fQ k A (K+d) a b-fQ k A K a b)<=rQ U K-rQ U (K+d))
 |0=>by
  constructor<;>
  ·rw[qX,qN,qN,zh8];exact q6
 |d+1=>by
  obtain⟨h1,h2⟩:=zza h hu ha hb d;have ht:=zwj (nQ_t h (K+d+1)) ha hb;have hr:=zm6 (zqj h) hu (j:=K+d) (by omega);have hi:=zlk (K+d+1);have hr0:=zhu (zqj h) (K+d+1);have e1:eQ k A (K+(d+1)) a b=eQ k A (K+d) a b+tQ k A (K+d+1) a b:=rfl;have e2:fQ k A (K+(d+1)) a b=fQ k A (K+d) a b+(1/((K+d+1+1:Nat):Rat))*tQ k A (K+d+1) a b:=rfl;have hc:qd ((1/((K+d+1+1:Nat):Rat))*tQ k A (K+d+1) a b)<=rQ U (K+d+1):=by
   rw[zac];have e:qd (1/((K+d+1+1:Nat):Rat))=1/((K+d+1+1:Nat):Rat):=by have:=hi.1;unfold qd;split<;>grind
   rw[e];have:=qF hi.2 (zx (tQ k A (K+d+1) a b));grind
  rw[e1,e2,show K+(d+1)=K+d+1 from rfl];generalize (1/((K+d+1+1:Nat):Rat))*tQ k A (K+d+1) a b=y at*;generalize tQ k A (K+d+1) a b=x at*;generalize rQ U (K+d+1)=r1 at*;generalize rQ U (K+d)=r0 at*;generalize eQ k A (K+d) a b=z at*;generalize fQ k A (K+d) a b=w at*;unfold qd at*;constructor
  ·split at h1<;>split at ht<;>split<;>grind
  ·split at h2<;>split at hc<;>split<;>grind
theorem zw3 {e:Iv} (he:VI e) {q:Rat} (h:e.all=true\/(-dv e.hi<=q/\q<=dv e.hi)):inI q (za9 (zd9 e) e):=by
 rcases he with k|rfl
 ·have hn:KI (zd9 e):=by
   have:=zk9 (.inl k);rw[zic k]at this⊢;exact(yt this).1 rfl
  rw[k.all]at h;rcases h with c|⟨h1,h2⟩
  ·cases c
  unfold za9;rw[if_pos ((zdq hn.ri k.ri).2 ⟨hn,k⟩),zic k];right;obtain⟨a1,a2,_⟩:=zgn (uy e.hi) e.lo;obtain⟨b1,b2,_⟩:=zbk (uy e.lo) e.hi;rw[zck]at a1 b1;constructor
  ·show dv (xf (uy e.hi) e.lo)<=q;grind
  ·show q<=dv (yj (uy e.lo) e.hi);grind
 ·unfold za9;rw[if_neg (by simp[kB,wI0])];exact zu8 _
theorem qgu {n k:Nat} {A D:Nat->Nat->Rat} {m:Mx} (h:inM n k A m) {e:Iv} (he:VI e) (hD: ∀i j,i<n->j<k->e.all=true\/(-dv e.hi<=D i j/\D i j<=dv e.hi)) {p:Int} (hp:pcB p=true):inM n k (fun i j=>A i j+D i j) (arM m e p):=by
 refine⟨zuz h.v he hp,fun i j hi hj=>?_⟩;rw[qco h.v hi hj];exact zi4 (yn h.v hi hj) (zj3 (zk9 he).ri he.ri) hp (h.i i j hi hj) (zw3 he (hD i j hi hj))
theorem inM.cg {n k:Nat} {A B:Nat->Nat->Rat} {m:Mx} (h:inM n k A m) (e: ∀i j,i<n->j<k->A i j=B i j):inM n k B m:=⟨h.v,fun i j hi hj=>by rw[←e i j hi hj];exact h.i i j hi hj⟩
theorem qgj {j:Nat} (h:1<=j) (h2:j<=1000000) {p:Int} (hp:pcB p=true):inI (1/(j:Rat)) (byI j p):=by
 have:=znw (zao (n:=1) (by decide)) (zao (n:=(j:Int)) (by omega)) hp (zc0 1) (zc0 (j:Int));rw[qR]at this;simpa[byI]using this
structure sIn (k K:Nat) (A:Nat->Nat->Rat) (U:Rat) (s:MSt) (r:Iv):Prop where
 t:inM (k+1) (k+1) (tQ k A K) s.term
 e:inM (k+1) (k+1) (eQ k A K) s.exp
 f:inM (k+1) (k+1) (fQ k A K) s.phi
 r1:VI r
 r2:inI (rQ U K) r
theorem qd2 {k K:Nat} {A:Nat->Nat->Rat} {U:Rat} {s:MSt} {r:Iv} (h:sIn k K A U s r) {m:Mx} (hm:inM (k+1) (k+1) A m) {u:Iv} (hu:VI u) (hU:inI U u) {p:Int} (hp:pcB p=true) (hK:K<=100000):
 sIn k (K+1) A U (zd8 m p (K+1) s) (zvb u p (K+1) r):=by
 have b1:=zfe (k:=K+1) (by omega) (by omega) hp;have b2:=zfe (k:=K+2) (by omega) (by omega) hp;have c1:=qgj (j:=K+1) (by omega) (by omega) hp;have c2:=qgj (j:=K+2) (by omega) (by omega) hp;have ht:=zvx (mu_in h.t hm hp) b1 c1 hp;refine⟨ht,qgx h.e ht hp,qgx h.f (zvx ht b2 c2 hp) hp,wq (wq h.r1 hu hp) b1 hp,?_⟩;exact zcj (wq h.r1 hu hp) b1 hp (zcj h.r1 hu hp h.r2 hU) c1
theorem zx9 {k:Nat} {A:Nat->Nat->Rat} {U:Rat} {m:Mx} (hm:inM (k+1) (k+1) A m) {u:Iv} (hu:VI u) (hU:inI U u) {p:Int} (hp:pcB p=true): ∀(n K:Nat) (s:MSt) (r:Iv),K+n<=100000->sIn k K A U s r->
 ∃K',K+min n 1<=K'/\K'<=K+n/\sIn k K' A U (xm m u p n (K+1) s r).1 (xm m u p n (K+1) s r).2/\(K'=K+n\/zkt (xm m u p n (K+1) s r).2 p=true)
 |0,K,s,r,_,h=>⟨K,by omega,by omega,h,.inl rfl⟩
 |n+1,K,s,r,hK,h=>by
  have hs:=qd2 h hm hu hU hp (by omega);unfold xm;by_cases c:zkt (zvb u p (K+1) r) p=true
  ·rw[if_pos c];exact⟨K+1,by omega,by omega,hs,.inr c⟩
  ·rw[if_neg c];obtain⟨K',h1,h2,h3,h4⟩:=zx9 hm hu hU hp n (K+1) _ _ (by omega) hs;exact⟨K',by omega,by omega,h3,by rcases h4 with h4|h4;exact .inl (by omega);exact .inr h4⟩
def pQ (k:Nat) (A:Nat->Nat->Rat):Nat->Nat->Nat->Rat
 |0=>dlt
 |j+1=>mQ k (pQ k A j) A
theorem qf9 (i:Nat):dlt i i=1:=if_pos rfl
theorem qga {i j:Nat} (h:i≠j):dlt i j=0:=if_neg h
theorem qam {f:Nat->Rat} {j:Nat}: ∀ {k:Nat},sQ (fun r=>f r*dlt r j) k=if j<=k then f j else 0
 |0=>by
  show f 0*dlt 0 j=_;by_cases h:j=0
  ·subst h;rw[qf9,if_pos (q7 _),w4]
  ·rw[qga (fun c=>h c.symm),if_neg (by omega),wO]
 |k+1=>by
  show sQ (fun r=>f r*dlt r j) k+f (k+1)*dlt (k+1) j=_;rw[qam];by_cases h:j=k+1
  ·subst h;rw[qf9,if_neg (by omega),if_pos (q7 _),w4,wC]
  ·rw[qga (fun c=>h c.symm),wO,wB];by_cases h2:j<=k
   ·rw[if_pos h2,if_pos (by omega)]
   ·rw[if_neg h2,if_neg (by omega)]
theorem qe2 {k:Nat} {A:Nat->Nat->Rat} {a b:Nat} (hb:b<=k):mQ k A dlt a b=A a b:=by
 unfold mQ;rw[qam,if_pos hb]
theorem zwp {k:Nat} {A B C:Nat->Nat->Rat} {a b:Nat}:mQ k (mQ k A B) C a b=mQ k A (mQ k B C) a b:=by
 unfold mQ;have e1:(fun r=>sQ (fun q=>A a q*B q r) k*C r b)=fun r=>sQ (fun q=>A a q*(B q r*C r b)) k:=by
  funext r
  rw[qW,←jk];exact yd fun q _=>by grind
 have e2:(fun q=>A a q*sQ (fun r=>B q r*C r b) k)=fun q=>sQ (fun r=>A a q*(B q r*C r b)) k:=by
  funext q;rw[jk]
 rw[e1,e2,zee]
theorem mQ_cg {k:Nat} {A A' B B':Nat->Nat->Rat} {a b:Nat} (h1: ∀r,r<=k->A a r=A' a r) (h2: ∀r,r<=k->B r b=B' r b):mQ k A B a b=mQ k A' B' a b:=yd fun r hr=>by rw[h1 r hr,h2 r hr]
theorem zym {k:Nat} {A:Nat->Nat->Rat} {a:Nat} (i:Nat): ∀(j b:Nat),b<=k->mQ k (pQ k A i) (pQ k A j) a b=pQ k A (i+j) a b
 |0,b,hb=>qe2 hb
 |j+1,b,hb=>by
  show mQ k (pQ k A i) (mQ k (pQ k A j) A) a b=mQ k (pQ k A (i+j)) A a b;rw[←zwp];exact mQ_cg (fun r hr=>zym i j r hr) fun r _=>rfl
theorem nQ_p {k:Nat} {A:Nat->Nat->Rat} {U:Rat} (h:nQ k A U): ∀j,nQ k (pQ k A j) (rpw U j)
 |0=>zyr
 |j+1=>by
  have:=zyq (nQ_p h j) h;rw[show rpw U (j+1)=rpw U j*U from rfl];exact this
theorem zsf (U:Rat) (i:Nat): ∀j,rpw U (i+j)=rpw U i*rpw U j
 |0=>(w4 _).symm
 |j+1=>by
  show rpw U (i+j)*U=rpw U i*(rpw U j*U);rw[zsf U i j];grind
def gQ (c:Nat->Rat) (k:Nat) (A:Nat->Nat->Rat) (n:Nat):Nat->Nat->Rat:=fun a b=>sQ (fun i=>c i*pQ k A i a b) n
theorem zk1 (x U:Rat): ∀i,rQ x i*rpw U i=rQ (x*U) i
 |0=>by exact qM 1
 |i+1=>by
  have ih:=zk1 x U i;have e:rpw U (i+1)=rpw U i*U:=rfl;rw[e];unfold rQ;rw[←ih];grind
theorem gQ_bd {c:Nat->Rat} {k:Nat} {A:Nat->Nat->Rat} {U x C:Rat} (h:nQ k A U) (hc: ∀i,qd (c i)<=C*rQ x i) {a b:Nat} (ha:a<=k) (hb:b<=k) (i:Nat):qd (c i*pQ k A i a b)<=C*rQ (x*U) i:=by
 rw[zac,←zk1];have:=zb2 (zx _) (hc i) (zx _) (zwj (nQ_p h i) ha hb);grind
theorem zy6 {c:Nat->Rat} {k:Nat} {A:Nat->Nat->Rat} {U x C:Rat} (h:nQ k A U) (hx:0<=x) (hC:0<=C) (hc: ∀i,qd (c i)<=C*rQ x i) {a b:Nat} (ha:a<=k) (hb:b<=k):Bnd fun n=>gQ c k A n a b:=
 ((zh9 (qD hx (zqj h))).sc hC).of fun i=>gQ_bd h hc ha hb i
theorem zy5 {c d:Nat->Rat} {k:Nat} {A:Nat->Nat->Rat} {U x y C D:Rat} (h:nQ k A U) (hx:0<=x) (hy:0<=y) (hC:0<=C) (hD:0<=D) (hc: ∀i,qd (c i)<=C*rQ x i) (hd: ∀i,qd (d i)<=D*rQ y i) {a b:Nat} (ha:a<=k) (hb:b<=k):
 Nul fun n=>mQ k (gQ c k A n) (gQ d k A n) a b-gQ (fun q=>sQ (fun i=>c i*d (q-i)) q) k A n a b:=by
 have hU:=zqj h;have hp: ∀i j,qd (c i*d j*pQ k A (i+j) a b)<=C*rQ (x*U) i*(D*rQ (y*U) j):=fun i j=>by
  have h1:=zwj (nQ_p h (i+j)) ha hb;have e: ∀i,rpw U (i+j)=rpw U i*rpw U j:=fun i=>zsf U i j
  rw[e]at h1;rw[zac,zac,←zk1,←zk1];have h2:=zb2 (zx (c i)) (hc i) (zx (d j)) (hd j);have h3:=zb2 (qD (zx (c i)) (zx (d j))) h2 (zx _) h1;grind
 have h1:=zzf (f:=fun i j=>c i*d j*pQ k A (i+j) a b) ((zh9 (qD hx hU)).sc hC) ((zh9 (qD hy hU)).sc hD) hp;refine h1.cg fun n=>?_
 have e1:sQ (fun i=>sQ (fun j=>c i*d j*pQ k A (i+j) a b) n) n=mQ k (gQ c k A n) (gQ d k A n) a b:=by
  have e2:(fun i=>sQ (fun j=>c i*d j*pQ k A (i+j) a b) n)=fun i=>sQ (fun r=>(c i*pQ k A i a r)*gQ d k A n r b) k:=by
   funext i
   have e3:(fun r=>(c i*pQ k A i a r)*gQ d k A n r b)=fun r=>sQ (fun j=>c i*d j*(pQ k A i a r*pQ k A j r b)) n:=by
    funext r
    unfold gQ;rw[←jk];exact yd fun j _=>by grind
   rw[e3,zee];exact yd fun j _=>by
    rw[jk];have:=zym (k:=k) (A:=A) (a:=a) i j b hb;unfold mQ at this;rw[this]
  rw[e2,zee];unfold mQ;exact yd fun r _=>by
   show sQ (fun i=>c i*pQ k A i a r*gQ d k A n r b) n=gQ c k A n a r*gQ d k A n r b;rw[qW (gQ c k A n a r)];show _=gQ d k A n r b*sQ (fun i=>c i*pQ k A i a r) n;rw[←jk];exact yd fun i _=>by grind
 have e4:trQ (fun i j=>c i*d j*pQ k A (i+j) a b) n=gQ (fun q=>sQ (fun i=>c i*d (q-i)) q) k A n a b:=by
  unfold trQ gQ;exact yd fun q _=>by
   rw[qW,←jk];exact yd fun i hi=>by
    show c i*d (q-i)*pQ k A (i+(q-i)) a b=pQ k A q a b*(c i*d (q-i));rw[show i+(q-i)=q by omega];grind
 rw[e1,e4]
def xQ (k:Nat) (A:Nat->Nat->Rat) (t:Rat) (n:Nat):Nat->Nat->Rat:=gQ (rQ t) k A n
def yQ (k:Nat) (A:Nat->Nat->Rat) (t:Rat) (n:Nat):Nat->Nat->Rat:=gQ (fun i=>rQ t (i+1)) k A n
theorem cx (t:Rat) (i:Nat):qd (rQ t i)<=1*rQ (qd t) i:=by rw[ze1,qM];exact q6
theorem rQ_1 {u:Rat} (hu:0<=u) (i:Nat):rQ u (i+1)<=u*rQ u i:=by
 have h1:=zlk i;have h2:=zhu hu i;have h3:=q5 h1.2 (qD h2 hu);rw[show rQ u (i+1)=rQ u i*u*(1/((i+1:Nat):Rat))from rfl];generalize 1/((i+1:Nat):Rat)=c at*;generalize rQ u i=q at*;grind
theorem cy (t:Rat) (i:Nat):qd (rQ t (i+1))<=qd t*rQ (qd t) i:=by rw[ze1];exact rQ_1 (zx t) i
section
variable {k:Nat} {A:Nat->Nat->Rat} {U:Rat} (h:nQ k A U) {a b:Nat} (ha:a<=k) (hb:b<=k)
include h ha hb
theorem qdk (t:Rat):Bnd fun n=>xQ k A t n a b:=zy6 h (zx t) (by decide) (cx t) ha hb
theorem qde (t:Rat):Bnd fun n=>yQ k A t n a b:=zy6 h (zx t) (zx t) (cy t) ha hb
theorem qdi (s t:Rat):Nul fun n=>mQ k (xQ k A s n) (xQ k A t n) a b-xQ k A (s+t) n a b:=by
 refine(zy5 h (zx s) (zx t) (by decide) (by decide) (cx s) (cx t) ha hb).cg fun n=>?_
 have:gQ (fun q=>sQ (fun i=>rQ s i*rQ t (q-i)) q) k A n a b=xQ k A (s+t) n a b:=yd fun q _=>by
  show sQ (fun i=>rQ s i*rQ t (q-i)) q*_=_;rw[zos]
 rw[this];rfl
theorem qdd (t:Rat):Nul fun n=>yQ k A t n a b+mQ k (xQ k A t n) (yQ k A t n) a b-yQ k A (t+t) n a b:=by
 refine(zy5 h (zx t) (zx t) (by decide) (zx t) (cx t) (cy t) ha hb).cg fun n=>?_
 have:gQ (fun q=>sQ (fun i=>rQ t i*rQ t (q-i+1)) q) k A n a b=yQ k A (t+t) n a b-yQ k A t n a b:=by
  unfold yQ gQ;rw[←zoo];exact yd fun q _=>by
   have h1:=zos t t (q+1);have h2:sQ (fun i=>rQ t i*rQ t (q+1-i)) (q+1)=sQ (fun i=>rQ t i*rQ t (q-i+1)) q+rQ t (q+1):=by
    show sQ (fun i=>rQ t i*rQ t (q+1-i)) q+rQ t (q+1)*rQ t (q+1-(q+1))=_;rw[wA,show rQ t 0=1 from rfl,w4]
    congr 1
    exact yd fun i hi=>by rw[show q+1-i=q-i+1 by omega]
   rw[h2]at h1;grind
 rw[this];show mQ k (xQ k A t n) (yQ k A t n) a b-(yQ k A (t+t) n a b-yQ k A t n a b)=_;grind
end
theorem zz2 {k:Nat} {A:Nat->Nat->Rat} {h:Rat}: ∀(i a b:Nat),tQ k (fun i j=>h*A i j) i a b=rQ h i*pQ k A i a b
 |0,a,b=>by show dlt a b=1*dlt a b;rw[qM]
 |i+1,a,b=>by
  show(1/((i+1:Nat):Rat))*mQ k (tQ k (fun i j=>h*A i j) i) (fun i j=>h*A i j) a b=_;have:mQ k (tQ k (fun i j=>h*A i j) i) (fun i j=>h*A i j) a b=(rQ h i*h)*mQ k (pQ k A i) A a b:=by
   unfold mQ;rw[←jk];exact yd fun r _=>by rw[zz2 i a r];grind
  rw[this];show _=rQ h i*h*(1/((i+1:Nat):Rat))*mQ k (pQ k A i) A a b;generalize 1/((i+1:Nat):Rat)=c;generalize rQ h i=q;grind
theorem eQ_x {k:Nat} {A:Nat->Nat->Rat} {h:Rat} {a b:Nat}: ∀n,eQ k (fun i j=>h*A i j) n a b=xQ k A h n a b
 |0=>by show dlt a b=1*dlt a b;rw[qM]
 |n+1=>by
  show eQ k (fun i j=>h*A i j) n a b+tQ k (fun i j=>h*A i j) (n+1) a b=xQ k A h n a b+rQ h (n+1)*pQ k A (n+1) a b;rw[eQ_x n,zz2]
theorem fQ_y {k:Nat} {A:Nat->Nat->Rat} {h:Rat} {a b:Nat}: ∀n,h*fQ k (fun i j=>h*A i j) n a b=yQ k A h n a b
 |0=>by
  show h*dlt a b=rQ h 1*dlt a b;have:rQ h 1=h:=by
   show(1:Rat)*h*(1/((0+1:Nat):Rat))=h;rw[show(1/((0+1:Nat):Rat))=1 from by rw[show((0+1:Nat):Rat)=1 from rfl];grind];grind
  rw[this]
 |n+1=>by
  show h*(fQ k (fun i j=>h*A i j) n a b+(1/((n+2:Nat):Rat))*tQ k (fun i j=>h*A i j) (n+1) a b)=yQ k A h n a b+rQ h (n+1+1)*pQ k A (n+1) a b;have ih:=fQ_y (k:=k) (A:=A) (h:=h) (a:=a) (b:=b) n;rw[zz2,show rQ h (n+1+1)=rQ h (n+1)*h*(1/((n+1+1:Nat):Rat))from rfl];grind
theorem zsg {p:Int} (hp:pcB p=true) {f:Nat->Rat}: ∀(r:List Iv) (s S:Dy) (d:Nat),(∀x∈r,VI x)->VD s->(∀i x,r[i]? =some x->inI (f (d+i)) x)->zfl p r s=some S->r≠ []->dv s+sQ (fun i=>qd (f (d+i))) (r.length-1)<=dv S
 | [],_,_,_,_,_,_,_,h=>absurd rfl h
 |x::r,s,S,d,hx,hs,hf,h,_=>by
  unfold zfl at h;split at h
  ·rename_i c;have k:=(zy (hx x (by simp)).ri).1 c.1;have R1:=((zby hs (xt k) (qu hp)).2.1 c.2).1;have h1:dv s+dv (jd x)<=dv (zan s (jd x) p.toNat true).1:=R1;have h2:qd (f d)<=dv (jd x):=by
    have:=hf 0 x rfl;rcases this with e|⟨e1,e2⟩
    ·rw[k.all]at e;cases e
    ·exact(zmf k e1 e2).2.2
   cases r with
   |nil=>
    cases h
    show dv s+qd (f (d+0))<=_;rw[qX];grind
   |cons y r=>
    have ih:=zsg hp (f:=f) (y::r) _ S (d+1) (fun z hz=>hx z (qC _ hz)) (ze5 _ _ _ _ (qu hp)) (fun i z hz=>by
     have:=hf (i+1) z hz;rw[show d+1+i=d+(i+1) by omega];exact this) h (by simp)
    have e:sQ (fun i=>qd (f (d+i))) ((x::y::r).length -1)=qd (f d)+sQ (fun i=>qd (f (d+1+i))) ((y::r).length -1):=by
     show sQ (fun i=>qd (f (d+i))) (r.length+1)=qd (f d)+sQ (fun i=>qd (f (d+1+i))) r.length;rw[zji];show qd (f (d+0))+_=_;rw[qX]
     congr 1
     exact yd fun i _=>by rw[show d+1+i=d+(i+1) by omega]
    rw[e];grind
  ·cases h
theorem nm_in {n k:Nat} {A:Nat->Nat->Rat} {m:Mx} (h:inM n (k+1) A m) (hn:k+1<=n) {p:Int} (hp:pcB p=true) {D:Dy} (hD:nmM m p=(D,true)):nQ k A (dv D):=fun i hi=>by
 unfold nmM at hD;rw[if_pos (by rw[h.v.ok,hp];rfl)]at hD;split at hD
 ·rename_i d hd;cases hD
  obtain⟨_,_,a3⟩:=zjs hp m d0 D h.v.el qc hd;obtain⟨r,hr,hm⟩: ∃r,m[i]? =some r/\r∈m:=⟨m[i]'(by rw[h.v.len];omega),qB (by rw[h.v.len];omega),qL _⟩;obtain⟨s,hs,hle⟩:=a3 r hm;have hl:=h.v.row r hm;have:=zsg hp (f:=fun j=>A i j) r d0 s 0 (h.v.el r hm) qc (fun j x hx=>by
   have hj:=(qQ.1 hx).1;have h1:=h.i i j (by omega) (by omega);rw[zes hr hx]at h1;rw[w8];exact h1) hs (by intro c;subst c;simp at hl)
  rw[ym,hl,wC]at this;simp only[w8]at this;exact qA this hle
 ·cases hD
theorem zye {p:Int} (hp:pcB p=true): ∀(r:List Iv) (s:Dy) (c:Nat),(∀x∈r,kI (pw (-1)) x)->VD s->dv s<=vN c (-1)->c+r.length<=200-> ∃S,zfl p r s=some S
 | [],s,c,_,_,_,_=>⟨s,rfl⟩
 |x::r,s,c,hx,hs,h1,hc=>by
  have hb:=hx x (by simp);have k:=hb.k;have hm:=(zo9 hb.b k).2.1;have hF:=zy4 (p:=p.toNat) (qu hp).1 (c:=c+1) (by simp at hc;omega);have R1:=(zby hs (xt k) (qu hp)).2.2 (vN (c+1) (-1)) (.inl hF) (by show dv s+dv (jd x)<=_;rw[zq9];grind);obtain⟨S,hS⟩:=zye hp r _ (c+1) (fun y hy=>hx y (qC _ hy)) (ze5 _ _ _ _ (qu hp)) R1.2 (by simp at hc;omega);refine⟨S,?_⟩;unfold zfl;rw[if_pos ⟨(zy k.ri).2 k,R1.1⟩];exact hS
theorem qen {n k:Nat} {m:Mx} (v:VM n k m) (h: ∀r∈m,∀x∈r,kI (pw (-1)) x) {p:Int} (hp:pcB p=true): ∃D,nmM m p=(D,true):=by
 have key: ∀(m:Mx) (D:Dy),(∀r∈m,∀x∈r,kI (pw (-1)) x)->(∀r∈m,r.length<=8)-> ∃E,nmG p m D=some E:=by
  intro m
  induction m with
  |nil=>exact fun D _ _=>⟨D,rfl⟩
  |cons r m ih=>
   intro D h hl;obtain⟨S,hS⟩:=zye hp r d0 0 (h r (by simp)) qc (by rw[ym];exact zc4 _ _) (by have:=hl r (by simp);omega);unfold nmG;rw[hS];exact ih _ (fun r hr=>h r (qC _ hr)) fun r hr=>hl r (qC _ hr)
 obtain⟨E,hE⟩:=key m d0 h fun r hr=>by rw[v.row r hr];exact v.k1.2
 exact⟨E,by unfold nmM;rw[if_pos (by rw[v.ok,hp];rfl),hE]⟩
theorem zhn {x y:Iv} (hx:VI x) (hy:VI y) {p:Int} (h:x.all=true\/y.all=true):(yo x y p).all =true:=by
 rw[qcp hx.ri hy.ri fun c=>by rcases h with h|h;rw[c.1.all]at h;cases h;rw[c.2.all]at h;cases h];rfl
theorem zne {x y:Iv} (hx:VI x) (hy:VI y) {p:Int} (h:x.all=true\/y.all=true):(jh x y p).all =true:=by
 rw[zwl hx.ri hy.ri fun c=>by rcases h with h|h;rw[c.1.all]at h;cases h;rw[c.2.all]at h;cases h];rfl
theorem zt8 {p:Int} (hp:pcB p=true) {f g:Nat->Iv}: ∀(k i:Nat),(∀i,i<=k->VI (f i))->(∀i,i<=k->VI (g i))->i<=k->(f i).all =true\/(g i).all =true->(dtF p f g k).all =true
 |0,i,hf,hg,hi,h=>by
  obtain rfl:i=0:=by omega
  exact zne (hf 0 (q7 _)) (hg 0 (q7 _)) h
 |k+1,i,hf,hg,hi,h=>by
  have v1:=(qb1 hp (f:=f) (g:=g) (a:=fun i=>dv (f i).lo) (b:=fun i=>dv (g i).lo) k (fun i hi=>⟨hf i (by omega),znj (hf i (by omega))⟩) fun i hi=>⟨hg i (by omega),znj (hg i (by omega))⟩).1;have v2:=wq (hf (k+1) (q7 _)) (hg (k+1) (q7 _)) hp;by_cases e:i=k+1
  ·subst e;exact zhn v1 v2 (.inr (zne (hf _ (q7 _)) (hg _ (q7 _)) h))
  ·exact zhn v1 v2 (.inl (zt8 hp k i (fun i hi=>hf i (by omega)) (fun i hi=>hg i (by omega)) (by omega) h))
theorem zon {x:Iv} (hx:VI x) {j:Int} {q:Rat} (h:inI q x):inI (q*pw j) (zq x j):=by
 unfold zq;by_cases c:kB x=true
 ·rw[if_pos c];have k:=(zy hx.ri).1 c;rcases h with e|⟨h1,h2⟩
  ·rw[k.all]at e;cases e
  cases ha:(jq (vj x.lo j) (vj x.hi j)).all with
  |true=>exact .inl ha
  |false=>
   obtain⟨o1,o2⟩:=ut.1 ha;right;rw[zaw ha];have e1:=zbz o1;have e2:=zbz o2;show dv (vj x.lo j).1<=_/\_<=dv (vj x.hi j).1;rw[e1,e2];exact⟨vf h1 (za8 j),vf h2 (za8 j)⟩
 ·rw[if_neg c];exact zu8 _
theorem qd4 {k:Nat} {A:Nat->Nat->Rat} {a:Mx} (ha:inM (k+1) (k+1) A a) {hI:Iv} (vh:VI hI) {h:Rat} (hh:inI h hI) {q:Int} (hq:pcB q=true) {D:Dy} (hD:nmM (scM a hI q) q=(D,true)) (hu:dv D*2<=3):
 ∃K:Nat,∀N,K<=N->inM (k+1) (k+1) (xQ k A h N) (zmt (scM a hI q) hI q).exp /\inM (k+1) (k+1) (yQ k A h N) (zmt (scM a hI q) hI q).phi :=by
 have hm:=zvx ha vh hh hq;have hU:=nm_in hm (q7 _) hq hD;have hDv:=zju (a:=scM a hI q) (p:=q) hm.v.el;rw[hD]at hDv;have hui:VI (zj D):= .inl (zhq hDv.1);have hUi:inI (dv D) (zj D):= .inr ⟨q6,q6⟩;have hid:=id_in hm.v.n1;obtain⟨K,k1,k2,hs,hst⟩:=zx9 hm hui hUi hq 700 0 ⟨idM (k+1),idM (k+1),idM (k+1)⟩ (whI 1) (by omega) ⟨hid,hid,hid,zao (by decide),zc0 1⟩;have e:zmt (scM a hI q) hI q=⟨arM (xm (scM a hI q) (zj D) q 700 1 ⟨idM (k+1),idM (k+1),idM (k+1)⟩ (whI 1)).1.exp (xm (scM a hI q) (zj D) q 700 1 ⟨idM (k+1),idM (k+1),idM (k+1)⟩ (whI 1)).2 q,scM (arM (xm (scM a hI q) (zj D) q 700 1 ⟨idM (k+1),idM (k+1),idM (k+1)⟩ (whI 1)).1.phi (xm (scM a hI q) (zj D) q 700 1 ⟨idM (k+1),idM (k+1),idM (k+1)⟩ (whI 1)).2 q) hI q⟩:=by
  unfold zmt;rw[hD,hm.v.len]
 rw[e];have hs:sIn k K (fun i j=>h*A i j) (dv D) (xm (scM a hI q) (zj D) q 700 1 ⟨idM (k+1),idM (k+1),idM (k+1)⟩ (whI 1)).1 (xm (scM a hI q) (zj D) q 700 1 ⟨idM (k+1),idM (k+1),idM (k+1)⟩ (whI 1)).2:=hs;have hst:K=0+700\/zkt (xm (scM a hI q) (zj D) q 700 1 ⟨idM (k+1),idM (k+1),idM (k+1)⟩ (whI 1)).2 q=true:=hst;generalize xm (scM a hI q) (zj D) q 700 1 ⟨idM (k+1),idM (k+1),idM (k+1)⟩ (whI 1)=S at*;obtain⟨s,r⟩:=S;simp only at hs hst⊢;have hK1:1<=K:=by simp at k1;omega
 refine⟨K,fun N hN=>?_⟩;obtain⟨d,rfl⟩:=qE hN;have hall: ∀i j,i<k+1->j<k+1->(r.all=true\/(-dv r.hi<=eQ k (fun i j=>h*A i j) (K+d) i j-eQ k (fun i j=>h*A i j) K i j/\eQ k (fun i j=>h*A i j) (K+d) i j-eQ k (fun i j=>h*A i j) K i j<=dv r.hi))/\
  (r.all=true\/(-dv r.hi<=fQ k (fun i j=>h*A i j) (K+d) i j-fQ k (fun i j=>h*A i j) K i j/\fQ k (fun i j=>h*A i j) (K+d) i j-fQ k (fun i j=>h*A i j) K i j<=dv r.hi)):=fun i j hi hj=>by
  cases hra:r.all with
  |true=>exact⟨.inl rfl,.inl rfl⟩
  |false=>
   have hr2:=hs.r2;rcases hr2 with c|⟨_,c⟩
   ·rw[hra]at c;cases c
   have hU2:dv D*2<=((K+1:Nat):Rat):=by
    by_cases hK2:2<=K
    ·have h3:((3:Nat):Rat)<=((K+1:Nat):Rat):=q9.2 (by omega);exact qA hu h3
    ·obtain rfl:K=1:=by omega
     rcases hst with c2|c2
     ·omega
     ·have hU1:dv D<=dv r.hi:=by
       have e1:rQ (dv D) 1=dv D:=by
        show(1:Rat)*dv D*(1/((0+1:Nat):Rat))=dv D;rw[show(1/((0+1:Nat):Rat))=1 from by rw[show((0+1:Nat):Rat)=1 from rfl];grind];grind
       rw[e1]at c;exact c
      have hr1:dv r.hi<=1:=by
       unfold zkt at c2;rw[hra]at c2;simp only[Bool.false_or,wH,decide_eq_true_eq]at c2;rcases c2 with c2|c2
       ·have:=(zfh r.hi).2.2.1 c2;rw[this];decide
       ·by_cases hn:nm r.hi=0
        ·rw[zhb hn];decide
        ·have h5:=(zpm hn).2;have hp8:8<=q:=by
          obtain⟨q',rfl,hq'⟩:=jz.1 hq;omega
         have h6:pw (zu r.hi)<=pw 0:=xx.2 (by omega);have h7:pw 0=1:=by rw[show(0:Int)=((0:Nat):Int)from rfl,wp];rfl
         rw[h7]at h6;exact qA h5 h6
      have:((1+1:Nat):Rat)=2:=rfl;rw[this];grind
   obtain⟨t1,t2⟩:=zza hU hU2 (show i<=k by omega) (show j<=k by omega) d;have t3:=zhu (zqj hU) (K+d);exact⟨.inr ⟨by have:=(xw.1 t1).1;grind,by have:=(xw.1 t1).2;grind⟩,.inr ⟨by have:=(xw.1 t2).1;grind,by have:=(xw.1 t2).2;grind⟩⟩
 have a1:=qgu hs.e (D:=fun i j=>eQ k (fun i j=>h*A i j) (K+d) i j-eQ k (fun i j=>h*A i j) K i j) hs.r1 (fun i j hi hj=>(hall i j hi hj).1) hq;have a2:=qgu hs.f (D:=fun i j=>fQ k (fun i j=>h*A i j) (K+d) i j-fQ k (fun i j=>h*A i j) K i j) hs.r1 (fun i j hi hj=>(hall i j hi hj).2) hq;refine⟨a1.cg fun i j _ _=>?_,(zvx a2 vh hh hq).cg fun i j _ _=>?_⟩
 ·show eQ k (fun i j=>h*A i j) K i j+(eQ k (fun i j=>h*A i j) (K+d) i j-eQ k (fun i j=>h*A i j) K i j)=_;rw[←eQ_x (h:=h) (A:=A) (K+d)];grind
 ·show h*(fQ k (fun i j=>h*A i j) K i j+(fQ k (fun i j=>h*A i j) (K+d) i j-fQ k (fun i j=>h*A i j) K i j))=_;rw[←fQ_y (h:=h) (A:=A) (K+d)];grind
structure liM (k:Nat) (S:Nat->Nat->Nat->Rat) (m:Mx):Prop where
 v:VM (k+1) (k+1) m
 l: ∀i j,i<=k->j<=k->lI (fun N=>S N i j) (atM m i j)
theorem zyy {k:Nat} {S:Nat->Nat->Nat->Rat} {m:Mx} (v:VM (k+1) (k+1) m) {K:Nat} (h: ∀N,K<=N->inM (k+1) (k+1) (S N) m):liM k S m:=
 ⟨v,fun i j hi hj=>ztc K fun N hN=>(h N hN).i i j (by omega) (by omega)⟩
theorem qfa {p:Int} (hp:pcB p=true) {f g:Nat->Iv} {a b:Nat->Nat->Rat}: ∀k:Nat,(∀i,i<=k->VI (f i)/\lI (a i) (f i)/\Bnd (a i))->(∀i,i<=k->VI (g i)/\lI (b i) (g i)/\Bnd (b i))->
 VI (dtF p f g k)/\lI (fun N=>sQ (fun i=>a i N*b i N) k) (dtF p f g k)
 |0,hf,hg=>by
  obtain⟨f1,f2,f3⟩:=hf 0 (q7 _);obtain⟨g1,g2,g3⟩:=hg 0 (q7 _);exact⟨wq f1 g1 hp,zy0 f1 g1 hp f2 g2 f3 g3⟩
 |k+1,hf,hg=>by
  obtain⟨h1,h2⟩:=qfa hp k (fun i hi=>hf i (by omega)) (fun i hi=>hg i (by omega));obtain⟨f1,f2,f3⟩:=hf (k+1) (q7 _);obtain⟨g1,g2,g3⟩:=hg (k+1) (q7 _);exact⟨zho h1 (wq f1 g1 hp) hp,zy1 h1 (wq f1 g1 hp) hp h2 (zy0 f1 g1 hp f2 g2 f3 g3)⟩
theorem zs7 {k:Nat} {S T:Nat->Nat->Nat->Rat} {x y:Mx} (hx:liM k S x) (hy:liM k T y) (bs: ∀i j,i<=k->j<=k->Bnd fun N=>S N i j) (bt: ∀i j,i<=k->j<=k->Bnd fun N=>T N i j) {p:Int} (hp:pcB p=true):
 liM k (fun N=>mQ k (S N) (T N)) (muM x y p).1:=by
 refine⟨(zhv hx.v hy.v hp).2,fun i j hi hj=>?_⟩;rw[zuv hx.v hy.v hp (by omega) (by omega)];exact(qfa hp (a:=fun r N=>S N i r) (b:=fun r N=>T N r j) k (fun r hr=>⟨yn hx.v (by omega) (by omega),hx.l i r hi hr,bs i r hi hr⟩) fun r hr=>⟨yn hy.v (by omega) (by omega),hy.l r j hr hj,bt r j hr hj⟩).2
theorem qba {k:Nat} {S T:Nat->Nat->Nat->Rat} {x y:Mx} (hx:liM k S x) (hy:liM k T y) {p:Int} (hp:pcB p=true):liM k (fun N i j=>S N i j+T N i j) (adM x y p).1:=by
 refine⟨(zeu hx.v hy.v hp).2,fun i j hi hj=>?_⟩;rw[zuy hx.v hy.v hp (by omega) (by omega)];exact zy1 (yn hx.v (by omega) (by omega)) (yn hy.v (by omega) (by omega)) hp (hx.l i j hi hj) (hy.l i j hi hj)
theorem liM.nul {k:Nat} {S T:Nat->Nat->Nat->Rat} {x:Mx} (hx:liM k S x) (h: ∀i j,i<=k->j<=k->Nul fun N=>S N i j-T N i j):liM k T x:=⟨hx.v,fun i j hi hj=>(hx.l i j hi hj).nul (h i j hi hj)⟩
theorem zyx {k:Nat} {S:Nat->Nat->Nat->Rat} {x:Mx} (hx:liM k S x) (p:Int):liM k S (rdM x p):=by
 refine⟨zm3 hx.v p,fun i j hi hj=>?_⟩;rw[qcn hx.v (by omega) (by omega)];exact qe9 (fun q hq=>zge (yn hx.v (by omega) (by omega)) hq) (hx.l i j hi hj)
theorem qgd {k:Nat} {A:Nat->Nat->Rat} {U:Rat} (hU:nQ k A U) {t:Rat} {x:MPr} (h1:liM k (xQ k A t) x.exp) (h2:liM k (yQ k A t) x.phi) {q:Int} (hq:pcB q=true):liM k (xQ k A (t+t)) (zqu q x).exp /\liM k (yQ k A (t+t)) (zqu q x).phi :=by
 have bx: ∀i j,i<=k->j<=k->Bnd fun N=>xQ k A t N i j:=fun i j hi hj=>qdk hU hi hj t
 have by': ∀i j,i<=k->j<=k->Bnd fun N=>yQ k A t N i j:=fun i j hi hj=>qde hU hi hj t
 exact⟨(zs7 h1 h1 bx bx hq).nul fun i j hi hj=>qdi hU hi hj t t,(qba h2 (zs7 h1 h2 bx by' hq) hq).nul fun i j hi hj=>qdd hU hi hj t⟩
theorem zue {k:Nat} {A:Nat->Nat->Rat} {U:Rat} (hU:nQ k A U) {q:Int} (hq:pcB q=true): ∀(s:Nat) (t:Rat) (x:MPr),liM k (xQ k A t) x.exp->liM k (yQ k A t) x.phi->liM k (xQ k A (t*pw (s:Int))) (znz q s x).exp /\liM k (yQ k A (t*pw (s:Int))) (znz q s x).phi
 |0,t,x,h1,h2=>by
  have e:t*pw ((0:Nat):Int)=t:=by rw[wp];simp
  rw[e];exact⟨h1,h2⟩
 |s+1,t,x,h1,h2=>by
  obtain⟨d1,d2⟩:=qgd hU h1 h2 hq;have:=zue hU hq s (t+t) (zqu q x) d1 d2;have e:(t+t)*pw (s:Int)=t*pw ((s+1:Nat):Int):=by
   have:pw ((s+1:Nat):Int)=pw (s:Int)*2:=by
    have e1:pw 1=2:=by
     have:=wp 1;exact this
    rw[show((s+1:Nat):Int)=(s:Int)+1 from rfl,pwA,e1]
   rw[this];grind
  rw[e]at this;exact this
end Go.Proofs.YtbolipecnhlnnaaGreatDoor
