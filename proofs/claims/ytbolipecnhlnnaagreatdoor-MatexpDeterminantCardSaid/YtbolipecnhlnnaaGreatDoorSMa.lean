/- Matrices of intervals, exponential functions of matrices: plain functions; the series ends. -/
import Derived.Test.YtbolipecnhlnnaaGreatDoorSXe
set_option linter.unusedVariables false
set_option linter.unusedSimpArgs false
open Bool renaming not_eq_true'->qY,not_eq_false->w7,and_eq_true->ws,or_eq_true->wD
open List renaming getElem?_eq_getElem->q9,mem_cons_of_mem->qA,getElem?_map->qF,mem_map->qG,getElem?_mapIdx->qI,getElem_mem->qJ,mem_of_getElem?->qM,getElem?_eq_some_iff->qO,getElem?_of_mem->qR,getElem?_range->qT,range->w3,length_mapIdx->w6,any_eq_true->wA,mem_cons->wF
open Nat renaming le_refl->q6,exists_eq_add_of_le->qC,add_zero->qV,zero_add->w5,sub_self->w9,zero_le->wC,le_trans->wG
open Option renaming getD_some->w0,map_eq_some_iff->w4
open Rat renaming mul_le_mul_of_nonneg_left->q0,le_refl->q5,natCast_le_natCast->q7,le_trans->q8,mul_nonneg->qB,mul_le_mul_of_nonneg_right->qD,le_of_lt->qE,mul_inv_cancel->qH,one_mul->qK,sub_self->qL,le_of_mul_le_mul_right->qN,intCast_natCast->qP,div_def->qQ,natCast_pos->qS,mul_comm->qU,le_total->qW,inv_pos->qX,mul_one->qZ,zero_mul->w8,add_zero->wi,zero_add->wn,neg_neg->wB,natCast_add->wE,mul_zero->wH
namespace Go.Proofs.YtbolipecnhlnnaaGreatDoor
open Go Go.Sx
set_option maxHeartbeats 2000000
abbrev Mx:=List (List Iv)
def hdL (m:Mx):Nat:=(m.headD []).length
def vmB (m:Mx):Bool:=(decide (1<=m.length/\m.length<=8)&&decide (1<=hdL m/\hdL m<=8))&& !(m.any fun r=>decide (r.length≠hdL m)||r.any fun x=> !viB x)
def xo (f:Nat->Nat->Iv->Iv) (m:Mx):Mx:=m.mapIdx fun i r=>r.mapIdx fun j x=>f i j x
def atM (m:Mx) (i j:Nat):Iv:=((m[i]?.getD [])[j]?).getD zI
def idM (n:Nat):Mx:=if n<1\/8<n then []else(w3 n).map fun i=>(w3 n).map fun j=>whI (if i=j then 1 else 0)
def scM (a:Mx) (x:Iv) (p:Int):Mx:=if(vmB a&&viB x&&pcB p)=true then xo (fun _ _ y=>wu x y p) a else []
def adM (a b:Mx) (p:Int):Mx×Int:=
 if(vmB a&&vmB b)=false then([],1)else if pcB p=false then([],2)else if a.length≠b.length\/hdL a≠hdL b then([],3)else(xo (fun i j x=>ka x (atM b i j) p) a,0)
def dtG (p:Int):List Iv->List Iv->Iv->Iv
 |r::rs,c::cs,o=>dtG p rs cs (ka o (wu r c p) p)
 | _,_,o=>o
def dtM (p:Int):List Iv->List Iv->Iv
 |r::rs,c::cs=>dtG p rs cs (wu r c p)
 | _,_=>zI
def zkw (b:Mx) (j:Nat):List Iv:=b.map fun r=>(r[j]?).getD zI
def muM (a b:Mx) (p:Int):Mx×Int:=
 if(vmB a&&vmB b)=false then([],1)else if pcB p=false then([],2)else if hdL a≠b.length then([],3)else(a.map fun r=>(w3 (hdL b)).map fun j=>dtM p r (zkw b j),0)
def zft (p:Int):List Iv->Dy->Option Dy
 | [],s=>some s
 |x::r,s=>if kB x=true/\(zay s (jk x) p.toNat true).2=0 then zft p r (zay s (jk x) p.toNat true).1 else none
def nmG (p:Int):Mx->Dy->Option Dy
 | [],m=>some m
 |r::rs,m=>match zft p r d0 with
  |none=>none
  |some s=>nmG p rs (if 0<qf s m then s else m)
def nmM (a:Mx) (p:Int):Dy×Bool:=if(vmB a&&pcB p)=true then(match nmG p a d0 with|some d=>(d,true)|none=>(d0,false))else(d0,false)
def arM (m:Mx) (e:Iv) (p:Int):Mx:=m.map fun r=>r.map fun y=>ka y (zbj (zbe e) e) p
def knM (m:Mx):Bool:= !(m.any fun r=>r.any fun x=>x.all)&&decide (0<m.length)
def rdM (m:Mx) (p:Int):Mx:=m.map fun r=>r.map fun x=>wm x p
def rsI (u:Iv) (p:Int):Nat->Iv
 |0=>whI 1
 |k+1=>wu (wu (rsI u p k) u p) (zct (whI 1) (whI ((k+1:Nat):Int)) p) p
def zk2 (x:Iv) (p:Int):Bool:=x.all||decide (wo x.hi=0)||decide (zy x.hi< -p-8)
structure MSt where
 term:Mx
 exp:Mx
 phi:Mx
theorem zt0 {k:Nat} (h:8<=k):(0:Rat)<=(k:Rat)⁻¹ /\(k:Rat)⁻¹ <=pw (-3):=by
 have hk:(8:Rat)<=(k:Rat):=by
  have:=(q7 (a:=8) (b:=k)).2 h;simpa using this
 have h0:(0:Rat)<(k:Rat):=by grind
 have hi:(0:Rat)<(k:Rat)⁻¹ :=qX.2 h0;have hm:=qH (k:Rat) (by grind);have h8:pw (-3)*8=1:=by
  rw[show(8:Rat)=pw 3 from(by rw[show pw 3=((2^3:Nat):Rat)from vj 3];rfl),<-pwA];unfold pw;simp
 refine⟨qE hi,?_⟩;have h1:(k:Rat)⁻¹ *8<=(k:Rat)⁻¹ *(k:Rat):=q0 hk (qE hi);have h2:(k:Rat)⁻¹ *(k:Rat)=1:=by rw[qU];exact hm
 grind
theorem bI_by {k:Nat} (h:8<=k) (h2:k<=1000000) {p:Int} (hp:pcB p=true):bI (pw (-3)) (zct (whI 1) (whI (k:Int)) p):=by
 have kn:=zam (n:=(k:Int)) (by omega);have k1:=zam (n:=1) (by decide);have e:dv (whI (k:Int)).lo =(k:Rat):=(ji (k:Int)).trans (qP k);have e':dv (whI (k:Int)).hi =(k:Rat):=(ji (k:Int)).trans (qP k);have o:dv (whI 1).lo =1:=(ji 1).trans (by simp);have o':dv (whI 1).hi =1:=(ji 1).trans (by simp);have hk0:(0:Rat)<(k:Rat):=by
  have:=(q7 (a:=8) (b:=k)).2 h;have h8:(8:Rat)<=(k:Rat):=by simpa using this
  grind
 have hs:0<dv (whI (k:Int)).lo \/dv (whI (k:Int)).hi <0:= .inl (by rw[e];exact hk0);refine⟨zew (.inl k1) (.inl kn) hp,?_⟩
 cases ha:(zct (whI 1) (whI (k:Int)) p).all with
 |true=>exact .inl rfl
 |false=>
  right;rw[zhq k1 kn hs hp]at ha⊢;obtain⟨i1,i2⟩:=zt0 h;have hq: -pw (-3)<=1/(k:Rat)/\1/(k:Rat)<=pw (-3):=by
   rw[qQ,qK];have:=yw (-3);constructor<;>grind
  refine zoc (zmg k1 kn hs (qs hp)) (pwF (by decide) (by decide)) ?_ ha;unfold zkj;rw[e,e',o,o'];exact⟨hq,hq,hq,hq⟩
theorem zyv {u:Iv} {p:Int} (hp:pcB p=true) (hu:bI (pw 2) u): ∀k:Nat,k<=8->bI (pw (2*(k:Int))) (rsI u p k)
 |0,_=>zu8
 |k+1,hk=>by
  have ih:=zyv hp hu k (by omega);have e1:pw (2*(k:Int))*pw 2=pw (2*((k+1:Nat):Int)):=by rw[<-pwA];congr 1<;>omega
  have h1:=zja ih hu hp (by rw[e1];exact pwF (by omega) (by omega));rw[e1]at h1;have h2:=zu9 zu8 (n:=((k+1:Nat):Int)) (by omega) (by omega) hp (pwF (by decide) (by decide));have e2:pw (2*((k+1:Nat):Int))*pw 0=pw (2*((k+1:Nat):Int)):=by rw[<-pwA];congr 1<;>omega
  have h3:=zja h1 h2 hp (by rw[e2];exact pwF (by omega) (by omega));rw[e2]at h3;exact h3
theorem zyu {u:Iv} {p:Int} (hp:pcB p=true) (hu:bI (pw 2) u): ∀k:Nat,k<=2000->bI (pw (16-(k:Int))) (rsI u p (8+k))
 |0,_=>zyv hp hu 8 (by omega)
 |k+1,hk=>by
  have ih:=zyu hp hu k (by omega);have e1:pw (16-(k:Int))*pw 2=pw (18-(k:Int)):=by rw[<-pwA];congr 1<;>omega
  have h1:=zja ih hu hp (by rw[e1];exact pwF (by omega) (by omega));rw[e1]at h1;have h2:=bI_by (k:=8+k+1) (by omega) (by omega) hp;have e2:pw (18-(k:Int))*pw (-3)=pw (16-((k+1:Nat):Int)):=by rw[<-pwA];congr 1<;>omega
  have h3:=zja h1 h2 hp (by rw[e2];exact pwF (by omega) (by omega));rw[e2]at h3;exact h3
theorem qel {x:Iv} {p t:Int} (hx:bI (pw t) x) (h:zk2 x p=false): -p-9<=t:=by
 unfold zk2 at h;simp only[Bool.or_eq_false_iff,Z3]at h;obtain⟨⟨h1,h2⟩,h3⟩:=h;have k:=(xf hx.1).1 h1;obtain⟨_,a3,a4⟩:=hx.ends k;have hn:nm x.hi≠0:=fun c=>h2 (by unfold wo;rw[Z4 c])
 unfold zy at h3;rw[Z5 hn]at h3;have ht:=jx (n:=nm x.hi) (e:=x.hi.e) (t:=(bl (nm x.hi):Int)+x.hi.e-1) (by omega) hn;have h4:vN (nm x.hi) x.hi.e<=pw t:=by
  unfold dv at a3 a4;split at a4
  .grind
  .exact a4
 have:=xk.1 (q8 ht h4);omega
theorem qav {u:Iv} {p:Int} (hp:pcB p=true) (hu:bI (pw 2) u): ∃k:Nat,1<=k/\k<=700/\zk2 (rsI u p k) p=true:=by
 obtain⟨q,rfl,hq⟩:=kp.1 hp;refine⟨8+(q+30),by omega,by omega,?_⟩
 cases h:zk2 (rsI u q (8+(q+30))) q with
 |true=>rfl
 |false=>
  have:=qel (zyu hp hu (q+30) (by omega)) h;omega
structure VM (n k:Nat) (m:Mx):Prop where
 n1:1<=n/\n<=8
 k1:1<=k/\k<=8
 len:m.length=n
 row: ∀r∈m,r.length=k
 el: ∀r∈m,∀x∈r,VI x
theorem VM.hd {n k:Nat} {m:Mx} (h:VM n k m):hdL m=k:=by
 have h1:=h.n1;have h2:=h.len;have h3:=h.row;unfold hdL
 cases m with
 |nil=>simp at h2;omega
 |cons r m=>exact h3 r (by simp)
def RM (m:Mx):Prop:= ∀r∈m,∀x∈r,RI x
theorem VM.ri {n k:Nat} {m:Mx} (h:VM n k m):RM m:=fun r hr x hx=>(h.el r hr x hx).ri
theorem ze4 {m:Mx} (h:RM m):vmB m=true<-> ∃n k,VM n k m:=by
 unfold vmB;simp only[ws,Z2,qY,List.any_eq_false,wD,not_or,ne_eq,Decidable.not_not];constructor
 .rintro⟨⟨h1,h2⟩,h3⟩;exact⟨m.length,hdL m,h1,h2,rfl,fun r hr=>(h3 r hr).1,fun r hr x hx=>by
   have h4:=(h3 r hr).2;simp only[wA,qY,not_exists,not_and,w7]at h4;exact(jl (h r hr x hx)).1 (h4 x hx)⟩
 .rintro⟨n,k,v⟩;refine⟨⟨by rw[v.len];exact v.n1,by rw[v.hd];exact v.k1⟩,fun r hr=>⟨by rw[v.hd];exact v.row r hr,?_⟩⟩;simp only[wA,qY,not_exists,not_and,w7];exact fun x hx=>(jl (h r hr x hx)).2 (v.el r hr x hx)
theorem VM.ok {n k:Nat} {m:Mx} (h:VM n k m):vmB m=true:=(ze4 h.ri).2 ⟨n,k,h⟩
theorem jp {α β:Type} {f:Nat->α->β} {l:List α} {y:β} (h:y∈l.mapIdx f): ∃i x,l[i]? =some x/\x∈l/\y=f i x:=by
 obtain⟨i,hi⟩:=qR h;rw[qI,w4]at hi;obtain⟨x,hx,rfl⟩:=hi;exact⟨i,x,hx,qM hx,rfl⟩
theorem zul {n k:Nat} {m:Mx} (h:VM n k m) {f:Nat->Nat->Iv->Iv} (hf: ∀i j x,VI x->i<n->j<k->VI (f i j x)):VM n k (xo f m):=by
 refine⟨h.n1,h.k1,by unfold xo;rw[w6];exact h.len,fun r hr=>?_,fun r hr x hx=>?_⟩
 .obtain⟨i,r0,_,hr0,rfl⟩:=jp hr;rw[w6];exact h.row r0 hr0
 .obtain⟨i,r0,hi,hr0,rfl⟩:=jp hr;obtain⟨j,x0,hj,hx0,rfl⟩:=jp hx;refine hf i j x0 (h.el r0 hr0 x0 hx0) ?_ ?_
  .have:=(qO.1 hi).1;rw[h.len]at this;exact this
  .have:=(qO.1 hj).1;rw[h.row r0 hr0]at this;exact this
theorem yt {n k:Nat} {m:Mx} (h:VM n k m) {i j:Nat} (hi:i<n) (hj:j<k):VI (atM m i j):=by
 unfold atM;have hi:i<m.length:=by rw[h.len];exact hi
 rw[q9 hi];have hm:=qJ hi;have hj:j<m[i].length :=by rw[h.row _ hm];exact hj
 simp only[w0];rw[q9 hj];exact h.el _ hm _ (qJ hj)
theorem xq {n:Int} (h: -4611686018427387904<=n/\n<=4611686018427387904):VI (whI n):= .inl (zam h)
theorem zt2 {n:Nat} (h:1<=n/\n<=8):VM n n (idM n):=by
 unfold idM;rw[Z5 (by omega)];refine⟨h,h,by simp,fun r hr=>?_,fun r hr x hx=>?_⟩
 .obtain⟨i,_,rfl⟩:=qG.1 hr;simp
 .obtain⟨i,_,rfl⟩:=qG.1 hr;obtain⟨j,_,rfl⟩:=qG.1 hx;split<;>exact xq (by decide)
theorem za2 {n k:Nat} {a:Mx} (h:VM n k a) {x:Iv} (hx:VI x) {p:Int} (hp:pcB p=true):VM n k (scM a x p):=by
 unfold scM;rw[Z4 (by rw[h.ok,(jl hx.ri).2 hx,hp];rfl)];exact zul h fun i j y hy _ _=>wq hx hy hp
theorem ze1 {n k:Nat} {a b:Mx} (ha:VM n k a) (hb:VM n k b) {p:Int} (hp:pcB p=true):(adM a b p).2=0/\VM n k (adM a b p).1:=by
 unfold adM;rw[Z5 (by rw[ha.ok,hb.ok];simp),Z5 (by rw[hp];simp),Z5 (by rw[ha.len,hb.len,ha.hd,hb.hd];simp)];exact⟨rfl,zul ha fun i j y hy hi hj=>zcu hy (yt hb hi hj) hp⟩
theorem zzw {p:Int} (hp:pcB p=true): ∀(r c:List Iv) (o:Iv),(∀x∈r,VI x)->(∀x∈c,VI x)->VI o->VI (dtG p r c o)
 | [],_,o,_,_,ho=>ho
 | _::_,[],o,_,_,ho=>ho
 |x::r,y::c,o,hr,hc,ho=>zzw hp r c _ (fun z hz=>hr z (qA _ hz)) (fun z hz=>hc z (qA _ hz)) (zcu ho (wq (hr x (by simp)) (hc y (by simp)) hp) hp)
theorem qcl {p:Int} (hp:pcB p=true) {r c:List Iv} (hr: ∀x∈r,VI x) (hc: ∀x∈c,VI x):VI (dtM p r c):=by
 unfold dtM;split
 .rename_i x r y c;exact zzw hp r c _ (fun z hz=>hr z (qA _ hz)) (fun z hz=>hc z (qA _ hz)) (wq (hr x (by simp)) (hc y (by simp)) hp)
 .exact zI_VI
theorem qha {n k:Nat} {b:Mx} (h:VM n k b) {j:Nat} (hj:j<k): ∀x∈zkw b j,VI x:=fun x hx=>by
 obtain⟨r,hr,rfl⟩:=qG.1 hx;have hj:j<r.length:=by rw[h.row r hr];exact hj
 rw[q9 hj];exact h.el r hr _ (qJ hj)
theorem zh2 {n k l:Nat} {a b:Mx} (ha:VM n k a) (hb:VM k l b) {p:Int} (hp:pcB p=true):(muM a b p).2=0/\VM n l (muM a b p).1:=by
 unfold muM;rw[Z5 (by rw[ha.ok,hb.ok];simp),Z5 (by rw[hp];simp),Z5 (by rw[ha.hd,hb.len];simp)];refine⟨rfl,ha.n1,hb.k1,by simp[ha.len],fun r hr=>?_,fun r hr x hx=>?_⟩
 .obtain⟨r0,_,rfl⟩:=qG.1 hr;simp[hb.hd]
 .obtain⟨r0,hr0,rfl⟩:=qG.1 hr;obtain⟨j,hj,rfl⟩:=qG.1 hx;have hj:j<l:=by have:=List.mem_range.1 hj;rw[hb.hd]at this;exact this
  exact qcl hp (ha.el r0 hr0) (qha hb hj)
theorem zju {x:Iv} (hx:VI x) (p:Int):VI (wm x p):=by
 unfold wm;split
 .rename_i c;have k:=(qa hx.ri).1 c.1;exact qbb (yc k.lo (qs c.2)) (yc k.hi (qs c.2)) (ze3 (zae _ _ _ (qs c.2)) (zae _ _ _ (qs c.2))) k.dle
 .exact .inr rfl
theorem ztg {n k:Nat} {m:Mx} (h:VM n k m) {f:Iv->Iv} (hf: ∀x,VI x->VI (f x)):VM n k (m.map fun r=>r.map f):=by
 refine⟨h.n1,h.k1,by simp[h.len],fun r hr=>?_,fun r hr x hx=>?_⟩
 .obtain⟨r0,hr0,rfl⟩:=qG.1 hr;simp[h.row r0 hr0]
 .obtain⟨r0,hr0,rfl⟩:=qG.1 hr;obtain⟨y,hy,rfl⟩:=qG.1 hx;exact hf y (h.el r0 hr0 y hy)
theorem znc {n k:Nat} {m:Mx} (h:VM n k m) (p:Int):VM n k (rdM m p):=ztg h fun x hx=>zju hx p
theorem zvf {n k:Nat} {m:Mx} (h:VM n k m) {e:Iv} (he:VI e) {p:Int} (hp:pcB p=true):VM n k (arM m e p):=ztg h fun x hx=>zcu hx (zkd (zik he).ri he.ri) hp
theorem zfm {k:Nat} (h:1<=k) (h2:k<=1000000) {p:Int} (hp:pcB p=true):VI (zct (whI 1) (whI (k:Int)) p):=zew (xq (by decide)) (xq (by omega)) hp
theorem qbc {u:Iv} (hu:VI u) {p:Int} (hp:pcB p=true): ∀k:Nat,k<=100000->VI (rsI u p k)
 |0,_=>xq (by decide)
 |k+1,hk=>wq (wq (qbc hu hp k (by omega)) hu hp) (zfm (by omega) (by omega) hp) hp
theorem zth {x:Iv} (k:KI x):0<=dv (jk x)/\(∀a:Rat,dv x.lo<=a->a<=dv x.hi-> -dv (jk x)<=a/\a<=dv (jk x)):=by
 obtain⟨h1,h2,h3⟩:=zmp k q5 k.dle;refine⟨q8 h1 (q8 h2 h3),fun a ha hb=>?_⟩;obtain⟨_,_,h4⟩:=zmp k ha hb;unfold zn at h4;split at h4<;>constructor<;>grind
theorem qc5 {x:Iv} (k:KI x):bI (dv (jk x)) x:=by
 obtain⟨_,h⟩:=zth k;exact⟨.inl k,.inr ⟨(h _ q5 k.dle).1,(h _ k.dle q5).2⟩⟩
theorem zb9 {x:Iv} (hx:VI x) (j:Int):VI (zu x j):=by
 rcases hx with k|rfl
 .exact(zkr (qc5 k) j).1
 .exact .inr rfl
theorem zjt {p:Int} (hp:pcB p=true): ∀(r:List Iv) (s S:Dy),(∀x∈r,VI x)->VD s->0<=dv s->zft p r s=some S->VD S/\dv s<=dv S/\ ∀x∈r,KI x/\dv (jk x)<=dv S
 | [],s,S,_,hs,_,h=>by cases h;exact⟨hs,q5,fun x hx=>by cases hx⟩
 |x::r,s,S,hx,hs,h0,h=>by
  unfold zft at h;split at h
  .rename_i c;have k:=(qa (hx x (by simp)).ri).1 c.1;have R1:=(zb6 hs (zaf k) (qs hp)).2.1 c.2;obtain⟨m0,_⟩:=zth k;have h1:dv s+dv (jk x)<=dv (zay s (jk x) p.toNat true).1:=R1.1;obtain⟨a1,a2,a3⟩:=zjt hp r _ S (fun y hy=>hx y (qA _ hy)) (zfc _ _ _ _ (qs hp)) (by grind) h;refine⟨a1,by grind,fun y hy=>?_⟩;rcases wF.1 hy with rfl|hy
   .exact⟨k,by grind⟩
   .exact a3 y hy
  .cases h
theorem zzn {p:Nat} (hp:8<=p) {c:Nat} (hc:c<=256):inF p (vN c (-1)):=by
 refine⟨c,-1,rfl,wG hc (wG (by decide:256<=2^8) (Nat.pow_le_pow_right (by decide) hp)),by decide,?_⟩;have h1:vN c (-1)<=pw 8:=by
  unfold vN;have h2:(c:Rat)<=pw 8:=by
   rw[show pw 8=((2^8:Nat):Rat)from vj 8];exact q7.2 hc
  have h3:pw (-1)<=pw 0:=xk.2 (by decide);have h4:=zac (Rat.natCast_nonneg (a:=c)) h2 (yw (-1)) h3;rw[<-pwA]at h4;exact h4
 exact zna h1 (zsy (by decide))
theorem zri (c:Nat):vN (c+1) (-1)=vN c (-1)+pw (-1):=by
 unfold vN;rw[show((c+1:Nat):Rat)=(c:Rat)+1 from wE c 1];grind
theorem zyy {p:Int} (hp:pcB p=true): ∀(r:List Iv) (s S:Dy) (c:Nat),(∀x∈r,bI (pw (-1)) x)->VD s->dv s<=vN c (-1)->c+r.length<=200->zft p r s=some S->dv S<=vN (c+r.length) (-1)
 | [],s,S,c,_,_,h1,_,h=>by cases h;exact h1
 |x::r,s,S,c,hx,hs,h1,hc,h=>by
  unfold zft at h;split at h
  .rename_i e;have hb:=hx x (by simp);have k:=(qa hb.1.ri).1 e.1;have hm:=(zph hb k).2.1;have hF:=zzn (p:=p.toNat) (qs hp).1 (c:=c+1) (by simp at hc;omega);have R1:=(zb6 hs (zaf k) (qs hp)).2.2 (vN (c+1) (-1)) (.inl hF) (by show dv s+dv (jk x)<=_;rw[zri];grind);have:=zyy hp r _ S (c+1) (fun y hy=>hx y (qA _ hy)) (zfc _ _ _ _ (qs hp)) R1.2 (by simp at hc;omega) h;rw[show c+(x::r).length =c+1+r.length by simp;omega];exact this
  .cases h
theorem zj2 {p:Int} (hp:pcB p=true): ∀(m:Mx) (D0 D:Dy),(∀r∈m,∀x∈r,VI x)->VD D0->nmG p m D0=some D->VD D/\dv D0<=dv D/\ ∀r∈m,∃s,zft p r d0=some s/\dv s<=dv D
 | [],D0,D,_,h0,h=>by cases h;exact⟨h0,q5,fun r hr=>by cases hr⟩
 |r::m,D0,D,hv,h0,h=>by
  unfold nmG at h;split at h
  .cases h
  .rename_i s hs;have hs1:=zjt hp r d0 s (hv r (by simp)) qb (by rw[yz];exact q5) hs;have hcm:=zb4 s D0;obtain⟨a1,a2,a3⟩:=zj2 hp m _ D (fun r hr=>hv r (qA _ hr)) (by split;exact hs1.1;exact h0) h;have h1:dv s<=dv D/\dv D0<=dv D:=by
    split at a2
    .rename_i c;have:=hcm.2.1.1 c;exact⟨a2,q8 (qE this) a2⟩
    .rename_i c;have:dv s<=dv D0:=Rat.not_lt.1 fun c2=>c (hcm.2.1.2 c2)
     exact⟨q8 this a2,a2⟩
   refine⟨a1,h1.2,fun r' hr'=>?_⟩;rcases wF.1 hr' with rfl|hr'
   .exact⟨s,hs,h1.1⟩
   .exact a3 r' hr'
theorem zwv {p:Int} (hp:pcB p=true) {k:Nat} (hk:k<=8): ∀(m:Mx) (D0 D:Dy),(∀r∈m,r.length=k/\ ∀x∈r,bI (pw (-1)) x)->dv D0<=vN k (-1)->nmG p m D0=some D->dv D<=vN k (-1)
 | [],D0,D,_,h0,h=>by cases h;exact h0
 |r::m,D0,D,hv,h0,h=>by
  unfold nmG at h;split at h
  .cases h
  .rename_i s hs;obtain⟨hl,hb⟩:=hv r (by simp);have h1:=zyy hp r d0 s 0 hb qb (by rw[yz];exact zda _ _) (by omega) hs;rw[w5,hl]at h1;refine zwv hp hk m _ D (fun r hr=>hv r (qA _ hr)) ?_ h;split
   .exact h1
   .exact h0
theorem zj4 {a:Mx} {p:Int} (h: ∀r∈a,∀x∈r,VI x):VD (nmM a p).1/\0<=dv (nmM a p).1:=by
 unfold nmM;split
 .rename_i c;rw[ws]at c;split
  .rename_i d hd;obtain⟨a1,a2,_⟩:=zj2 c.2 a d0 d h qb hd;rw[yz]at a2;exact⟨a1,a2⟩
  .exact⟨qb,by rw[yz];exact q5⟩
 .exact⟨qb,by rw[yz];exact q5⟩
def hvS (N:Dy):Int:=max 0 (zy N+1)
theorem zw5 {f:Iv->Iv} {m:Mx} {r:List Iv} {x:Iv} (hr:r∈m) (hx:x∈r): ∃r'∈xo (fun _ _ y=>f y) m,f x∈r':=by
 obtain⟨i,hi⟩:=qR hr;obtain⟨j,hj⟩:=qR hx;refine⟨r.mapIdx fun _ y=>f y,qM (i:=i) (by unfold xo;rw[qI,hi];rfl),qM (i:=j) (by rw[qI,hj];rfl)⟩
theorem zn2 {n k:Nat} {a:Mx} (ha:VM n k a) {t:Iv} (kt:KI t) {q:Int} (hq:pcB q=true) {N:Dy} (hN:nmM (scM a t q) q=(N,true)): ∀r∈a,∀y∈r,bI (pw (-1)) (wu (zu t (-hvS N)) y q):=by
 have hsc:scM a t q=xo (fun _ _ y=>wu t y q) a:=by
  unfold scM;rw[Z4 (by rw[ha.ok,(jl kt.ri).2 (.inl kt),hq];rfl)]
 have vs:=za2 ha (.inl kt) hq;have key: ∀r∈a,∀y∈r,KI (wu t y q)/\dv (jk (wu t y q))<=dv N:=fun r hr y hy=>by
  unfold nmM at hN;rw[Z4 (by rw[vs.ok,hq];rfl)]at hN;split at hN
  .rename_i d hd;cases hN
   obtain⟨a1,a2,a3⟩:=zj2 hq _ d0 N vs.el qb hd;obtain⟨r',hr',hx'⟩:=zw5 (f:=fun y=>wu t y q) hr hy;rw[<-hsc]at hr';obtain⟨s,hs,hle⟩:=a3 r' hr';obtain⟨_,_,b3⟩:=zjt hq r' d0 s (vs.el r' hr') qb (by rw[yz];exact q5) hs;exact⟨(b3 _ hx').1,q8 (b3 _ hx').2 hle⟩
  .cases hN
 have hNv:=zj4 (p:=q) vs.el;rw[hN]at hNv;intro r hr y hy;obtain⟨km,hm⟩:=key r hr y hy;have vy:=ha.el r hr y hy;have vh:=zb9 (.inl kt:VI t) (-hvS N);refine⟨wq vh vy hq,?_⟩
 cases hal:(wu (zu t (-hvS N)) y q).all with
 |true=>exact .inl rfl
 |false=>
  right;by_cases hk:KI (zu t (-hvS N))/\KI y
  .have hsa:(zu t (-hvS N)).all =false:=hk.1.all;have e:zu t (-hvS N)=jy (vn t.lo (-hvS N)) (vn t.hi (-hvS N)):=by unfold zu;rw[Z4 ((qa kt.ri).2 kt)]
   rw[e]at hsa;obtain⟨o1,o2⟩:=ye.1 hsa;have e1:dv (zu t (-hvS N)).lo =dv t.lo*pw (-hvS N):=by rw[e,za5 hsa];exact zb8 o1
   have e2:dv (zu t (-hvS N)).hi =dv t.hi*pw (-hvS N):=by rw[e,za5 hsa];exact zb8 o2
   have hNp:dv N*pw (-hvS N)<=pw (-1):=by
    by_cases h0:nm N=0
    .rw[zho h0,w8];exact yw _
    .have h1:=(zpv h0).2;have h2:=vg h1 (yw (-hvS N));rw[<-pwA]at h2;exact q8 h2 (xk.2 (by unfold hvS;omega))
   have prod: ∀u v:Rat,inI u t->inI v y-> -pw (-1)<=(u*pw (-hvS N))*v/\(u*pw (-hvS N))*v<=pw (-1):=fun u v hu hv=>by
    have hin:=zcs (.inl kt) vy hq hu hv;rcases hin with c|⟨c1,c2⟩
    .rw[km.all]at c;cases c
    .obtain⟨d1,d2⟩:=(zth km).2 _ c1 c2;have hp:=yw (-hvS N);have f1:=vg (show u*v<=dv N from q8 d2 hm) hp;have f2:=vg (show-(dv N)<=u*v by grind) hp;constructor<;>grind
   have tl:inI (dv t.lo) t:= .inr ⟨q5,kt.dle⟩;have th:inI (dv t.hi) t:= .inr ⟨kt.dle,q5⟩;have yl:inI (dv y.lo) y:= .inr ⟨q5,hk.2.dle⟩;have yh:inI (dv y.hi) y:= .inr ⟨hk.2.dle,q5⟩;rw[zll hk.1 hk.2 hq]at hal⊢;refine zoc (zlm hk.1 hk.2 (qs hq)) (pwF (by decide) (by decide)) ?_ hal;unfold zkj;rw[e1,e2];exact⟨prod _ _ tl yl,prod _ _ tl yh,prod _ _ th yl,prod _ _ th yh⟩
  .rw[zw2 vh.ri vy.ri hk]at hal;cases hal
theorem u_bd {n k:Nat} {a:Mx} (ha:VM n k a) {t:Iv} (kt:KI t) {q:Int} (hq:pcB q=true) {N:Dy} (hN:nmM (scM a t q) q=(N,true)):bI (pw 2) (zd (nmM (scM a (zu t (-hvS N)) q) q).1):=by
 have vh:=zb9 (.inl kt:VI t) (-hvS N);have vs:=za2 ha vh hq;have hb:=zn2 ha kt hq hN;have hsc:scM a (zu t (-hvS N)) q=xo (fun _ _ y=>wu (zu t (-hvS N)) y q) a:=by
  unfold scM;rw[Z4 (by rw[ha.ok,(jl vh.ri).2 vh,hq];rfl)]
 have hrow: ∀r∈scM a (zu t (-hvS N)) q,r.length=k/\ ∀x∈r,bI (pw (-1)) x:=fun r hr=>⟨vs.row r hr,fun x hx=>by
  rw[hsc]at hr;obtain⟨i,r0,_,hr0,rfl⟩:=jp hr;obtain⟨j,y,_,hy,rfl⟩:=jp hx;exact hb r0 hr0 y hy⟩
 obtain⟨w1,w2⟩:=zj4 (p:=q) vs.el;have h4:dv (nmM (scM a (zu t (-hvS N)) q) q).1<=pw 2:=by
  have hk4:vN k (-1)<=pw 2:=by
   have h1:vN k (-1)<=vN 8 (-1):=by
    unfold vN;exact vg (q7.2 ha.k1.2) (yw _)
   have h2:vN 8 (-1)=pw 2:=by
    unfold vN;rw[show((8:Nat):Rat)=pw 3 from(by rw[show pw 3=((2^3:Nat):Rat)from vj 3]),<-pwA];rfl
   rw[h2]at h1;exact h1
  unfold nmM;split
  .split
   .rename_i d hd;exact q8 (zwv hq ha.k1.2 _ d0 d hrow (by rw[yz];exact zda _ _) hd) hk4
   .rw[yz];exact yw _
  .rw[yz];exact yw _
 refine⟨.inl (zbc w1),.inr ⟨?_,h4⟩⟩;have:=yw 2;show-pw 2<=dv (nmM (scM a (zu t (-hvS N)) q) q).1;grind
def byI (k:Nat) (p:Int):Iv:=zct (whI 1) (whI (k:Int)) p
def zee (m:Mx) (p:Int) (k:Nat) (s:MSt):MSt:=
 let t:=scM (muM s.term m p).1 (byI k p) p
 ⟨t,(adM s.exp t p).1,(adM s.phi (scM t (byI (k+1) p) p) p).1⟩
def zvq (u:Iv) (p:Int) (k:Nat) (r:Iv):Iv:=wu (wu r u p) (byI k p) p
def xy (m:Mx) (u:Iv) (p:Int):Nat->Nat->MSt->Iv->MSt×Iv
 |0,_,s,r=>(s,r)
 |n+1,k,s,r=>if zk2 (zvq u p k r) p=true then(zee m p k s,zvq u p k r)else xy m u p n (k+1) (zee m p k s) (zvq u p k r)
structure MPr where
 exp:Mx
 phi:Mx
def zm1 (m:Mx) (h:Iv) (p:Int):MPr:=
 let s:=xy m (zd (nmM m p).1) p 700 1 ⟨idM m.length,idM m.length,idM m.length⟩ (whI 1)
 ⟨arM s.1.exp s.2 p,scM (arM s.1.phi s.2 p) h p⟩
def zq1 (q:Int) (x:MPr):MPr:=⟨(muM x.exp x.exp q).1,(adM x.phi (muM x.exp x.phi q).1 q).1⟩
def zn6 (q:Int):Nat->MPr->MPr
 |0,x=>x
 |n+1,x=>zn6 q n (zq1 q x)
def zgc (a:Mx) (t:Iv) (p:Int):Option MPr:=
 let q:=min (p+40) 512
 let n:=nmM (scM a t q) q
 if n.2=false\/0<qf n.1 (za6 256)then none else
  let half:=zu t (-hvS n.1)
  let x:=zn6 q (hvS n.1).toNat (zm1 (scM a half q) half q)
  let y:MPr:=⟨rdM x.exp p,rdM x.phi p⟩
  if(knM y.exp&&knM y.phi)=true then some y else none
def zh7 (a:Mx) (t:Iv) (p:Int):Bool:=vmB a&&decide (a.length=hdL a)&&kB t&&pcB p&& !(a.any fun r=>r.any fun x=>x.all)
def zrc (a:Mx) (t:Iv) (p:Int):Mx×Int:=if zh7 a t p=true then(match zgc a t p with|some x=>(x.exp,0)|none=>([],13))else([],1)
def phiM (a:Mx) (t:Iv) (p:Int):Mx×Int:=if zh7 a t p=true then(match zgc a t p with|some x=>(x.phi,0)|none=>([],13))else([],1)
def apM (a:Mx) (x:List Iv) (p:Int):List Iv:=a.map fun r=>dtM p r x
def bvB (l:List Iv):Bool:=decide (1<=l.length/\l.length<=8)&& !l.any fun x=>x.all|| !viB x
def zzg (a:Mx) (b x:List Iv) (t:Iv) (p:Int):List Iv×Int:=
 if(zh7 a t p&&bvB b&&bvB x&&decide (b.length=a.length)&&decide (x.length=a.length))=true then
  match zgc a t p with
  |some y=>let out:=List.zipWith (fun u v=>ka u v p) (apM y.exp x p) (apM y.phi b p);if bvB out=true then(out,0)else([],13)
  |none=>([],13)
 else([],1)
structure kI (B:Rat) (x:Iv):Prop where
 k:KI x
 lo: -B<=dv x.lo
 hi:dv x.hi<=B
theorem kI.b {B:Rat} {x:Iv} (h:kI B x):bI B x:=⟨.inl h.k,.inr ⟨h.lo,h.hi⟩⟩
theorem ztz {B:Rat} {x:Iv} (h:bI B x) (ha:x.all=false):kI B x:=by
 have k:=(xf h.1).1 ha;rcases h.2 with c|c
 .rw[ha]at c;cases c
 .exact⟨k,c.1,c.2⟩
theorem kI.mono {B C:Rat} {x:Iv} (h:kI B x) (hb:B<=C):kI C x:=⟨h.k,by have:=h.lo;grind,by have:=h.hi;grind⟩
theorem kI.nn {B:Rat} {x:Iv} (h:kI B x):0<=B:=by
 have h1:=h.lo;have h2:=h.hi;have h3:=h.k.dle;grind
theorem qdd {p:Nat} {op:Rat->Rat->Rat} {dn up:Dy->Dy->Dy×Int} {x y:Iv} (f:F4 p op dn up x y) {b:Rat} (hb:inF p b) (h:zkj op x y (fun z=> -b<=z/\z<=b)):(jv dn up x y).all =false:=by
 obtain⟨a1,a2,a3,a4⟩:=h;have hn:Fp p (-b):= .inr (by rw[wB];exact hb);have hp:Fp p b:= .inl hb;have c1:=f.rt1;have c2:=f.rt2;have c3:=f.rt3;have c4:=f.rt4;exact zxv ⟨(c1.1.2 (-b) hn a1.1).1,(c2.1.2 (-b) hn a2.1).1,(c3.1.2 (-b) hn a3.1).1,(c4.1.2 (-b) hn a4.1).1⟩
  ⟨(c1.2.2 b hp a1.2).1,(c2.2.2 b hp a2.2).1,(c3.2.2 b hp a3.2).1,(c4.2.2 b hp a4.2).1⟩
theorem zg2 {B C:Rat} {x y:Iv} (hx:kI B x) (hy:kI C y) {p:Int} (hp:pcB p=true) (hF:inF p.toNat (B*C)):kI (B*C) (wu x y p):=by
 refine ztz (zja hx.b hy.b hp hF) ?_;obtain⟨⟨a1,a2⟩,⟨a3,a4⟩⟩:=hx.b.ends hx.k;obtain⟨⟨b1,b2⟩,⟨b3,b4⟩⟩:=hy.b.ends hy.k;rw[zll hx.k hy.k hp];exact qdd (zlm hx.k hy.k (qs hp)) hF ⟨jw a1 a2 b1 b2,jw a1 a2 b3 b4,jw a3 a4 b1 b2,jw a3 a4 b3 b4⟩
theorem qb5 {B:Rat} {x:Iv} (hx:kI B x) {n:Int} (h1:1<=n) (h2:n<=4611686018427387904) {c:Rat} (hc:(n:Rat)⁻¹ <=c) {p:Int} (hp:pcB p=true) (hF:inF p.toNat (B*c)):kI (B*c) (zct x (whI n) p):=by
 have kn:=zam (n:=n) (by omega);have hn:=zii h1;have e:dv (whI n).lo =(n:Rat):=ji n;have e':dv (whI n).hi =(n:Rat):=ji n;have hs:0<dv (whI n).lo \/dv (whI n).hi <0:= .inl (by rw[e];grind);obtain⟨⟨a1,a2⟩,⟨a3,a4⟩⟩:=hx.b.ends hx.k;have i0:0<(n:Rat)⁻¹ :=qX.2 (by grind);have q: ∀a:Rat,-B<=a->a<=B-> -(B*c)<=a/(n:Rat)/\a/(n:Rat)<=B*c:=fun a c1 c2=>by
  rw[qQ];exact jw c1 c2 (by grind) hc
 have hq:zkj (fun u v=>u/v) x (whI n) (fun z=> -(B*c)<=z/\z<=B*c):=by
  unfold zkj;rw[e,e'];exact⟨q _ a1 a2,q _ a1 a2,q _ a3 a4,q _ a3 a4⟩
 have f:=zmg hx.k kn hs (qs hp);have ha:=qdd f hF hq;have hb:=zoc f hF hq ha;have hv:=zew (.inl hx.k) (.inl kn) (y:=whI n) (x:=x) hp;rw[zhq hx.k kn hs hp]at hv⊢;exact⟨(xf hv).1 ha,hb.1,hb.2⟩
theorem zpk {B C D:Rat} {x y:Iv} (hx:kI B x) (hy:kI C y) (hD:B+C<=D) {p:Int} (hp:pcB p=true) (hF:inF p.toNat D):kI D (ka x y p):=by
 have hv:=zcu (.inl hx.k) (.inl hy.k) (x:=x) (y:=y) hp;rw[zp8 hx.k hy.k hp]at hv⊢;have R1:=zb6 hx.k.lo hy.k.lo (qs hp);have R2:=zb6 hx.k.hi hy.k.hi (qs hp);have q1:=hx.lo;have q2:=hy.lo;have q3:=hx.hi;have q4:=hy.hi;have r1:=R1.1.2 (-D) (.inr (by rw[wB];exact hF)) (by grind);have r2:=R2.2.2 D (.inl hF) (by grind);have ha:=ye.2 ⟨r1.1,r2.1⟩;rw[za5 ha]at hv⊢;exact⟨(xf hv).1 rfl,r1.2,r2.2⟩
theorem zxj {B:Rat} {x:Iv} (hx:kI B x) {p:Int} (hp:pcB p=true) (hF:inF p.toNat B):kI B (wm x p):=by
 refine ztz (zp5 hx.b hF) ?_;obtain⟨⟨a1,a2⟩,⟨a3,a4⟩⟩:=hx.b.ends hx.k;unfold wm;rw[Z4 ⟨(qa hx.k.ri).2 hx.k,hp⟩];have R1:=yc hx.k.lo (qs hp);have R2:=yc hx.k.hi (qs hp);exact ye.2 ⟨(R1.1.2 (-B) (.inr (by rw[wB];exact hF)) a1).1,(R2.2.2 B (.inl hF) a4).1⟩
def sQ (f:Nat->Rat):Nat->Rat
 |0=>f 0
 |k+1=>sQ f k+f (k+1)
theorem zek {f g:Nat->Rat}: ∀ {k:Nat},(∀i,i<=k->f i<=g i)->sQ f k<=sQ g k
 |0,h=>h 0 (q6 _)
 |k+1,h=>by
  have h1:=zek (k:=k) fun i hi=>h i (by omega)
  have h2:=h (k+1) (q6 _);show sQ f k+f (k+1)<=sQ g k+g (k+1);grind
theorem yo {f g:Nat->Rat}: ∀ {k:Nat},(∀i,i<=k->f i=g i)->sQ f k=sQ g k
 |0,h=>h 0 (q6 _)
 |k+1,h=>by
  have h1:=yo (k:=k) fun i hi=>h i (by omega)
  have h2:=h (k+1) (q6 _);show sQ f k+f (k+1)=sQ g k+g (k+1);rw[h1,h2]
theorem zqn {f:Nat->Rat}: ∀ {k:Nat},(∀i,i<=k->0<=f i)->0<=sQ f k
 |0,h=>h 0 (q6 _)
 |k+1,h=>by
  have h1:=zqn (k:=k) fun i hi=>h i (by omega)
  have h2:=h (k+1) (q6 _);show 0<=sQ f k+f (k+1);grind
theorem zoz {f g:Nat->Rat}: ∀ {k:Nat},sQ (fun i=>f i+g i) k=sQ f k+sQ g k
 |0=>rfl
 |k+1=>by
  show sQ (fun i=>f i+g i) k+(f (k+1)+g (k+1))=(sQ f k+f (k+1))+(sQ g k+g (k+1));rw[zoz];grind
theorem zoy {f g:Nat->Rat}: ∀ {k:Nat},sQ (fun i=>f i-g i) k=sQ f k-sQ g k
 |0=>rfl
 |k+1=>by
  show sQ (fun i=>f i-g i) k+(f (k+1)-g (k+1))=(sQ f k+f (k+1))-(sQ g k+g (k+1));rw[zoy];grind
theorem jr {c:Rat} {f:Nat->Rat}: ∀ {k:Nat},sQ (fun i=>c*f i) k=c*sQ f k
 |0=>rfl
 |k+1=>by
  show sQ (fun i=>c*f i) k+c*f (k+1)=c*(sQ f k+f (k+1));rw[jr];grind
theorem zej {f:Nat->Nat->Rat} {l:Nat}: ∀ {k:Nat},sQ (fun i=>sQ (fun j=>f i j) l) k=sQ (fun j=>sQ (fun i=>f i j) k) l
 |0=>rfl
 |k+1=>by
  show sQ (fun i=>sQ (fun j=>f i j) l) k+sQ (fun j=>f (k+1) j) l=sQ (fun j=>sQ (fun i=>f i j) k+f (k+1) j) l;rw[zej,zoz]
theorem jn {a b:Rat}:zn a<=b<-> -b<=a/\a<=b:=by
 unfold zn;split<;>constructor<;>(try rintro⟨h1,h2⟩)<;>(try intro h1)<;>grind
theorem wp (a:Rat): -zn a<=a/\a<=zn a:=jn.1 q5
theorem wz (a b:Rat):zn (a+b)<=zn a+zn b:=by
 have h1:=wp a;have h2:=wp b;rw[jn];constructor<;>grind
theorem yd (a:Rat):zn (-a)=zn a:=by
 unfold zn;split<;>split<;>grind
theorem zjw (a b:Rat):zn (a-b)<=zn a+zn b:=by
 have h1:=wp a;have h2:=wp b;rw[jn];constructor<;>grind
theorem jf {a:Rat} (h:0<=a):zn a=a:=by unfold zn;split<;>grind
theorem zsq:zn 1=1:=jf (by decide)
theorem zgq:zn 0=0:=jf (by decide)
theorem ue {a b:Rat}:zn (a*b)=zn a*zn b:=by
 by_cases ha:0<=a<;>by_cases hb:0<=b
 .rw[jf ha,jf hb,jf (qB ha hb)]
 .have h:=qB ha (show 0<= -b by grind);rw[jf ha,<-yd b,jf (show 0<= -b by grind),<-yd,show-(a*b)=a* -b by grind,jf h]
 .have h:=qB (show 0<= -a by grind) hb;rw[jf hb,<-yd a,jf (show 0<= -a by grind),<-yd,show-(a*b)= -a*b by grind,jf h]
 .have h:=qB (show 0<= -a by grind) (show 0<= -b by grind);rw[<-yd a,<-yd b,jf (show 0<= -a by grind),jf (show 0<= -b by grind),show a*b= -a* -b by grind,jf h]
theorem zo0 {f:Nat->Rat}: ∀ {k:Nat},zn (sQ f k)<=sQ (fun i=>zn (f i)) k
 |0=>q5
 |k+1=>by
  have h:=zo0 (f:=f) (k:=k);have h2:=wz (sQ f k) (f (k+1));show zn (sQ f k+f (k+1))<=sQ (fun i=>zn (f i)) k+zn (f (k+1));grind
theorem zwd {f:Nat->Rat}: ∀ {k:Nat},(∀i,i<=k->0<=f i)-> ∀j,j<=k->f j<=sQ f k
 |0,_,j,hj=>by obtain rfl:j=0:=by omega
               exact q5
 |k+1,h,j,hj=>by
  have h1:=zqn (k:=k) fun i hi=>h i (by omega)
  have h2:=h (k+1) (q6 _);show f j<=sQ f k+f (k+1);by_cases e:j=k+1
  .subst e;grind
  .have:=zwd (k:=k) (fun i hi=>h i (by omega)) j (by omega);grind
theorem qeq {f:Nat->Rat} (h: ∀i,0<=f i) (k:Nat): ∀d:Nat,sQ f k<=sQ f (k+d)
 |0=>q5
 |d+1=>by
  have h1:=qeq h k d;have h2:=h (k+d+1);show sQ f k<=sQ f (k+d)+f (k+d+1);grind
theorem zsj {f:Nat->Rat} (h: ∀i,0<=f i) {k n:Nat} (hk:k<=n):sQ f k<=sQ f n:=by
 obtain⟨d,rfl⟩:=qC hk;exact qeq h k d
theorem qa5 {f g:Nat->Rat} (h: ∀i,zn (f i)<=g i) (k:Nat): ∀d:Nat,zn (sQ f (k+d)-sQ f k)<=sQ g (k+d)-sQ g k
 |0=>by rw[qV,qL,qL,zgq];exact q5
 |d+1=>by
  have h1:=qa5 h k d;have h2:=h (k+d+1);have h3:=wz (sQ f (k+d)-sQ f k) (f (k+d+1));show zn (sQ f (k+d)+f (k+d+1)-sQ f k)<=sQ g (k+d)+g (k+d+1)-sQ g k;rw[show sQ f (k+d)+f (k+d+1)-sQ f k=sQ f (k+d)-sQ f k+f (k+d+1) by grind];grind
theorem qer {f g:Nat->Rat} (h: ∀i,zn (f i)<=g i) {k n:Nat} (hk:k<=n):zn (sQ f n-sQ f k)<=sQ g n-sQ g k:=by
 obtain⟨d,rfl⟩:=qC hk;exact qa5 h k d
def Nul (s:Nat->Rat):Prop:= ∀e:Rat,0<e-> ∃N:Nat,∀n,N<=n->zn (s n)<=e
def Bnd (s:Nat->Rat):Prop:= ∃B:Rat,0<=B/\ ∀n,zn (s n)<=B
theorem yf {e:Rat} (h:0<e):0<e/2/\e/2+e/2=e:=by constructor<;>grind
theorem Nul.add {s t:Nat->Rat} (hs:Nul s) (ht:Nul t):Nul fun n=>s n+t n:=fun e he=>by
 obtain⟨h1,h2⟩:=yf he;obtain⟨N,hN⟩:=hs _ h1;obtain⟨M,hM⟩:=ht _ h1;refine⟨N+M,fun n hn=>?_⟩;have a:=hN n (by omega);have b:=hM n (by omega);have c:=wz (s n) (t n);grind
theorem Nul.neg {s:Nat->Rat} (hs:Nul s):Nul fun n=> -(s n):=fun e he=>by
 obtain⟨N,hN⟩:=hs e he;exact⟨N,fun n hn=>by rw[yd];exact hN n hn⟩
theorem Nul.cg {s t:Nat->Rat} (hs:Nul s) (h: ∀n,s n=t n):Nul t:=by rw[show t=s from funext fun n=>(h n).symm];exact hs
theorem Nul.sub {s t:Nat->Rat} (hs:Nul s) (ht:Nul t):Nul fun n=>s n-t n:=(hs.add ht.neg).cg fun n=>by grind
theorem ul {e B:Rat} (he:0<e) (hB:0<=B):0<e/(B+1)/\B*(e/(B+1))<=e:=by
 have h1:(0:Rat)<(B+1)⁻¹ :=qX.2 (by grind);have h2:=qH (B+1) (by grind);rw[qQ];have h3:0<e*(B+1)⁻¹ :=Rat.mul_pos he h1;have h4:B*(e*(B+1)⁻¹)=e*((B+1)*(B+1)⁻¹)-e*(B+1)⁻¹ :=by grind
 exact⟨h3,by rw[h4,h2];grind⟩
theorem Nul.mul {s t:Nat->Rat} (hs:Nul s) (ht:Bnd t):Nul fun n=>s n*t n:=fun e he=>by
 obtain⟨B,hB,hb⟩:=ht;obtain⟨h1,h2⟩:=ul he hB;obtain⟨N,hN⟩:=hs _ h1;refine⟨N,fun n hn=>?_⟩;rw[ue];have:=zac (zm (s n)) (hN n hn) (zm (t n)) (hb n);grind
theorem Nul.zero:Nul fun _=>0:=fun e he=>⟨0,fun n _=>by rw[zgq];grind⟩
theorem Bnd.const (c:Rat):Bnd fun _=>c:=⟨zn c,zm c,fun _=>q5⟩
theorem Bnd.add {s t:Nat->Rat} (hs:Bnd s) (ht:Bnd t):Bnd fun n=>s n+t n:=by
 obtain⟨B,h1,h2⟩:=hs;obtain⟨C,h3,h4⟩:=ht;refine⟨B+C,by grind,fun n=>?_⟩;have:=wz (s n) (t n);have:=h2 n;have:=h4 n;grind
theorem Bnd.mul {s t:Nat->Rat} (hs:Bnd s) (ht:Bnd t):Bnd fun n=>s n*t n:=by
 obtain⟨B,h1,h2⟩:=hs;obtain⟨C,h3,h4⟩:=ht;exact⟨B*C,qB h1 h3,fun n=>by rw[ue];exact zac (zm _) (h2 n) (zm _) (h4 n)⟩
theorem Bnd.sum {f:Nat->Nat->Rat}: ∀ {k:Nat},(∀i,i<=k->Bnd (f i))->Bnd fun n=>sQ (fun i=>f i n) k
 |0,h=>h 0 (q6 _)
 |k+1,h=>(Bnd.sum (k:=k) fun i hi=>h i (by omega)).add (h (k+1) (q6 _))
structure Smb (α:Nat->Rat):Prop where
 nn: ∀i,0<=α i
 tl: ∀e:Rat,0<e-> ∃N:Nat,∀n,N<=n->sQ α n-sQ α N<=e
theorem Smb.sc {α:Nat->Rat} (h:Smb α) {C:Rat} (hC:0<=C):Smb fun i=>C*α i:=by
 refine⟨fun i=>qB hC (h.nn i),fun e he=>?_⟩;obtain⟨q1,q2⟩:=ul he hC;obtain⟨N,hN⟩:=h.tl _ q1;refine⟨N,fun n hn=>?_⟩;have h1:=q0 (hN n hn) hC;rw[jr,jr];grind
theorem Smb.bnd {α:Nat->Rat} (h:Smb α): ∃A:Rat,0<=A/\ ∀n,sQ α n<=A:=by
 obtain⟨N,hN⟩:=h.tl 1 (by decide);have h0:=zqn (k:=N) fun i _=>h.nn i
 refine⟨sQ α N+1,by grind,fun n=>?_⟩;rcases Nat.le_total N n with c|c
 .have:=hN n c;grind
 .have:=zsj h.nn c;grind
theorem Smb.tl2 {α:Nat->Rat} (h:Smb α) {e:Rat} (he:0<e): ∃N:Nat,∀m n,N<=m->m<=n->sQ α n-sQ α m<=e:=by
 obtain⟨N,hN⟩:=h.tl e he;refine⟨N,fun m n hm hn=>?_⟩;have h1:=hN n (by omega);have h2:=zsj h.nn hm;grind
theorem Smb.of {α f:Nat->Rat} (h:Smb α) (hf: ∀i,zn (f i)<=α i):Bnd (sQ f):=by
 obtain⟨A,h0,hA⟩:=h.bnd;refine⟨A,h0,fun n=>q8 zo0 (q8 (zek fun i _=>hf i) (hA n))⟩
theorem qes {g:Nat->Rat} {i:Nat}: ∀ {n:Nat},i<=n->sQ (fun k=>if i<=k then g (k-i)else 0) n=sQ g (n-i)
 |0,h=>by
  obtain rfl:i=0:=by omega
  rfl
 |n+1,h=>by
  show sQ (fun k=>if i<=k then g (k-i)else 0) n+(if i<=n+1 then g (n+1-i)else 0)=_;rw[Z4 h];by_cases e:i=n+1
  .subst e;have hz: ∀k,k<=n->(if n+1<=k then g (k-(n+1))else 0)=(fun _=>(0:Rat)) k:=fun k hk=>by rw[Z5 (by omega)]
   rw[yo hz,w9];have h0: ∀m,sQ (fun _=>(0:Rat)) m=0:=fun m=>by
    induction m with
    |zero=>rfl
    |succ m ih=>show sQ (fun _=>(0:Rat)) m+0=0;rw[ih,wi]
   rw[h0];show 0+g 0=g 0;grind
  .rw[qes (by omega),show n+1-i=(n-i)+1 by omega];rfl
def trQ (f:Nat->Nat->Rat) (n:Nat):Rat:=sQ (fun k=>sQ (fun i=>f i (k-i)) k) n
theorem qa6 {f:Nat->Rat} {k:Nat}: ∀ {n:Nat},k<=n->sQ (fun i=>if i<=k then f i else 0) n=sQ f k
 |0,h=>by obtain rfl:k=0:=by omega
          rfl
 |n+1,h=>by
  show sQ (fun i=>if i<=k then f i else 0) n+(if n+1<=k then f (n+1)else 0)=_;by_cases e:k=n+1
  .subst e;rw[Z4 (q6 _),yo (g:=f) fun i hi=>Z4 (by omega)];rfl
  .rw[Z5 (by omega),qa6 (by omega)];grind
theorem qec (f:Nat->Nat->Rat) (n:Nat):trQ f n=sQ (fun i=>sQ (f i) (n-i)) n:=by
 unfold trQ;have h1:sQ (fun k=>sQ (fun i=>f i (k-i)) k) n=sQ (fun k=>sQ (fun i=>if i<=k then f i (k-i)else 0) n) n:=yo fun k hk=>(qa6 hk).symm
 rw[h1,zej (f:=fun k i=>if i<=k then f i (k-i)else 0)];exact yo fun i hi=>qes hi
theorem zzz {f:Nat->Nat->Rat} {α β:Nat->Rat} (ha:Smb α) (hb:Smb β) (hf: ∀i j,zn (f i j)<=α i*β j):Nul fun n=>sQ (fun i=>sQ (f i) n) n-trQ f n:=fun e he=>by
 obtain⟨A,hA,hA'⟩:=ha.bnd;obtain⟨B,hB,hB'⟩:=hb.bnd;obtain⟨q1,q2⟩:=ul he (show 0<=A+B by grind);generalize e/(A+B+1)=d at*;obtain⟨N1,hN1⟩:=ha.tl2 q1;obtain⟨N2,hN2⟩:=hb.tl2 q1;refine⟨N1+N2,fun n hn=>?_⟩;show zn (sQ (fun i=>sQ (f i) n) n-trQ f n)<=e;rw[qec,<-zoy];refine q8 zo0 ?_;have h1: ∀i,i<=n->zn (sQ (f i) n-sQ (f i) (n-i))<=α i*(sQ β n-sQ β (n-i)):=fun i hi=>by
  have:=qer (f:=f i) (g:=fun j=>α i*β j) (hf i) (show n-i<=n by omega);rw[jr,jr]at this;grind
 refine q8 (zek h1) ?_;have h2: ∀i,i<=n->α i*(sQ β n-sQ β (n-i))<=d*α i+B*(if i<=n-N2 then 0 else α i):=fun i hi=>by
  have h0:=ha.nn i;by_cases c:i<=n-N2
  .rw[Z4 c];have h3:=hN2 (n-i) n (by omega) (by omega);have:=q0 h3 h0;grind
  .rw[Z5 c];have h3:=hB' n;have h4:=zqn (k:=n-i) fun j _=>hb.nn j
   have:=q0 (show sQ β n-sQ β (n-i)<=B by grind) h0;have:=qB (qE q1) h0;grind
 refine q8 (zek h2) ?_;rw[zoz,jr,jr];have h5:sQ (fun i=>if i<=n-N2 then 0 else α i) n=sQ α n-sQ α (n-N2):=by
  rw[<-qa6 (f:=α) (k:=n-N2) (n:=n) (by omega),<-zoy];refine yo fun i _=>?_
  split<;>grind
 rw[h5];have h6:=hN1 (n-N2) n (by omega) (by omega);have h7:=q0 h6 hB;have h8:=q0 (hA' n) (qE q1);grind
theorem arch (q:Rat): ∃n:Nat,q<=(n:Rat):=by
 refine⟨(q.floor+1).toNat,?_⟩;have h1:=Rat.lt_floor_add_one q;have h2:((q.floor+1:Int):Rat)<=(((q.floor+1).toNat :Int):Rat):=Rat.intCast_le_intCast.2 (by omega);rw[qP]at h2;grind
def rQ (u:Rat):Nat->Rat
 |0=>1
 |j+1=>rQ u j*u*(1/((j+1:Nat):Rat))
theorem zlu (j:Nat):(0:Rat)<=1/((j+1:Nat):Rat)/\(1:Rat)/((j+1:Nat):Rat)<=1:=by
 have h:(1:Rat)<=((j+1:Nat):Rat):=by
  have:=(q7 (a:=1) (b:=j+1)).2 (by omega);simpa using this
 have h3:(0:Rat)<((j+1:Nat):Rat)⁻¹ :=qX.2 (by grind);have h4:=qH ((j+1:Nat):Rat) (by grind);have h5:=qD h (qE h3);rw[qQ,qK];exact⟨qE h3,by grind⟩
theorem rQ_s (u:Rat) (j:Nat):((j+1:Nat):Rat)*rQ u (j+1)=u*rQ u j:=by
 have h0:(0:Rat)<((j+1:Nat):Rat):=qS.2 (by omega);have h4:=qH ((j+1:Nat):Rat) (by grind);rw[show rQ u (j+1)=rQ u j*u*(1/((j+1:Nat):Rat))from rfl,qQ,qK];generalize ((j+1:Nat):Rat)=c at*;generalize rQ u j=q;grind
theorem zel {u:Rat} (h:0<=u): ∀j,0<=rQ u j
 |0=>by unfold rQ;decide
 |j+1=>qB (qB (zel h j) h) (zlu j).1
theorem ze8 (u:Rat): ∀j,zn (rQ u j)=rQ (zn u) j
 |0=>zsq
 |j+1=>by
  unfold rQ;rw[ue,ue,ze8 u j,jf (zlu j).1]
theorem znf {u:Rat} (h:0<=u) {K:Nat} (hu:u*2<=((K+1:Nat):Rat)) {j:Nat} (hj:K<=j):rQ u (j+1)*2<=rQ u j:=by
 have h1:((K+1:Nat):Rat)<=((j+1:Nat):Rat):=q7.2 (by omega);have h0:(0:Rat)<((j+1:Nat):Rat):=qS.2 (by omega);have hm:=qH ((j+1:Nat):Rat) (by grind);have hi:(0:Rat)<=((j+1:Nat):Rat)⁻¹ :=qE (qX.2 h0);have h2:(u*2)*((j+1:Nat):Rat)⁻¹ <=1:=by
  have:=qD (q8 hu h1) hi;rw[hm]at this;exact this
 have h3:=q0 h2 (zel h j);rw[show rQ u (j+1)=rQ u j*u*(1/((j+1:Nat):Rat))from rfl,qQ,qK];generalize ((j+1:Nat):Rat)⁻¹ =c at*;generalize rQ u j=q at*;grind
theorem zne {u:Rat} (h:0<=u) {K:Nat} (hu:u*2<=((K+1:Nat):Rat)): ∀d:Nat,sQ (rQ u) (K+d)-sQ (rQ u) K<=rQ u K-rQ u (K+d)
 |0=>by rw[qV,qL,qL];exact q5
 |d+1=>by
  have h1:=zne h hu d;have h2:=znf h hu (j:=K+d) (by omega);show sQ (rQ u) (K+d)+rQ u (K+d+1)-sQ (rQ u) K<=rQ u K-rQ u (K+d+1);grind
theorem zy1 {u:Rat} (h:0<=u) {K:Nat} (hu:u*2<=((K+1:Nat):Rat)): ∀d:Nat,rQ u (K+d)*((d+1:Nat):Rat)<=rQ u K
 |0=>by
  rw[show((0+1:Nat):Rat)=1 from rfl];simp
 |d+1=>by
  have h1:=zy1 h hu d;have h2:=znf h hu (j:=K+d) (by omega);have h3:((d+1+1:Nat):Rat)<=2*((d+1:Nat):Rat):=by
   have:=(q7 (a:=d+1+1) (b:=2*(d+1))).2 (by omega);rw[Rat.natCast_mul]at this;exact this
  have h4:=q0 h3 (zel h (K+d+1));have h5:=qD h2 (zs7 (d+1));show rQ u (K+d+1)*((d+1+1:Nat):Rat)<=rQ u K;grind
theorem zwk {u:Rat}: ∃K:Nat,u*2<=((K+1:Nat):Rat):=by
 obtain⟨n,hn⟩:=arch (u*2);refine⟨n,q8 hn (q7.2 (by omega))⟩
theorem zwj {u:Rat} (h:0<=u) {e:Rat} (he:0<e): ∃N:Nat,u*2<=((N+1:Nat):Rat)/\ ∀n,N<=n->rQ u n<=e:=by
 obtain⟨K,hK⟩:=zwk (u:=u);obtain⟨m,hm⟩:=arch (rQ u K/e);have hB:rQ u K<=e*(m:Rat):=by
  have:=q0 hm (qE he);have h2:=qH e (by grind);rw[qQ,show e*(rQ u K*e⁻¹)=rQ u K*(e*e⁻¹) by grind,h2,qZ]at this;exact this
 have hK':u*2<=((K+m+1:Nat):Rat):=q8 hK (q7.2 (by omega));refine⟨K+m,hK',fun n hn=>?_⟩;obtain⟨d,rfl⟩:=qC hn;have h1:=zy1 h hK (m+d);rw[<-Nat.add_assoc]at h1;have h2:((m:Nat):Rat)<=((m+d+1:Nat):Rat):=q7.2 (by omega);have h3:=q0 h2 (qE he);have h4:rQ u (K+m+d)*((m+d+1:Nat):Rat)<=e*((m+d+1:Nat):Rat):=by grind
 exact qN h4 (qS.2 (by omega))
theorem zih {u:Rat} (h:0<=u):Smb (rQ u):=by
 refine⟨zel h,fun e he=>?_⟩;obtain⟨N,h1,h2⟩:=zwj h he;refine⟨N,fun n hn=>?_⟩;obtain⟨d,rfl⟩:=qC hn;have h3:=zne h h1 d;have h4:=zel h (N+d);have h5:=h2 N (q6 _);grind
theorem zjq {f:Nat->Rat}: ∀ {k:Nat},sQ f (k+1)=f 0+sQ (fun i=>f (i+1)) k
 |0=>rfl
 |k+1=>by
  show sQ f (k+1)+f (k+1+1)=f 0+(sQ (fun i=>f (i+1)) k+f (k+1+1));rw[zjq];grind
theorem zo1 (x y:Rat): ∀k:Nat,sQ (fun i=>rQ x i*rQ y (k-i)) k=rQ (x+y) k
 |0=>by exact qK 1
 |k+1=>by
  have ih:=zo1 x y k;have h0:(0:Rat)<((k+1:Nat):Rat):=qS.2 (by omega);have hs:=rQ_s (x+y) k;have key:((k+1:Nat):Rat)*sQ (fun i=>rQ x i*rQ y (k+1-i)) (k+1)=(x+y)*sQ (fun i=>rQ x i*rQ y (k-i)) k:=by
   rw[<-jr];have e1:sQ (fun i=>((k+1:Nat):Rat)*(rQ x i*rQ y (k+1-i))) (k+1)=sQ (fun i=>(i:Rat)*(rQ x i*rQ y (k+1-i))+((k+1-i:Nat):Rat)*(rQ x i*rQ y (k+1-i))) (k+1):=yo fun i hi=>by
    have:((k+1:Nat):Rat)=(i:Rat)+((k+1-i:Nat):Rat):=by rw[<-wE];congr 1;omega
    rw[this];grind
   rw[e1,zoz];have e2:sQ (fun i=>(i:Rat)*(rQ x i*rQ y (k+1-i))) (k+1)=x*sQ (fun i=>rQ x i*rQ y (k-i)) k:=by
    rw[zjq,<-jr];have:sQ (fun i=>((i+1:Nat):Rat)*(rQ x (i+1)*rQ y (k+1-(i+1)))) k=sQ (fun i=>x*(rQ x i*rQ y (k-i))) k:=yo fun i hi=>by
     have h1:=rQ_s x i;rw[show k+1-(i+1)=k-i by omega];grind
    rw[this];rw[show((0:Nat):Rat)=0 from rfl,w8,wn]
   have e3:sQ (fun i=>((k+1-i:Nat):Rat)*(rQ x i*rQ y (k+1-i))) (k+1)=y*sQ (fun i=>rQ x i*rQ y (k-i)) k:=by
    show sQ (fun i=>((k+1-i:Nat):Rat)*(rQ x i*rQ y (k+1-i))) k+((k+1-(k+1):Nat):Rat)*(rQ x (k+1)*rQ y (k+1-(k+1)))=_;rw[w9,show((0:Nat):Rat)=0 from rfl,w8,wi,<-jr];exact yo fun i hi=>by
     have h1:=rQ_s y (k-i);rw[show k+1-i=k-i+1 by omega];grind
   rw[e2,e3];grind
  rw[ih,<-hs]at key;have:=q5 (a:=((k+1:Nat):Rat)*sQ (fun i=>rQ x i*rQ y (k+1-i)) (k+1));refine zjv (qN (c:=((k+1:Nat):Rat)) ?_ h0) (qN (c:=((k+1:Nat):Rat)) ?_ h0)<;>grind
def eS (x:Rat) (n:Nat):Rat:=sQ (rQ x) n
theorem zma (x:Rat):Bnd (eS x):=(zih (zm x)).of fun i=>by rw[ze8];exact q5
theorem zpu (x y:Rat):Nul fun n=>eS x n*eS y n-eS (x+y) n:=by
 have h:=zzz (f:=fun i j=>rQ x i*rQ y j) (zih (zm x)) (zih (zm y)) fun i j=>by rw[ue,ze8,ze8];exact q5
 refine h.cg fun n=>?_
 have e1:sQ (fun i=>sQ (fun j=>rQ x i*rQ y j) n) n=eS x n*eS y n:=by
  have:(fun i=>sQ (fun j=>rQ x i*rQ y j) n)=fun i=>eS y n*rQ x i:=by
   funext i;rw[jr];unfold eS;grind
  rw[this,jr];unfold eS;grind
 have e2:trQ (fun i j=>rQ x i*rQ y j) n=eS (x+y) n:=by
  unfold trQ eS;exact yo fun k _=>zo1 x y k
 rw[e1,e2]
theorem qci {x:Rat} {K:Nat} (hu:zn x*2<=((K+1:Nat):Rat)) {n:Nat} (hn:K<=n):zn (eS x n-eS x K)<=rQ (zn x) K:=by
 obtain⟨d,rfl⟩:=qC hn;have h1:=qa5 (f:=rQ x) (g:=rQ (zn x)) (fun i=>by rw[ze8];exact q5) K d;have h2:=zne (zm x) hu d;have h3:=zel (zm x) (K+d);unfold eS;grind
theorem qgv {d:Rat} (h:0<=d) (n:Nat):1<=eS d n:=zwd (f:=rQ d) (fun i _=>zel h i) 0 (wC _)
theorem eS_lo (x:Rat) {e:Rat} (he:0<e): ∃N:Nat,∀n,N<=n-> -e<=eS x n:=by
 have h:=zpu (x/2) (x/2);obtain⟨N,hN⟩:=h e he;refine⟨N,fun n hn=>?_⟩;have h1:=hN n hn;simp only[show x/2+x/2=x by grind]at h1;have h2:0<=eS (x/2) n*eS (x/2) n:=by
  rcases qW (a:=0) (b:=eS (x/2) n)with c|c
  .exact qB c c
  .have:=qB (show 0<= -eS (x/2) n by grind) (show 0<= -eS (x/2) n by grind);grind
 have h3:=wp (eS (x/2) n*eS (x/2) n-eS x n);grind
theorem zum {x y:Rat} (h:x<=y) {e:Rat} (he:0<e): ∃N:Nat,∀n,N<=n->eS x n<=eS y n+e:=by
 obtain⟨C,hC,hC'⟩:=zma (y-x);obtain⟨p1,p2⟩:=yf he;obtain⟨q1,q2⟩:=ul p1 hC;obtain⟨N,hN⟩:=eS_lo x q1;obtain⟨M,hM⟩:=zpu x (y-x) _ p1;refine⟨N+M,fun n hn=>?_⟩;have h1:=hN n (by omega);have h2:=hM n (by omega);have h3:=wp (eS x n*eS (y-x) n-eS (x+(y-x)) n);rw[show x+(y-x)=y by grind]at h2 h3;have h4:=qgv (show 0<=y-x by grind) n;have h5:=(wp (eS (y-x) n)).2;have h6:=hC' n;generalize e/2/(C+1)=d at*;have h7:=qB (show 0<=eS x n+d by grind) (show 0<=eS (y-x) n-1 by grind);have h8:=q0 (show eS (y-x) n-1<=C by grind) (qE q1);grind
def lI (s:Nat->Rat) (x:Iv):Prop:= ∀e:Rat,0<e-> ∃N:Nat,∀n,N<=n-> ∃q,inI q x/\zn (s n-q)<=e
theorem ztq {s:Nat->Rat} {x:Iv} (N:Nat) (h: ∀n,N<=n->inI (s n) x):lI s x:=fun e he=>⟨N,fun n hn=>⟨s n,h n hn,by rw[qL,zgq];grind⟩⟩
theorem zzk {q:Rat} {x:Iv} (h:inI q x):lI (fun _=>q) x:=ztq 0 fun _ _=>h
theorem lI.nul {s t:Nat->Rat} {x:Iv} (h:lI s x) (hn:Nul fun n=>s n-t n):lI t x:=fun e he=>by
 obtain⟨h1,h2⟩:=yf he;obtain⟨N,hN⟩:=h _ h1;obtain⟨M,hM⟩:=hn _ h1;refine⟨N+M,fun n hk=>?_⟩;obtain⟨q,hq,hd⟩:=hN n (by omega);have h3:=hM n (by omega);refine⟨q,hq,?_⟩;have h4:=zjw (s n-q) (s n-t n);rw[show s n-q-(s n-t n)=t n-q by grind]at h4;grind
theorem lI.cg {s t:Nat->Rat} {x:Iv} (h:lI s x) (e: ∀n,s n=t n):lI t x:=by rw[show t=s from funext fun n=>(e n).symm];exact h
theorem ztt {s t:Nat->Rat} {x y:Iv} (hx:VI x) (hy:VI y) {p:Int} (hp:pcB p=true) (hs:lI s x) (ht:lI t y):lI (fun n=>s n+t n) (ka x y p):=fun e he=>by
 obtain⟨h1,h2⟩:=yf he;obtain⟨N,hN⟩:=hs _ h1;obtain⟨M,hM⟩:=ht _ h1;refine⟨N+M,fun n hk=>?_⟩;obtain⟨q,hq,hd⟩:=hN n (by omega);obtain⟨r,hr,hc⟩:=hM n (by omega);refine⟨q+r,zfb hx hy hp hq hr,?_⟩;have h4:=wz (s n-q) (t n-r);rw[show s n-q+(t n-r)=s n+t n-(q+r) by grind]at h4;grind
theorem ztr {s t:Nat->Rat} {x y:Iv} (hx:VI x) (hy:VI y) {p:Int} (hp:pcB p=true) (hs:lI s x) (ht:lI t y) (bs:Bnd s) (bt:Bnd t):lI (fun n=>s n*t n) (wu x y p):=fun e he=>by
 obtain⟨B,hB,hB'⟩:=bs;obtain⟨C,hC,hC'⟩:=bt;obtain⟨d,d0,d1,d2⟩: ∃d:Rat,0<d/\d<=1/\(B+C+1)*d<=e:=by
  obtain⟨q1,q2⟩:=ul he (show 0<=B+C+1 by grind);rcases qW (a:=e/(B+C+1+1)) (b:=1)with c|c
  .exact⟨_,q1,c,q2⟩
  .refine⟨1,by decide,q5,?_⟩;have:=q0 c (show 0<=B+C+1 by grind);grind
 obtain⟨N,hN⟩:=hs d d0;obtain⟨M,hM⟩:=ht d d0;refine⟨N+M,fun n hk=>?_⟩;obtain⟨q,hq,hd⟩:=hN n (by omega);obtain⟨r,hr,hc⟩:=hM n (by omega);refine⟨q*r,zcs hx hy hp hq hr,?_⟩;have e1:s n*t n-q*r=(s n-q)*t n+q*(t n-r):=by grind
 have h3:=wz ((s n-q)*t n) (q*(t n-r));rw[ue,ue]at h3;have hq1:zn q<=B+1:=by
  have h4:=zjw (s n) (s n-q);rw[show s n-(s n-q)=q by grind]at h4;have:=hB' n;grind
 have h5:=zac (zm (s n-q)) hd (zm (t n)) (hC' n);have h6:=zac (zm q) hq1 (zm (t n-r)) hc;rw[e1];grind
theorem qfx {s:Nat->Rat} {x y:Iv} (f:Rat->Rat) {C:Rat} (hC:0<=C) (hf: ∀a b,zn (f a-f b)<=C*zn (a-b)) (hi: ∀q,inI q x->inI (f q) y) (h:lI s x):lI (fun n=>f (s n)) y:=fun e he=>by
 obtain⟨q1,q2⟩:=ul he hC;obtain⟨N,hN⟩:=h _ q1;refine⟨N,fun n hn=>?_⟩;obtain⟨q,hq,hd⟩:=hN n hn;refine⟨f q,hi q hq,?_⟩;have h1:=hf (s n) q;have h2:=q0 hd hC;grind
theorem qfy {s:Nat->Rat} {x y:Iv} (hi: ∀q,inI q x->inI q y) (h:lI s x):lI s y:=fun e he=>by
 obtain⟨N,hN⟩:=h e he;refine⟨N,fun n hn=>?_⟩;obtain⟨q,hq,hd⟩:=hN n hn;exact⟨q,hi q hq,hd⟩
theorem zxe {s:Nat->Rat} {x:Iv} (h:lI s x) (ha:x.all=false) {e:Rat} (he:0<e): ∃N:Nat,∀n,N<=n->dv x.lo-e<=s n/\s n<=dv x.hi+e:=by
 obtain⟨N,hN⟩:=h e he;refine⟨N,fun n hn=>?_⟩;obtain⟨q,hq,hd⟩:=hN n hn;rcases hq with c|⟨h1,h2⟩
 .rw[ha]at c;cases c
 have h3:=wp (s n-q);constructor<;>grind
theorem qb0 {s:Nat->Rat} {x:Iv} (hle:dv x.lo<=dv x.hi) (h: ∀e:Rat,0<e-> ∃N:Nat,∀n,N<=n->dv x.lo-e<=s n/\s n<=dv x.hi+e):lI s x:=fun e he=>by
 obtain⟨N,hN⟩:=h e he;refine⟨N,fun n hn=>?_⟩;obtain⟨h1,h2⟩:=hN n hn;rcases qW (a:=s n) (b:=dv x.lo)with c|c
 .exact⟨dv x.lo,.inr ⟨q5,hle⟩,jn.2 ⟨by grind,by grind⟩⟩
 .rcases qW (a:=s n) (b:=dv x.hi)with d|d
  .exact⟨s n,.inr ⟨c,d⟩,by rw[qL,zgq];grind⟩
  .exact⟨dv x.hi,.inr ⟨hle,q5⟩,jn.2 ⟨by grind,by grind⟩⟩
theorem zzj {a b:Rat} (h: ∀e:Rat,0<e->a<=b+e):a<=b:=by
 rcases qW (a:=a) (b:=b)with c|c
 .exact c
 .by_cases k:0<a-b
  .have:=h ((a-b)/2) (yf k).1;grind
  .grind
theorem zts {s:Nat->Rat} {x y:Iv} (hx:lI s x) (hy:lI s y) (kx:x.all=false) (ky:y.all=false):dv x.lo<=dv y.hi:=zzj fun e he=>by
 obtain⟨h1,h2⟩:=yf he;obtain⟨N,hN⟩:=zxe hx kx h1;obtain⟨M,hM⟩:=zxe hy ky h1;have a:=(hN (N+M) (by omega)).1;have b:=(hM (N+M) (by omega)).2;grind
theorem qfw {s:Nat->Rat} {x:Iv} (hx:VI x) (h:lI s x):lI (fun n=> -(s n)) (zbe x):=qfx (fun q=> -q) (C:=1) (by decide) (fun a b=>by rw[show-a- -b= -(a-b) by grind,yd];grind) (fun q hq=>qfe hx hq) h
theorem zvc {n k:Nat} {m:Mx} (h:VM n k m) {i j:Nat} (hi:i<n) (hj:j<k): ∃r,m[i]? =some r/\r∈m/\r.length=k/\r[j]? =some (atM m i j):=by
 have hi:i<m.length:=by rw[h.len];exact hi
 have hm:=qJ hi;have hl:=h.row _ hm;refine⟨m[i],q9 hi,hm,hl,?_⟩;have hj:j<m[i].length :=by rw[hl];exact hj
 unfold atM;rw[q9 hi,w0,q9 hj];rfl
theorem zez {m:Mx} {i j:Nat} {r:List Iv} {x:Iv} (h:m[i]? =some r) (hx:r[j]? =some x):atM m i j=x:=by
 unfold atM;rw[h,w0,hx];rfl
theorem zvd {n k:Nat} {m:Mx} (h:VM n k m) {f:Nat->Nat->Iv->Iv} {i j:Nat} (hi:i<n) (hj:j<k):atM (xo f m) i j=f i j (atM m i j):=by
 obtain⟨r,h1,_,_,h4⟩:=zvc h hi hj;refine zez (r:=r.mapIdx fun j x=>f i j x) ?_ ?_
 .unfold xo;rw[qI,h1];rfl
 .rw[qI,h4];rfl
theorem zvb {n k:Nat} {m:Mx} (h:VM n k m) {f:Iv->Iv} {i j:Nat} (hi:i<n) (hj:j<k):atM (m.map fun r=>r.map f) i j=f (atM m i j):=by
 obtain⟨r,h1,_,_,h4⟩:=zvc h hi hj;refine zez (r:=r.map f) ?_ ?_
 .rw[qF,h1];rfl
 .rw[qF,h4];rfl
theorem qc7 {n k:Nat} {m:Mx} (h:VM n k m) {p:Int} {i j:Nat} (hi:i<n) (hj:j<k):atM (rdM m p) i j=wm (atM m i j) p:=zvb h hi hj
theorem qc8 {n k:Nat} {m:Mx} (h:VM n k m) {e:Iv} {p:Int} {i j:Nat} (hi:i<n) (hj:j<k):atM (arM m e p) i j=ka (atM m i j) (zbj (zbe e) e) p:=zvb h hi hj
theorem qhq {n:Nat} (h:1<=n/\n<=8) {i j:Nat} (hi:i<n) (hj:j<n):atM (idM n) i j=whI (if i=j then 1 else 0):=by
 refine zez (r:=(w3 n).map fun j=>whI (if i=j then 1 else 0)) ?_ ?_
 .unfold idM;rw[Z5 (by omega),qF,qT hi];rfl
 .rw[qF,qT hj];rfl
theorem zx7 {n k:Nat} {a:Mx} (h:VM n k a) {x:Iv} (hx:VI x) {p:Int} (hp:pcB p=true) {i j:Nat} (hi:i<n) (hj:j<k):atM (scM a x p) i j=wu x (atM a i j) p:=by
 unfold scM;rw[Z4 (by rw[h.ok,(jl hx.ri).2 hx,hp];rfl)];exact zvd h hi hj
theorem zve {n k:Nat} {a b:Mx} (ha:VM n k a) (hb:VM n k b) {p:Int} (hp:pcB p=true) {i j:Nat} (hi:i<n) (hj:j<k):atM (adM a b p).1 i j=ka (atM a i j) (atM b i j) p:=by
 unfold adM;rw[Z5 (by rw[ha.ok,hb.ok];simp),Z5 (by rw[hp];simp),Z5 (by rw[ha.len,hb.len,ha.hd,hb.hd];simp)];exact zvd ha hi hj
def dtF (p:Int) (f g:Nat->Iv):Nat->Iv
 |0=>wu (f 0) (g 0) p
 |k+1=>ka (dtF p f g k) (wu (f (k+1)) (g (k+1)) p) p
theorem qg2 {p:Int} {f g:Nat->Iv}: ∀(rs cs:List Iv) (d:Nat),rs.length=cs.length->(∀i x,rs[i]? =some x->x=f (d+1+i))->(∀i x,cs[i]? =some x->x=g (d+1+i))->dtG p rs cs (dtF p f g d)=dtF p f g (d+rs.length)
 | [],[],d,_,_,_=>rfl
 | [],_::_,_,h,_,_=>by simp at h
 | _::_,[],_,h,_,_=>by simp at h
 |x::rs,y::cs,d,hl,hr,hc=>by
  have e1:x=f (d+1):=hr 0 x rfl;have e2:y=g (d+1):=hc 0 y rfl;subst e1;subst e2;show dtG p rs cs (dtF p f g (d+1))=_;rw[qg2 rs cs (d+1) (by simpa using hl) (fun i x h=>by rw[hr (i+1) x h];congr 1;omega) (fun i x h=>by rw[hc (i+1) x h];congr 1;omega)]
  congr 1
  simp;omega
theorem dtM_F {p:Int} {f g:Nat->Iv} {k:Nat} {r c:List Iv} (hr:r.length=k+1) (hc:c.length=k+1) (h1: ∀i x,r[i]? =some x->x=f i) (h2: ∀i x,c[i]? =some x->x=g i):dtM p r c=dtF p f g k:=by
 match r,c,hr,hc with
 |x::rs,y::cs,hr,hc=>
  have e1:x=f 0:=h1 0 x rfl;have e2:y=g 0:=h2 0 y rfl;subst e1;subst e2;have:=qg2 (p:=p) (f:=f) (g:=g) rs cs 0 (by simp at hr hc;omega) (fun i x h=>by rw[h1 (i+1) x h];congr 1;omega) (fun i x h=>by rw[h2 (i+1) x h];congr 1;omega);have hk:rs.length=k:=by simpa using hr
  rw[hk,w5]at this;exact this
theorem zva {n k l:Nat} {a b:Mx} (ha:VM n (k+1) a) (hb:VM (k+1) l b) {p:Int} (hp:pcB p=true) {i j:Nat} (hi:i<n) (hj:j<l):atM (muM a b p).1 i j=dtF p (fun r=>atM a i r) (fun r=>atM b r j) k:=by
 unfold muM;rw[Z5 (by rw[ha.ok,hb.ok];simp),Z5 (by rw[hp];simp),Z5 (by rw[ha.hd,hb.len];simp)];have hr: ∃r,a[i]? =some r/\r∈a:=⟨a[i]'(by rw[ha.len];exact hi),q9 (by rw[ha.len];exact hi),qJ _⟩;obtain⟨r,hr,hm⟩:=hr;have hl:=ha.row r hm;refine zez (r:=(w3 (hdL b)).map fun j=>dtM p r (zkw b j)) (by rw[qF,hr];rfl) ?_;rw[hb.hd,qF,qT hj];simp only[Option.map_some,Option.some.injEq];refine dtM_F hl (by unfold zkw;rw[List.length_map,hb.len]) (fun q x hx=>(zez hr hx).symm) fun q x hx=>?_
 unfold zkw at hx;rw[qF,w4]at hx;obtain⟨s,hs,rfl⟩:=hx;have hsl:=hb.row s (qM hs);have hj2:j<s.length:=by rw[hsl];exact hj
 rw[q9 hj2];exact(zez hs (q9 hj2)).symm
theorem qck {p:Int} (hp:pcB p=true) {f g:Nat->Iv} {a b:Nat->Rat}: ∀k:Nat,(∀i,i<=k->VI (f i)/\inI (a i) (f i))->(∀i,i<=k->VI (g i)/\inI (b i) (g i))->VI (dtF p f g k)/\inI (sQ (fun i=>a i*b i) k) (dtF p f g k)
 |0,hf,hg=>⟨wq (hf 0 (q6 _)).1 (hg 0 (q6 _)).1 hp,zcs (hf 0 (q6 _)).1 (hg 0 (q6 _)).1 hp (hf 0 (q6 _)).2 (hg 0 (q6 _)).2⟩
 |k+1,hf,hg=>by
  obtain⟨h1,h2⟩:=qck hp k (fun i hi=>hf i (by omega)) (fun i hi=>hg i (by omega));have f1:=hf (k+1) (q6 _);have g1:=hg (k+1) (q6 _);have hm:=wq f1.1 g1.1 hp;exact⟨zcu h1 hm hp,zfb h1 hm hp h2 (zcs f1.1 g1.1 hp f1.2 g1.2)⟩
structure inM (n k:Nat) (A:Nat->Nat->Rat) (m:Mx):Prop where
 v:VM n k m
 i: ∀i j,i<n->j<k->inI (A i j) (atM m i j)
def dlt (i j:Nat):Rat:=if i=j then 1 else 0
def mQ (k:Nat) (A B:Nat->Nat->Rat):Nat->Nat->Rat:=fun i j=>sQ (fun r=>A i r*B r j) k
theorem zcq (n:Int):inI (n:Rat) (whI n):= .inr (by
 have e:dv (whI n).lo =(n:Rat):=ji n;have e':dv (whI n).hi =(n:Rat):=ji n;rw[e,e'];exact⟨q5,q5⟩)
theorem id_in {n:Nat} (h:1<=n/\n<=8):inM n n dlt (idM n):=by
 refine⟨zt2 h,fun i j hi hj=>?_⟩;rw[qhq h hi hj];unfold dlt;have:=zcq (if i=j then 1 else 0);split<;>simp_all
theorem zwc {n k:Nat} {A:Nat->Nat->Rat} {a:Mx} (h:inM n k A a) {x:Iv} (hx:VI x) {c:Rat} (hc:inI c x) {p:Int} (hp:pcB p=true):inM n k (fun i j=>c*A i j) (scM a x p):=by
 refine⟨za2 h.v hx hp,fun i j hi hj=>?_⟩;rw[zx7 h.v hx hp hi hj];exact zcs hx (yt h.v hi hj) hp hc (h.i i j hi hj)
theorem qhu {n k:Nat} {A B:Nat->Nat->Rat} {a b:Mx} (ha:inM n k A a) (hb:inM n k B b) {p:Int} (hp:pcB p=true):inM n k (fun i j=>A i j+B i j) (adM a b p).1:=by
 refine⟨(ze1 ha.v hb.v hp).2,fun i j hi hj=>?_⟩;rw[zve ha.v hb.v hp hi hj];exact zfb (yt ha.v hi hj) (yt hb.v hi hj) hp (ha.i i j hi hj) (hb.i i j hi hj)
theorem mu_in {n k l:Nat} {A B:Nat->Nat->Rat} {a b:Mx} (ha:inM n (k+1) A a) (hb:inM (k+1) l B b) {p:Int} (hp:pcB p=true):inM n l (mQ k A B) (muM a b p).1:=by
 refine⟨(zh2 ha.v hb.v hp).2,fun i j hi hj=>?_⟩;rw[zva ha.v hb.v hp hi hj];exact(qck hp k (fun r hr=>⟨yt ha.v hi (by omega),ha.i i r hi (by omega)⟩) fun r hr=>⟨yt hb.v (by omega) hj,hb.i r j (by omega) hj⟩).2
theorem zgm {x:Iv} (hx:VI x) {p:Int} {q:Rat} (hq:inI q x):inI q (wm x p):=by
 unfold wm;split
 .rename_i c;have k:=(qa hx.ri).1 c.1;rcases hq with hq|hq
  .rw[k.all]at hq;cases hq
  exact qeu (yc k.lo (qs c.2)) (yc k.hi (qs c.2)) hq.1 hq.2
 .exact zrg _
def nQ (k:Nat) (A:Nat->Nat->Rat) (U:Rat):Prop:= ∀i,i<=k->sQ (fun r=>zn (A i r)) k<=U
theorem zs9 {k:Nat} {A:Nat->Nat->Rat} {U:Rat} (h:nQ k A U) {i j:Nat} (hi:i<=k) (hj:j<=k):zn (A i j)<=U:=
 q8 (zwd (f:=fun r=>zn (A i r)) (fun _ _=>zm _) j hj) (h i hi)
theorem zlk {k:Nat} {A:Nat->Nat->Rat} {U:Rat} (h:nQ k A U):0<=U:=q8 (zm _) (zs9 h (wC k) (wC k))
theorem zza {k:Nat} {A B:Nat->Nat->Rat} {U V:Rat} (ha:nQ k A U) (hb:nQ k B V):nQ k (mQ k A B) (U*V):=fun i hi=>by
 have h1:sQ (fun j=>zn (mQ k A B i j)) k<=sQ (fun j=>sQ (fun r=>zn (A i r)*zn (B r j)) k) k:=zek fun j _=>by
  have:=zo0 (f:=fun r=>A i r*B r j) (k:=k);simp only[ue]at this;exact this
 have h2:sQ (fun j=>sQ (fun r=>zn (A i r)*zn (B r j)) k) k=sQ (fun r=>zn (A i r)*sQ (fun j=>zn (B r j)) k) k:=by
  rw[zej (f:=fun j r=>zn (A i r)*zn (B r j))];simp only[jr]
 have h3:sQ (fun r=>zn (A i r)*sQ (fun j=>zn (B r j)) k) k<=sQ (fun r=>V*zn (A i r)) k:=zek fun r hr=>by
  have:=q0 (hb r hr) (zm (A i r));grind
 rw[jr]at h3;have h4:=q0 (ha i hi) (zlk hb);rw[h2]at h1;grind
theorem nQ_sc {k:Nat} {A:Nat->Nat->Rat} {U c:Rat} (ha:nQ k A U) (hc:0<=c):nQ k (fun i j=>c*A i j) (c*U):=fun i hi=>by
 have e:(fun r=>zn (c*A i r))=fun r=>c*zn (A i r):=by
  funext r
  rw[ue]
  congr 1
  unfold zn;split<;>grind
 rw[e,jr];exact q0 (ha i hi) hc
theorem zup (i j:Nat):zn (dlt i j)=if i=j then 1 else 0:=by
 unfold dlt;by_cases h:i=j
 .simp only[Z4 h];exact zsq
 .simp only[Z5 h];exact zgq
theorem zyt {i:Nat}: ∀ {k:Nat},sQ (fun r=>zn (dlt i r)) k=if i<=k then 1 else 0
 |0=>by
  show zn (dlt i 0)=_;rw[zup];by_cases h:i=0
  .rw[Z4 h,Z4 (by omega)]
  .rw[Z5 h,Z5 (by omega)]
 |k+1=>by
  show sQ (fun r=>zn (dlt i r)) k+zn (dlt i (k+1))=_;rw[zyt,zup];by_cases h:i=k+1
  .rw[Z5 (by omega),Z4 h,Z4 (by omega)];grind
  .by_cases h2:i<=k
   .rw[Z4 h2,Z5 h,Z4 (by omega)];grind
   .rw[Z5 h2,Z5 h,Z5 (by omega)];grind
theorem zzb {k:Nat}:nQ k dlt 1:=fun i hi=>by rw[zyt,Z4 hi];exact q5
def tQ (k:Nat) (A:Nat->Nat->Rat):Nat->Nat->Nat->Rat
 |0=>dlt
 |j+1=>fun a b=>(1/((j+1:Nat):Rat))*mQ k (tQ k A j) A a b
def eQ (k:Nat) (A:Nat->Nat->Rat):Nat->Nat->Nat->Rat
 |0=>dlt
 |j+1=>fun a b=>eQ k A j a b+tQ k A (j+1) a b
def fQ (k:Nat) (A:Nat->Nat->Rat):Nat->Nat->Nat->Rat
 |0=>dlt
 |j+1=>fun a b=>fQ k A j a b+(1/((j+2:Nat):Rat))*tQ k A (j+1) a b
theorem nQ_t {k:Nat} {A:Nat->Nat->Rat} {U:Rat} (h:nQ k A U): ∀j,nQ k (tQ k A j) (rQ U j)
 |0=>zzb
 |j+1=>by
  have:=nQ_sc (zza (nQ_t h j) h) (zlu j).1;rw[show rQ U (j+1)=1/((j+1:Nat):Rat)*(rQ U j*U)from(qU _ _)];exact this
theorem zzt {k:Nat} {A:Nat->Nat->Rat} {U:Rat} (h:nQ k A U) {K:Nat} (hu:U*2<=((K+1:Nat):Rat)) {a b:Nat} (ha:a<=k) (hb:b<=k): ∀d:Nat,
 (zn (eQ k A (K+d) a b-eQ k A K a b)<=rQ U K-rQ U (K+d))/\(zn (fQ k A (K+d) a b-fQ k A K a b)<=rQ U K-rQ U (K+d))
 |0=>by
  constructor<;>
  .rw[qV,qL,qL,zgq];exact q5
 |d+1=>by
  obtain⟨h1,h2⟩:=zzt h hu ha hb d;have ht:=zs9 (nQ_t h (K+d+1)) ha hb;have hr:=znf (zlk h) hu (j:=K+d) (by omega);have hi:=zlu (K+d+1);have hr0:=zel (zlk h) (K+d+1);have e1:eQ k A (K+(d+1)) a b=eQ k A (K+d) a b+tQ k A (K+d+1) a b:=rfl;have e2:fQ k A (K+(d+1)) a b=fQ k A (K+d) a b+(1/((K+d+1+1:Nat):Rat))*tQ k A (K+d+1) a b:=rfl;have hc:zn ((1/((K+d+1+1:Nat):Rat))*tQ k A (K+d+1) a b)<=rQ U (K+d+1):=by
   rw[ue];have e:zn (1/((K+d+1+1:Nat):Rat))=1/((K+d+1+1:Nat):Rat):=by have:=hi.1;unfold zn;split<;>grind
   rw[e];have:=qD hi.2 (zm (tQ k A (K+d+1) a b));grind
  rw[e1,e2,show K+(d+1)=K+d+1 from rfl];generalize (1/((K+d+1+1:Nat):Rat))*tQ k A (K+d+1) a b=y at*;generalize tQ k A (K+d+1) a b=x at*;generalize rQ U (K+d+1)=r1 at*;generalize rQ U (K+d)=r0 at*;generalize eQ k A (K+d) a b=z at*;generalize fQ k A (K+d) a b=w at*;unfold zn at*;constructor
  .split at h1<;>split at ht<;>split<;>grind
  .split at h2<;>split at hc<;>split<;>grind
theorem zxl {e:Iv} (he:VI e) {q:Rat} (h:e.all=true\/(-dv e.hi<=q/\q<=dv e.hi)):inI q (zbj (zbe e) e):=by
 rcases he with k|rfl
 .have hn:KI (zbe e):=by
   have:=zik (.inl k);rw[zgu k]at this⊢;exact(xf this).1 rfl
  rw[k.all]at h;rcases h with c|⟨h1,h2⟩
  .cases c
  unfold zbj;rw[Z4 ((zdw hn.ri k.ri).2 ⟨hn,k⟩),zgu k];right;obtain⟨a1,a2,_⟩:=zgy (yk e.hi) e.lo;obtain⟨b1,b2,_⟩:=zbs (yk e.lo) e.hi;rw[zb2]at a1 b1;constructor
  .show dv (xt (yk e.hi) e.lo)<=q;grind
  .show q<=dv (yx (yk e.lo) e.hi);grind
 .unfold zbj;rw[Z5 (by simp[kB,wI0])];exact zrg _
theorem qhr {n k:Nat} {A D:Nat->Nat->Rat} {m:Mx} (h:inM n k A m) {e:Iv} (he:VI e) (hD: ∀i j,i<n->j<k->e.all=true\/(-dv e.hi<=D i j/\D i j<=dv e.hi)) {p:Int} (hp:pcB p=true):inM n k (fun i j=>A i j+D i j) (arM m e p):=by
 refine⟨zvf h.v he hp,fun i j hi hj=>?_⟩;rw[qc8 h.v hi hj];exact zfb (yt h.v hi hj) (zkd (zik he).ri he.ri) hp (h.i i j hi hj) (zxl he (hD i j hi hj))
theorem inM.cg {n k:Nat} {A B:Nat->Nat->Rat} {m:Mx} (h:inM n k A m) (e: ∀i j,i<n->j<k->A i j=B i j):inM n k B m:=⟨h.v,fun i j hi hj=>by rw[<-e i j hi hj];exact h.i i j hi hj⟩
theorem qhf {j:Nat} (h:1<=j) (h2:j<=1000000) {p:Int} (hp:pcB p=true):inI (1/(j:Rat)) (byI j p):=by
 have:=zn5 (xq (n:=1) (by decide)) (xq (n:=(j:Int)) (by omega)) hp (zcq 1) (zcq (j:Int));rw[qP]at this;simpa[byI]using this
structure sIn (k K:Nat) (A:Nat->Nat->Rat) (U:Rat) (s:MSt) (r:Iv):Prop where
 t:inM (k+1) (k+1) (tQ k A K) s.term
 e:inM (k+1) (k+1) (eQ k A K) s.exp
 f:inM (k+1) (k+1) (fQ k A K) s.phi
 r1:VI r
 r2:inI (rQ U K) r
theorem qek {k K:Nat} {A:Nat->Nat->Rat} {U:Rat} {s:MSt} {r:Iv} (h:sIn k K A U s r) {m:Mx} (hm:inM (k+1) (k+1) A m) {u:Iv} (hu:VI u) (hU:inI U u) {p:Int} (hp:pcB p=true) (hK:K<=100000):
 sIn k (K+1) A U (zee m p (K+1) s) (zvq u p (K+1) r):=by
 have b1:=zfm (k:=K+1) (by omega) (by omega) hp;have b2:=zfm (k:=K+2) (by omega) (by omega) hp;have c1:=qhf (j:=K+1) (by omega) (by omega) hp;have c2:=qhf (j:=K+2) (by omega) (by omega) hp;have ht:=zwc (mu_in h.t hm hp) b1 c1 hp;refine⟨ht,qhu h.e ht hp,qhu h.f (zwc ht b2 c2 hp) hp,wq (wq h.r1 hu hp) b1 hp,?_⟩;exact zcs (wq h.r1 hu hp) b1 hp (zcs h.r1 hu hp h.r2 hU) c1
theorem zys {k:Nat} {A:Nat->Nat->Rat} {U:Rat} {m:Mx} (hm:inM (k+1) (k+1) A m) {u:Iv} (hu:VI u) (hU:inI U u) {p:Int} (hp:pcB p=true): ∀(n K:Nat) (s:MSt) (r:Iv),K+n<=100000->sIn k K A U s r->
 ∃K',K+min n 1<=K'/\K'<=K+n/\sIn k K' A U (xy m u p n (K+1) s r).1 (xy m u p n (K+1) s r).2/\(K'=K+n\/zk2 (xy m u p n (K+1) s r).2 p=true)
 |0,K,s,r,_,h=>⟨K,by omega,by omega,h,.inl rfl⟩
 |n+1,K,s,r,hK,h=>by
  have hs:=qek h hm hu hU hp (by omega);unfold xy;by_cases c:zk2 (zvq u p (K+1) r) p=true
  .rw[Z4 c];exact⟨K+1,by omega,by omega,hs,.inr c⟩
  .rw[Z5 c];obtain⟨K',h1,h2,h3,h4⟩:=zys hm hu hU hp n (K+1) _ _ (by omega) hs;exact⟨K',by omega,by omega,h3,by rcases h4 with h4|h4;exact .inl (by omega);exact .inr h4⟩
def pQ (k:Nat) (A:Nat->Nat->Rat):Nat->Nat->Nat->Rat
 |0=>dlt
 |j+1=>mQ k (pQ k A j) A
theorem qg3 (i:Nat):dlt i i=1:=Z4 rfl
theorem qg4 {i j:Nat} (h:i≠j):dlt i j=0:=Z5 h
theorem zwe {f:Nat->Rat} {j:Nat}: ∀ {k:Nat},sQ (fun r=>f r*dlt r j) k=if j<=k then f j else 0
 |0=>by
  show f 0*dlt 0 j=_;by_cases h:j=0
  .subst h;rw[qg3,Z4 (q6 _),qZ]
  .rw[qg4 (fun c=>h c.symm),Z5 (by omega),wH]
 |k+1=>by
  show sQ (fun r=>f r*dlt r j) k+f (k+1)*dlt (k+1) j=_;rw[zwe];by_cases h:j=k+1
  .subst h;rw[qg3,Z5 (by omega),Z4 (q6 _),qZ,wn]
  .rw[qg4 (fun c=>h c.symm),wH,wi];by_cases h2:j<=k
   .rw[Z4 h2,Z4 (by omega)]
   .rw[Z5 h2,Z5 (by omega)]
theorem qfp {k:Nat} {A:Nat->Nat->Rat} {a b:Nat} (hb:b<=k):mQ k A dlt a b=A a b:=by
 unfold mQ;rw[zwe,Z4 hb]
theorem zw6 {k:Nat} {A B C:Nat->Nat->Rat} {a b:Nat}:mQ k (mQ k A B) C a b=mQ k A (mQ k B C) a b:=by
 unfold mQ;have e1:(fun r=>sQ (fun q=>A a q*B q r) k*C r b)=fun r=>sQ (fun q=>A a q*(B q r*C r b)) k:=by
  funext r
  rw[qU,<-jr];exact yo fun q _=>by grind
 have e2:(fun q=>A a q*sQ (fun r=>B q r*C r b) k)=fun q=>sQ (fun r=>A a q*(B q r*C r b)) k:=by
  funext q;rw[jr]
 rw[e1,e2,zej]
theorem mQ_cg {k:Nat} {A A' B B':Nat->Nat->Rat} {a b:Nat} (h1: ∀r,r<=k->A a r=A' a r) (h2: ∀r,r<=k->B r b=B' r b):mQ k A B a b=mQ k A' B' a b:=yo fun r hr=>by rw[h1 r hr,h2 r hr]
theorem zy6 {k:Nat} {A:Nat->Nat->Rat} {a:Nat} (i:Nat): ∀(j b:Nat),b<=k->mQ k (pQ k A i) (pQ k A j) a b=pQ k A (i+j) a b
 |0,b,hb=>qfp hb
 |j+1,b,hb=>by
  show mQ k (pQ k A i) (mQ k (pQ k A j) A) a b=mQ k (pQ k A (i+j)) A a b;rw[<-zw6];exact mQ_cg (fun r hr=>zy6 i j r hr) fun r _=>rfl
theorem nQ_p {k:Nat} {A:Nat->Nat->Rat} {U:Rat} (h:nQ k A U): ∀j,nQ k (pQ k A j) (rpw U j)
 |0=>zzb
 |j+1=>by
  have:=zza (nQ_p h j) h;rw[show rpw U (j+1)=rpw U j*U from rfl];exact this
theorem zso (U:Rat) (i:Nat): ∀j,rpw U (i+j)=rpw U i*rpw U j
 |0=>(qZ _).symm
 |j+1=>by
  show rpw U (i+j)*U=rpw U i*(rpw U j*U);rw[zso U i j];grind
def gQ (c:Nat->Rat) (k:Nat) (A:Nat->Nat->Rat) (n:Nat):Nat->Nat->Rat:=fun a b=>sQ (fun i=>c i*pQ k A i a b) n
theorem zig (x U:Rat): ∀i,rQ x i*rpw U i=rQ (x*U) i
 |0=>by exact qK 1
 |i+1=>by
  have ih:=zig x U i;have e:rpw U (i+1)=rpw U i*U:=rfl;rw[e];unfold rQ;rw[<-ih];grind
theorem qgi {c:Nat->Rat} {k:Nat} {A:Nat->Nat->Rat} {U x C:Rat} (h:nQ k A U) (hc: ∀i,zn (c i)<=C*rQ x i) {a b:Nat} (ha:a<=k) (hb:b<=k) (i:Nat):zn (c i*pQ k A i a b)<=C*rQ (x*U) i:=by
 rw[ue,<-zig];have:=zac (zm _) (hc i) (zm _) (zs9 (nQ_p h i) ha hb);grind
theorem zzp {c:Nat->Rat} {k:Nat} {A:Nat->Nat->Rat} {U x C:Rat} (h:nQ k A U) (hx:0<=x) (hC:0<=C) (hc: ∀i,zn (c i)<=C*rQ x i) {a b:Nat} (ha:a<=k) (hb:b<=k):Bnd fun n=>gQ c k A n a b:=
 ((zih (qB hx (zlk h))).sc hC).of fun i=>qgi h hc ha hb i
theorem zzo {c d:Nat->Rat} {k:Nat} {A:Nat->Nat->Rat} {U x y C D:Rat} (h:nQ k A U) (hx:0<=x) (hy:0<=y) (hC:0<=C) (hD:0<=D) (hc: ∀i,zn (c i)<=C*rQ x i) (hd: ∀i,zn (d i)<=D*rQ y i) {a b:Nat} (ha:a<=k) (hb:b<=k):
 Nul fun n=>mQ k (gQ c k A n) (gQ d k A n) a b-gQ (fun q=>sQ (fun i=>c i*d (q-i)) q) k A n a b:=by
 have hU:=zlk h;have hp: ∀i j,zn (c i*d j*pQ k A (i+j) a b)<=C*rQ (x*U) i*(D*rQ (y*U) j):=fun i j=>by
  have h1:=zs9 (nQ_p h (i+j)) ha hb;have e: ∀i,rpw U (i+j)=rpw U i*rpw U j:=fun i=>zso U i j
  rw[e]at h1;rw[ue,ue,<-zig,<-zig];have h2:=zac (zm (c i)) (hc i) (zm (d j)) (hd j);have h3:=zac (qB (zm (c i)) (zm (d j))) h2 (zm _) h1;grind
 have h1:=zzz (f:=fun i j=>c i*d j*pQ k A (i+j) a b) ((zih (qB hx hU)).sc hC) ((zih (qB hy hU)).sc hD) hp;refine h1.cg fun n=>?_
 have e1:sQ (fun i=>sQ (fun j=>c i*d j*pQ k A (i+j) a b) n) n=mQ k (gQ c k A n) (gQ d k A n) a b:=by
  have e2:(fun i=>sQ (fun j=>c i*d j*pQ k A (i+j) a b) n)=fun i=>sQ (fun r=>(c i*pQ k A i a r)*gQ d k A n r b) k:=by
   funext i
   have e3:(fun r=>(c i*pQ k A i a r)*gQ d k A n r b)=fun r=>sQ (fun j=>c i*d j*(pQ k A i a r*pQ k A j r b)) n:=by
    funext r
    unfold gQ;rw[<-jr];exact yo fun j _=>by grind
   rw[e3,zej];exact yo fun j _=>by
    rw[jr];have:=zy6 (k:=k) (A:=A) (a:=a) i j b hb;unfold mQ at this;rw[this]
  rw[e2,zej];unfold mQ;exact yo fun r _=>by
   show sQ (fun i=>c i*pQ k A i a r*gQ d k A n r b) n=gQ c k A n a r*gQ d k A n r b;rw[qU (gQ c k A n a r)];show _=gQ d k A n r b*sQ (fun i=>c i*pQ k A i a r) n;rw[<-jr];exact yo fun i _=>by grind
 have e4:trQ (fun i j=>c i*d j*pQ k A (i+j) a b) n=gQ (fun q=>sQ (fun i=>c i*d (q-i)) q) k A n a b:=by
  unfold trQ gQ;exact yo fun q _=>by
   rw[qU,<-jr];exact yo fun i hi=>by
    show c i*d (q-i)*pQ k A (i+(q-i)) a b=pQ k A q a b*(c i*d (q-i));rw[show i+(q-i)=q by omega];grind
 rw[e1,e4]
def xQ (k:Nat) (A:Nat->Nat->Rat) (t:Rat) (n:Nat):Nat->Nat->Rat:=gQ (rQ t) k A n
def yQ (k:Nat) (A:Nat->Nat->Rat) (t:Rat) (n:Nat):Nat->Nat->Rat:=gQ (fun i=>rQ t (i+1)) k A n
theorem cx (t:Rat) (i:Nat):zn (rQ t i)<=1*rQ (zn t) i:=by rw[ze8,qK];exact q5
theorem rQ_1 {u:Rat} (hu:0<=u) (i:Nat):rQ u (i+1)<=u*rQ u i:=by
 have h1:=zlu i;have h2:=zel hu i;have h3:=q0 h1.2 (qB h2 hu);rw[show rQ u (i+1)=rQ u i*u*(1/((i+1:Nat):Rat))from rfl];generalize 1/((i+1:Nat):Rat)=c at*;generalize rQ u i=q at*;grind
theorem cy (t:Rat) (i:Nat):zn (rQ t (i+1))<=zn t*rQ (zn t) i:=by rw[ze8];exact rQ_1 (zm t) i
section
variable {k:Nat} {A:Nat->Nat->Rat} {U:Rat} (h:nQ k A U) {a b:Nat} (ha:a<=k) (hb:b<=k)
include h ha hb
theorem zoe (t:Rat):Bnd fun n=>xQ k A t n a b:=zzp h (zm t) (by decide) (cx t) ha hb
theorem qdz (t:Rat):Bnd fun n=>yQ k A t n a b:=zzp h (zm t) (zm t) (cy t) ha hb
theorem zyg (s t:Rat):Nul fun n=>mQ k (xQ k A s n) (xQ k A t n) a b-xQ k A (s+t) n a b:=by
 refine(zzo h (zm s) (zm t) (by decide) (by decide) (cx s) (cx t) ha hb).cg fun n=>?_
 have:gQ (fun q=>sQ (fun i=>rQ s i*rQ t (q-i)) q) k A n a b=xQ k A (s+t) n a b:=yo fun q _=>by
  show sQ (fun i=>rQ s i*rQ t (q-i)) q*_=_;rw[zo1]
 rw[this];rfl
theorem qdy (t:Rat):Nul fun n=>yQ k A t n a b+mQ k (xQ k A t n) (yQ k A t n) a b-yQ k A (t+t) n a b:=by
 refine(zzo h (zm t) (zm t) (by decide) (zm t) (cx t) (cy t) ha hb).cg fun n=>?_
 have:gQ (fun q=>sQ (fun i=>rQ t i*rQ t (q-i+1)) q) k A n a b=yQ k A (t+t) n a b-yQ k A t n a b:=by
  unfold yQ gQ;rw[<-zoy];exact yo fun q _=>by
   have h1:=zo1 t t (q+1);have h2:sQ (fun i=>rQ t i*rQ t (q+1-i)) (q+1)=sQ (fun i=>rQ t i*rQ t (q-i+1)) q+rQ t (q+1):=by
    show sQ (fun i=>rQ t i*rQ t (q+1-i)) q+rQ t (q+1)*rQ t (q+1-(q+1))=_;rw[w9,show rQ t 0=1 from rfl,qZ]
    congr 1
    exact yo fun i hi=>by rw[show q+1-i=q-i+1 by omega]
   rw[h2]at h1;grind
 rw[this];show mQ k (xQ k A t n) (yQ k A t n) a b-(yQ k A (t+t) n a b-yQ k A t n a b)=_;grind
end
theorem qan {k:Nat} {A:Nat->Nat->Rat} {h:Rat}: ∀(i a b:Nat),tQ k (fun i j=>h*A i j) i a b=rQ h i*pQ k A i a b
 |0,a,b=>by show dlt a b=1*dlt a b;rw[qK]
 |i+1,a,b=>by
  show(1/((i+1:Nat):Rat))*mQ k (tQ k (fun i j=>h*A i j) i) (fun i j=>h*A i j) a b=_;have:mQ k (tQ k (fun i j=>h*A i j) i) (fun i j=>h*A i j) a b=(rQ h i*h)*mQ k (pQ k A i) A a b:=by
   unfold mQ;rw[<-jr];exact yo fun r _=>by rw[qan i a r];grind
  rw[this];show _=rQ h i*h*(1/((i+1:Nat):Rat))*mQ k (pQ k A i) A a b;generalize 1/((i+1:Nat):Rat)=c;generalize rQ h i=q;grind
theorem eQ_x {k:Nat} {A:Nat->Nat->Rat} {h:Rat} {a b:Nat}: ∀n,eQ k (fun i j=>h*A i j) n a b=xQ k A h n a b
 |0=>by show dlt a b=1*dlt a b;rw[qK]
 |n+1=>by
  show eQ k (fun i j=>h*A i j) n a b+tQ k (fun i j=>h*A i j) (n+1) a b=xQ k A h n a b+rQ h (n+1)*pQ k A (n+1) a b;rw[eQ_x n,qan]
theorem fQ_y {k:Nat} {A:Nat->Nat->Rat} {h:Rat} {a b:Nat}: ∀n,h*fQ k (fun i j=>h*A i j) n a b=yQ k A h n a b
 |0=>by
  show h*dlt a b=rQ h 1*dlt a b;have:rQ h 1=h:=by
   show(1:Rat)*h*(1/((0+1:Nat):Rat))=h;rw[show(1/((0+1:Nat):Rat))=1 from by rw[show((0+1:Nat):Rat)=1 from rfl];grind];grind
  rw[this]
 |n+1=>by
  show h*(fQ k (fun i j=>h*A i j) n a b+(1/((n+2:Nat):Rat))*tQ k (fun i j=>h*A i j) (n+1) a b)=yQ k A h n a b+rQ h (n+1+1)*pQ k A (n+1) a b;have ih:=fQ_y (k:=k) (A:=A) (h:=h) (a:=a) (b:=b) n;rw[qan,show rQ h (n+1+1)=rQ h (n+1)*h*(1/((n+1+1:Nat):Rat))from rfl];grind
theorem zsp {p:Int} (hp:pcB p=true) {f:Nat->Rat}: ∀(r:List Iv) (s S:Dy) (d:Nat),(∀x∈r,VI x)->VD s->(∀i x,r[i]? =some x->inI (f (d+i)) x)->zft p r s=some S->r≠ []->dv s+sQ (fun i=>zn (f (d+i))) (r.length-1)<=dv S
 | [],_,_,_,_,_,_,_,h=>absurd rfl h
 |x::r,s,S,d,hx,hs,hf,h,_=>by
  unfold zft at h;split at h
  .rename_i c;have k:=(qa (hx x (by simp)).ri).1 c.1;have R1:=((zb6 hs (zaf k) (qs hp)).2.1 c.2).1;have h1:dv s+dv (jk x)<=dv (zay s (jk x) p.toNat true).1:=R1;have h2:zn (f d)<=dv (jk x):=by
    have:=hf 0 x rfl;rcases this with e|⟨e1,e2⟩
    .rw[k.all]at e;cases e
    .exact(zmp k e1 e2).2.2
   cases r with
   |nil=>
    cases h
    show dv s+zn (f (d+0))<=_;rw[qV];grind
   |cons y r=>
    have ih:=zsp hp (f:=f) (y::r) _ S (d+1) (fun z hz=>hx z (qA _ hz)) (zfc _ _ _ _ (qs hp)) (fun i z hz=>by
     have:=hf (i+1) z hz;rw[show d+1+i=d+(i+1) by omega];exact this) h (by simp)
    have e:sQ (fun i=>zn (f (d+i))) ((x::y::r).length -1)=zn (f d)+sQ (fun i=>zn (f (d+1+i))) ((y::r).length -1):=by
     show sQ (fun i=>zn (f (d+i))) (r.length+1)=zn (f d)+sQ (fun i=>zn (f (d+1+i))) r.length;rw[zjq];show zn (f (d+0))+_=_;rw[qV]
     congr 1
     exact yo fun i _=>by rw[show d+1+i=d+(i+1) by omega]
    rw[e];grind
  .cases h
theorem nm_in {n k:Nat} {A:Nat->Nat->Rat} {m:Mx} (h:inM n (k+1) A m) (hn:k+1<=n) {p:Int} (hp:pcB p=true) {D:Dy} (hD:nmM m p=(D,true)):nQ k A (dv D):=fun i hi=>by
 unfold nmM at hD;rw[Z4 (by rw[h.v.ok,hp];rfl)]at hD;split at hD
 .rename_i d hd;cases hD
  obtain⟨_,_,a3⟩:=zj2 hp m d0 D h.v.el qb hd;obtain⟨r,hr,hm⟩: ∃r,m[i]? =some r/\r∈m:=⟨m[i]'(by rw[h.v.len];omega),q9 (by rw[h.v.len];omega),qJ _⟩;obtain⟨s,hs,hle⟩:=a3 r hm;have hl:=h.v.row r hm;have:=zsp hp (f:=fun j=>A i j) r d0 s 0 (h.v.el r hm) qb (fun j x hx=>by
   have hj:=(qO.1 hx).1;have h1:=h.i i j (by omega) (by omega);rw[zez hr hx]at h1;rw[w5];exact h1) hs (by intro c;subst c;simp at hl)
  rw[yz,hl,wn]at this;simp only[w5]at this;exact q8 this hle
 .cases hD
theorem zyx {p:Int} (hp:pcB p=true): ∀(r:List Iv) (s:Dy) (c:Nat),(∀x∈r,kI (pw (-1)) x)->VD s->dv s<=vN c (-1)->c+r.length<=200-> ∃S,zft p r s=some S
 | [],s,c,_,_,_,_=>⟨s,rfl⟩
 |x::r,s,c,hx,hs,h1,hc=>by
  have hb:=hx x (by simp);have k:=hb.k;have hm:=(zph hb.b k).2.1;have hF:=zzn (p:=p.toNat) (qs hp).1 (c:=c+1) (by simp at hc;omega);have R1:=(zb6 hs (zaf k) (qs hp)).2.2 (vN (c+1) (-1)) (.inl hF) (by show dv s+dv (jk x)<=_;rw[zri];grind);obtain⟨S,hS⟩:=zyx hp r _ (c+1) (fun y hy=>hx y (qA _ hy)) (zfc _ _ _ _ (qs hp)) R1.2 (by simp at hc;omega);refine⟨S,?_⟩;unfold zft;rw[Z4 ⟨(qa k.ri).2 k,R1.1⟩];exact hS
theorem qe8 {n k:Nat} {m:Mx} (v:VM n k m) (h: ∀r∈m,∀x∈r,kI (pw (-1)) x) {p:Int} (hp:pcB p=true): ∃D,nmM m p=(D,true):=by
 have key: ∀(m:Mx) (D:Dy),(∀r∈m,∀x∈r,kI (pw (-1)) x)->(∀r∈m,r.length<=8)-> ∃E,nmG p m D=some E:=by
  intro m
  induction m with
  |nil=>exact fun D _ _=>⟨D,rfl⟩
  |cons r m ih=>
   intro D h hl;obtain⟨S,hS⟩:=zyx hp r d0 0 (h r (by simp)) qb (by rw[yz];exact zda _ _) (by have:=hl r (by simp);omega);unfold nmG;rw[hS];exact ih _ (fun r hr=>h r (qA _ hr)) fun r hr=>hl r (qA _ hr)
 obtain⟨E,hE⟩:=key m d0 h fun r hr=>by rw[v.row r hr];exact v.k1.2
 exact⟨E,by unfold nmM;rw[Z4 (by rw[v.ok,hp];rfl),hE]⟩
theorem zhy {x y:Iv} (hx:VI x) (hy:VI y) {p:Int} (h:x.all=true\/y.all=true):(ka x y p).all =true:=by
 rw[qc9 hx.ri hy.ri fun c=>by rcases h with h|h;rw[c.1.all]at h;cases h;rw[c.2.all]at h;cases h];rfl
theorem znn {x y:Iv} (hx:VI x) (hy:VI y) {p:Int} (h:x.all=true\/y.all=true):(wu x y p).all =true:=by
 rw[zw2 hx.ri hy.ri fun c=>by rcases h with h|h;rw[c.1.all]at h;cases h;rw[c.2.all]at h;cases h];rfl
theorem zuo {p:Int} (hp:pcB p=true) {f g:Nat->Iv}: ∀(k i:Nat),(∀i,i<=k->VI (f i))->(∀i,i<=k->VI (g i))->i<=k->(f i).all =true\/(g i).all =true->(dtF p f g k).all =true
 |0,i,hf,hg,hi,h=>by
  obtain rfl:i=0:=by omega
  exact znn (hf 0 (q6 _)) (hg 0 (q6 _)) h
 |k+1,i,hf,hg,hi,h=>by
  have v1:=(qck hp (f:=f) (g:=g) (a:=fun i=>dv (f i).lo) (b:=fun i=>dv (g i).lo) k (fun i hi=>⟨hf i (by omega),znt (hf i (by omega))⟩) fun i hi=>⟨hg i (by omega),znt (hg i (by omega))⟩).1;have v2:=wq (hf (k+1) (q6 _)) (hg (k+1) (q6 _)) hp;by_cases e:i=k+1
  .subst e;exact zhy v1 v2 (.inr (znn (hf _ (q6 _)) (hg _ (q6 _)) h))
  .exact zhy v1 v2 (.inl (zuo hp k i (fun i hi=>hf i (by omega)) (fun i hi=>hg i (by omega)) (by omega) h))
theorem zox {x:Iv} (hx:VI x) {j:Int} {q:Rat} (h:inI q x):inI (q*pw j) (zu x j):=by
 unfold zu;by_cases c:kB x=true
 .rw[Z4 c];have k:=(qa hx.ri).1 c;rcases h with e|⟨h1,h2⟩
  .rw[k.all]at e;cases e
  cases ha:(jy (vn x.lo j) (vn x.hi j)).all with
  |true=>exact .inl ha
  |false=>
   obtain⟨o1,o2⟩:=ye.1 ha;right;rw[za5 ha];have e1:=zb8 o1;have e2:=zb8 o2;show dv (vn x.lo j).1<=_/\_<=dv (vn x.hi j).1;rw[e1,e2];exact⟨vg h1 (yw j),vg h2 (yw j)⟩
 .rw[Z5 c];exact zrg _
theorem qem {k:Nat} {A:Nat->Nat->Rat} {a:Mx} (ha:inM (k+1) (k+1) A a) {hI:Iv} (vh:VI hI) {h:Rat} (hh:inI h hI) {q:Int} (hq:pcB q=true) {D:Dy} (hD:nmM (scM a hI q) q=(D,true)) (hu:dv D*2<=3):
 ∃K:Nat,∀N,K<=N->inM (k+1) (k+1) (xQ k A h N) (zm1 (scM a hI q) hI q).exp /\inM (k+1) (k+1) (yQ k A h N) (zm1 (scM a hI q) hI q).phi :=by
 have hm:=zwc ha vh hh hq;have hU:=nm_in hm (q6 _) hq hD;have hDv:=zj4 (a:=scM a hI q) (p:=q) hm.v.el;rw[hD]at hDv;have hui:VI (zd D):= .inl (zbc hDv.1);have hUi:inI (dv D) (zd D):= .inr ⟨q5,q5⟩;have hid:=id_in hm.v.n1;obtain⟨K,k1,k2,hs,hst⟩:=zys hm hui hUi hq 700 0 ⟨idM (k+1),idM (k+1),idM (k+1)⟩ (whI 1) (by omega) ⟨hid,hid,hid,xq (by decide),zcq 1⟩;have e:zm1 (scM a hI q) hI q=⟨arM (xy (scM a hI q) (zd D) q 700 1 ⟨idM (k+1),idM (k+1),idM (k+1)⟩ (whI 1)).1.exp (xy (scM a hI q) (zd D) q 700 1 ⟨idM (k+1),idM (k+1),idM (k+1)⟩ (whI 1)).2 q,scM (arM (xy (scM a hI q) (zd D) q 700 1 ⟨idM (k+1),idM (k+1),idM (k+1)⟩ (whI 1)).1.phi (xy (scM a hI q) (zd D) q 700 1 ⟨idM (k+1),idM (k+1),idM (k+1)⟩ (whI 1)).2 q) hI q⟩:=by
  unfold zm1;rw[hD,hm.v.len]
 rw[e];have hs:sIn k K (fun i j=>h*A i j) (dv D) (xy (scM a hI q) (zd D) q 700 1 ⟨idM (k+1),idM (k+1),idM (k+1)⟩ (whI 1)).1 (xy (scM a hI q) (zd D) q 700 1 ⟨idM (k+1),idM (k+1),idM (k+1)⟩ (whI 1)).2:=hs;have hst:K=0+700\/zk2 (xy (scM a hI q) (zd D) q 700 1 ⟨idM (k+1),idM (k+1),idM (k+1)⟩ (whI 1)).2 q=true:=hst;generalize xy (scM a hI q) (zd D) q 700 1 ⟨idM (k+1),idM (k+1),idM (k+1)⟩ (whI 1)=S at*;obtain⟨s,r⟩:=S;simp only at hs hst⊢;have hK1:1<=K:=by simp at k1;omega
 refine⟨K,fun N hN=>?_⟩;obtain⟨d,rfl⟩:=qC hN;have hall: ∀i j,i<k+1->j<k+1->(r.all=true\/(-dv r.hi<=eQ k (fun i j=>h*A i j) (K+d) i j-eQ k (fun i j=>h*A i j) K i j/\eQ k (fun i j=>h*A i j) (K+d) i j-eQ k (fun i j=>h*A i j) K i j<=dv r.hi))/\
  (r.all=true\/(-dv r.hi<=fQ k (fun i j=>h*A i j) (K+d) i j-fQ k (fun i j=>h*A i j) K i j/\fQ k (fun i j=>h*A i j) (K+d) i j-fQ k (fun i j=>h*A i j) K i j<=dv r.hi)):=fun i j hi hj=>by
  cases hra:r.all with
  |true=>exact⟨.inl rfl,.inl rfl⟩
  |false=>
   have hr2:=hs.r2;rcases hr2 with c|⟨_,c⟩
   .rw[hra]at c;cases c
   have hU2:dv D*2<=((K+1:Nat):Rat):=by
    by_cases hK2:2<=K
    .have h3:((3:Nat):Rat)<=((K+1:Nat):Rat):=q7.2 (by omega);exact q8 hu h3
    .obtain rfl:K=1:=by omega
     rcases hst with c2|c2
     .omega
     .have hU1:dv D<=dv r.hi:=by
       have e1:rQ (dv D) 1=dv D:=by
        show(1:Rat)*dv D*(1/((0+1:Nat):Rat))=dv D;rw[show(1/((0+1:Nat):Rat))=1 from by rw[show((0+1:Nat):Rat)=1 from rfl];grind];grind
       rw[e1]at c;exact c
      have hr1:dv r.hi<=1:=by
       unfold zk2 at c2;rw[hra]at c2;simp only[Bool.false_or,wD,Z2]at c2;rcases c2 with c2|c2
       .have:=(zfp r.hi).2.2.1 c2;rw[this];decide
       .by_cases hn:nm r.hi=0
        .rw[zho hn];decide
        .have h5:=(zpv hn).2;have hp8:8<=q:=by
          obtain⟨q',rfl,hq'⟩:=kp.1 hq;omega
         have h6:pw (zy r.hi)<=pw 0:=xk.2 (by omega);have h7:pw 0=1:=by rw[show(0:Int)=((0:Nat):Int)from rfl,vj];rfl
         rw[h7]at h6;exact q8 h5 h6
      have:((1+1:Nat):Rat)=2:=rfl;rw[this];grind
   obtain⟨t1,t2⟩:=zzt hU hU2 (show i<=k by omega) (show j<=k by omega) d;have t3:=zel (zlk hU) (K+d);exact⟨.inr ⟨by have:=(jn.1 t1).1;grind,by have:=(jn.1 t1).2;grind⟩,.inr ⟨by have:=(jn.1 t2).1;grind,by have:=(jn.1 t2).2;grind⟩⟩
 have a1:=qhr hs.e (D:=fun i j=>eQ k (fun i j=>h*A i j) (K+d) i j-eQ k (fun i j=>h*A i j) K i j) hs.r1 (fun i j hi hj=>(hall i j hi hj).1) hq;have a2:=qhr hs.f (D:=fun i j=>fQ k (fun i j=>h*A i j) (K+d) i j-fQ k (fun i j=>h*A i j) K i j) hs.r1 (fun i j hi hj=>(hall i j hi hj).2) hq;refine⟨a1.cg fun i j _ _=>?_,(zwc a2 vh hh hq).cg fun i j _ _=>?_⟩
 .show eQ k (fun i j=>h*A i j) K i j+(eQ k (fun i j=>h*A i j) (K+d) i j-eQ k (fun i j=>h*A i j) K i j)=_;rw[<-eQ_x (h:=h) (A:=A) (K+d)];grind
 .show h*(fQ k (fun i j=>h*A i j) K i j+(fQ k (fun i j=>h*A i j) (K+d) i j-fQ k (fun i j=>h*A i j) K i j))=_;rw[<-fQ_y (h:=h) (A:=A) (K+d)];grind
structure liM (k:Nat) (S:Nat->Nat->Nat->Rat) (m:Mx):Prop where
 v:VM (k+1) (k+1) m
 l: ∀i j,i<=k->j<=k->lI (fun N=>S N i j) (atM m i j)
theorem zzi {k:Nat} {S:Nat->Nat->Nat->Rat} {m:Mx} (v:VM (k+1) (k+1) m) {K:Nat} (h: ∀N,K<=N->inM (k+1) (k+1) (S N) m):liM k S m:=
 ⟨v,fun i j hi hj=>ztq K fun N hN=>(h N hN).i i j (by omega) (by omega)⟩
theorem qfz {p:Int} (hp:pcB p=true) {f g:Nat->Iv} {a b:Nat->Nat->Rat}: ∀k:Nat,(∀i,i<=k->VI (f i)/\lI (a i) (f i)/\Bnd (a i))->(∀i,i<=k->VI (g i)/\lI (b i) (g i)/\Bnd (b i))->
 VI (dtF p f g k)/\lI (fun N=>sQ (fun i=>a i N*b i N) k) (dtF p f g k)
 |0,hf,hg=>by
  obtain⟨f1,f2,f3⟩:=hf 0 (q6 _);obtain⟨g1,g2,g3⟩:=hg 0 (q6 _);exact⟨wq f1 g1 hp,ztr f1 g1 hp f2 g2 f3 g3⟩
 |k+1,hf,hg=>by
  obtain⟨h1,h2⟩:=qfz hp k (fun i hi=>hf i (by omega)) (fun i hi=>hg i (by omega));obtain⟨f1,f2,f3⟩:=hf (k+1) (q6 _);obtain⟨g1,g2,g3⟩:=hg (k+1) (q6 _);exact⟨zcu h1 (wq f1 g1 hp) hp,ztt h1 (wq f1 g1 hp) hp h2 (ztr f1 g1 hp f2 g2 f3 g3)⟩
theorem ztj {k:Nat} {S T:Nat->Nat->Nat->Rat} {x y:Mx} (hx:liM k S x) (hy:liM k T y) (bs: ∀i j,i<=k->j<=k->Bnd fun N=>S N i j) (bt: ∀i j,i<=k->j<=k->Bnd fun N=>T N i j) {p:Int} (hp:pcB p=true):
 liM k (fun N=>mQ k (S N) (T N)) (muM x y p).1:=by
 refine⟨(zh2 hx.v hy.v hp).2,fun i j hi hj=>?_⟩;rw[zva hx.v hy.v hp (by omega) (by omega)];exact(qfz hp (a:=fun r N=>S N i r) (b:=fun r N=>T N r j) k (fun r hr=>⟨yt hx.v (by omega) (by omega),hx.l i r hi hr,bs i r hi hr⟩) fun r hr=>⟨yt hy.v (by omega) (by omega),hy.l r j hr hj,bt r j hr hj⟩).2
theorem qbu {k:Nat} {S T:Nat->Nat->Nat->Rat} {x y:Mx} (hx:liM k S x) (hy:liM k T y) {p:Int} (hp:pcB p=true):liM k (fun N i j=>S N i j+T N i j) (adM x y p).1:=by
 refine⟨(ze1 hx.v hy.v hp).2,fun i j hi hj=>?_⟩;rw[zve hx.v hy.v hp (by omega) (by omega)];exact ztt (yt hx.v (by omega) (by omega)) (yt hy.v (by omega) (by omega)) hp (hx.l i j hi hj) (hy.l i j hi hj)
theorem liM.nul {k:Nat} {S T:Nat->Nat->Nat->Rat} {x:Mx} (hx:liM k S x) (h: ∀i j,i<=k->j<=k->Nul fun N=>S N i j-T N i j):liM k T x:=⟨hx.v,fun i j hi hj=>(hx.l i j hi hj).nul (h i j hi hj)⟩
theorem zzh {k:Nat} {S:Nat->Nat->Nat->Rat} {x:Mx} (hx:liM k S x) (p:Int):liM k S (rdM x p):=by
 refine⟨znc hx.v p,fun i j hi hj=>?_⟩;rw[qc7 hx.v (by omega) (by omega)];exact qfy (fun q hq=>zgm (yt hx.v (by omega) (by omega)) hq) (hx.l i j hi hj)
theorem qg7 {k:Nat} {A:Nat->Nat->Rat} {U:Rat} (hU:nQ k A U) {t:Rat} {x:MPr} (h1:liM k (xQ k A t) x.exp) (h2:liM k (yQ k A t) x.phi) {q:Int} (hq:pcB q=true):liM k (xQ k A (t+t)) (zq1 q x).exp /\liM k (yQ k A (t+t)) (zq1 q x).phi :=by
 have bx: ∀i j,i<=k->j<=k->Bnd fun N=>xQ k A t N i j:=fun i j hi hj=>zoe hU hi hj t
 have by': ∀i j,i<=k->j<=k->Bnd fun N=>yQ k A t N i j:=fun i j hi hj=>qdz hU hi hj t
 exact⟨(ztj h1 h1 bx bx hq).nul fun i j hi hj=>zyg hU hi hj t t,(qbu h2 (ztj h1 h2 bx by' hq) hq).nul fun i j hi hj=>qdy hU hi hj t⟩
theorem zus {k:Nat} {A:Nat->Nat->Rat} {U:Rat} (hU:nQ k A U) {q:Int} (hq:pcB q=true): ∀(s:Nat) (t:Rat) (x:MPr),liM k (xQ k A t) x.exp->liM k (yQ k A t) x.phi->liM k (xQ k A (t*pw (s:Int))) (zn6 q s x).exp /\liM k (yQ k A (t*pw (s:Int))) (zn6 q s x).phi
 |0,t,x,h1,h2=>by
  have e:t*pw ((0:Nat):Int)=t:=by rw[vj];simp
  rw[e];exact⟨h1,h2⟩
 |s+1,t,x,h1,h2=>by
  obtain⟨d1,d2⟩:=qg7 hU h1 h2 hq;have:=zus hU hq s (t+t) (zq1 q x) d1 d2;have e:(t+t)*pw (s:Int)=t*pw ((s+1:Nat):Int):=by
   have:pw ((s+1:Nat):Int)=pw (s:Int)*2:=by
    have e1:pw 1=2:=by
     have:=vj 1;exact this
    rw[show((s+1:Nat):Int)=(s:Int)+1 from rfl,pwA,e1]
   rw[this];grind
  rw[e]at this;exact this
