/- Matrices of intervals, exponential functions of matrices: plain functions; the series ends. -/
import Derived.Test.YtbolipecnhlnnaaGreatDoorLXa
set_option linter.all false
open Bool renaming not_eq_true'->qX,not_eq_false->w6,and_eq_true->wn,or_eq_true->wB
open List renaming getElem?_eq_getElem->q9,mem_cons_of_mem->qA,getElem?_map->qE,mem_map->qG,getElem?_mapIdx->qI,getElem_mem->qJ,mem_of_getElem?->qL,getElem?_eq_some_iff->qO,getElem?_of_mem->qR,getElem?_range->qT,range->w0,length_mapIdx->w5,any_eq_true->ws,mem_cons->wD
open Nat renaming le_refl->q5,exists_eq_add_of_le->qD,add_zero->qV,zero_add->w4,sub_self->w8,le_trans->wE,zero_le->wH
open Option renaming getD_some->qZ,map_eq_some_iff->w3
open Rat renaming mul_le_mul_of_nonneg_left->q0,le_refl->q6,natCast_le_natCast->q7,le_trans->q8,mul_nonneg->qB,mul_le_mul_of_nonneg_right->qC,le_of_lt->qF,mul_inv_cancel->qH,one_mul->qK,le_of_mul_le_mul_right->qM,sub_self->qN,intCast_natCast->qP,div_def->qQ,natCast_pos->qS,mul_comm->qU,inv_pos->qW,mul_one->qY,zero_mul->w7,add_zero->w9,zero_add->wi,neg_neg->wA,natCast_add->wC,le_total->wF,mul_zero->wG
namespace Go.Proofs.YtbolipecnhlnnaaGreatDoor
open Go Go.Sx
set_option maxHeartbeats 2000000
abbrev Mx:=List (List Iv)
def hdL(m:Mx):Nat:=(m.headD []).length
def vmB(m:Mx):Bool:=(decide (1<=m.length/\m.length<=8)&&decide (1<=hdL m/\hdL m<=8))&& !(m.any fun r=>decide (r.length≠hdL m)||r.any fun x=> !viB x)
def xt(f:Nat->Nat->Iv->Iv)(m:Mx):Mx:=m.mapIdx fun i r=>r.mapIdx fun j x=>f i j x
def atM(m:Mx)(i j:Nat):Iv:=((m[i]?.getD [])[j]?).getD zI
def idM(n:Nat):Mx:=if n<1\/8<n then []else(w0 n).map fun i=>(w0 n).map fun j=>whI (if i=j then 1 else 0)
def scM(a:Mx)(x:Iv)(p:Int):Mx:=if(vmB a&&viB x&&pcB p)=true then xt (fun _ _ y=>kf x y p) a else []
def adM(a b:Mx)(p:Int):Mx×Int:=
 if(vmB a&&vmB b)=false then([],1)else if pcB p=false then([],2)else if a.length≠b.length\/hdL a≠hdL b then([],3)else(xt (fun i j x=>yp x (atM b i j) p) a,0)
def dtG(p:Int):List Iv->List Iv->Iv->Iv
 |r::rs,c::cs,o=>dtG p rs cs (yp o (kf r c p) p)
 | _,_,o=>o
def dtM(p:Int):List Iv->List Iv->Iv
 |r::rs,c::cs=>dtG p rs cs (kf r c p)
 | _,_=>zI
def zdm(b:Mx)(j:Nat):List Iv:=b.map fun r=>(r[j]?).getD zI
def muM(a b:Mx)(p:Int):Mx×Int:=
 if(vmB a&&vmB b)=false then([],1)else if pcB p=false then([],2)else if hdL a≠b.length then([],3)else(a.map fun r=>(w0 (hdL b)).map fun j=>dtM p r (zdm b j),0)
def zgi(p:Int):List Iv->Dy->Option Dy
 | [],s=>some s
 |x::r,s=>if kB x=true/\(za7 s (zdn x) p.toNat true).2=0 then zgi p r (za7 s (zdn x) p.toNat true).1 else none
def nmG(p:Int):Mx->Dy->Option Dy
 | [],m=>some m
 |r::rs,m=>match zgi p r d0 with
  |none=>none
  |some s=>nmG p rs (if 0<qh s m then s else m)
def nmM(a:Mx)(p:Int):Dy×Bool:=if(vmB a&&pcB p)=true then(match nmG p a d0 with|some d=>(d,true)|none=>(d0,false))else(d0,false)
def arM(m:Mx)(e:Iv)(p:Int):Mx:=m.map fun r=>r.map fun y=>yp y (zbr (ze6 e) e) p
def knM(m:Mx):Bool:= !(m.any fun r=>r.any fun x=>x.all)&&decide (0<m.length)
def rdM(m:Mx)(p:Int):Mx:=m.map fun r=>r.map fun x=>ux x p
def rsI(u:Iv)(p:Int):Nat->Iv
 |0=>whI 1
 |k+1=>kf (kf (rsI u p k) u p) (ze9 (whI 1) (whI ((k+1:Nat):Int)) p) p
def zlp(x:Iv)(p:Int):Bool:=x.all||decide (jh x.hi=0)||decide (qd x.hi< -p-8)
structure MSt where
 term:Mx
 exp:Mx
 phi:Mx
def stM(m:Mx)(p:Int):Nat->MSt
 |0=>⟨idM m.length,idM m.length,idM m.length⟩
 |k+1=>
  let s:=stM m p k
  let t:=scM (muM s.term m p).1 (ze9 (whI 1) (whI ((k+1:Nat):Int)) p) p
  ⟨t,(adM s.exp t p).1,(adM s.phi (scM t (ze9 (whI 1) (whI ((k+2:Nat):Int)) p) p) p).1⟩
theorem zur{k:Nat}(h:8<=k):(0:Rat)<=(k:Rat)⁻¹ /\(k:Rat)⁻¹ <=pw (-3):=by
 have hk:(8:Rat)<=(k:Rat):=by
  have:=(q7 (a:=8) (b:=k)).2 h;simpa using this
 have h0:(0:Rat)<(k:Rat):=by grind
 have hi:(0:Rat)<(k:Rat)⁻¹ :=qW.2 h0;have hm:=qH (k:Rat) (by grind);have h8:pw (-3)*8=1:=by
  rw[show(8:Rat)=pw 3 from(by rw[show pw 3=((2^3:Nat):Rat)from wq 3];rfl),<-pwA];unfold pw;simp
 refine⟨qF hi,?_⟩;have h1:(k:Rat)⁻¹ *8<=(k:Rat)⁻¹ *(k:Rat):=q0 hk (qF hi);have h2:(k:Rat)⁻¹ *(k:Rat)=1:=by rw[qU];exact hm
 grind
theorem bI_by{k:Nat}(h:8<=k)(h2:k<=1000000){p:Int}(hp:pcB p=true):bI (pw (-3)) (ze9 (whI 1) (whI (k:Int)) p):=by
 have kn:=zfv (n:=(k:Int)) O;have k1:=zfv (n:=1) OA;have e:dv (whI (k:Int)).lo =(k:Rat):=(uo (k:Int)).trans (qP k);have e':dv (whI (k:Int)).hi =(k:Rat):=(uo (k:Int)).trans (qP k);have o:dv (whI 1).lo =1:=(uo 1).trans OC;have o':dv (whI 1).hi =1:=(uo 1).trans OC;have hk0:(0:Rat)<(k:Rat):=by
  have:=(q7 (a:=8) (b:=k)).2 h;have h8:(8:Rat)<=(k:Rat):=by simpa using this
  grind
 have hs:0<dv (whI (k:Int)).lo \/dv (whI (k:Int)).hi <0:=.inl (by rw[e];exact hk0);refine⟨zce (.inl k1) (.inl kn) hp,?_⟩
 cases ha:(ze9 (whI 1) (whI (k:Int)) p).all with
 |true=>exact .inl rfl
 |false=>
  right;rw[zk7 k1 kn hs hp]at ha⊢;obtain⟨i1,i2⟩:=zur h;have hq: -pw (-3)<=1/(k:Rat)/\1/(k:Rat)<=pw (-3):=by
   rw[qQ,qK];have:=yz (-3);constructor<;>grind
  refine zru (zql k1 kn hs (vg hp)) (pwF OA OA) ?_ ha;unfold zmt;rw[e,e',o,o'];exact⟨hq,hq,hq,hq⟩
theorem qad{u:Iv}{p:Int}(hp:pcB p=true)(hu:bI (pw 2) u):∀k:Nat,k<=8->bI (pw (2*(k:Int))) (rsI u p k)
 |0,_=>qbm
 |k+1,hk=>by
  have ih:=qad hp hu k O;have e1:pw (2*(k:Int))*pw 2=pw (2*((k+1:Nat):Int)):=by rw[<-pwA];congr 1<;>omega
  have h1:=znd ih hu hp (by rw[e1];exact pwF O O);rw[e1]at h1;have h2:=qey qbm (n:=((k+1:Nat):Int)) O O hp (pwF OA OA);have e2:pw (2*((k+1:Nat):Int))*pw 0=pw (2*((k+1:Nat):Int)):=by rw[<-pwA];congr 1<;>omega
  have h3:=znd h1 h2 hp (by rw[e2];exact pwF O O);rw[e2]at h3;exact h3
theorem qac{u:Iv}{p:Int}(hp:pcB p=true)(hu:bI (pw 2) u):∀k:Nat,k<=2000->bI (pw (16-(k:Int))) (rsI u p (8+k))
 |0,_=>qad hp hu 8 O
 |k+1,hk=>by
  have ih:=qac hp hu k O;have e1:pw (16-(k:Int))*pw 2=pw (18-(k:Int)):=by rw[<-pwA];congr 1<;>omega
  have h1:=znd ih hu hp (by rw[e1];exact pwF O O);rw[e1]at h1;have h2:=bI_by (k:=8+k+1) O O hp;have e2:pw (18-(k:Int))*pw (-3)=pw (16-((k+1:Nat):Int)):=by rw[<-pwA];congr 1<;>omega
  have h3:=znd h1 h2 hp (by rw[e2];exact pwF O O);rw[e2]at h3;exact h3
theorem qgf{x:Iv}{p t:Int}(hx:bI (pw t) x)(h:zlp x p=false): -p-9<=t:=by
 unfold zlp at h;simp only[Bool.or_eq_false_iff,Z3]at h;obtain⟨⟨h1,h2⟩,h3⟩:=h;have k:=(xi hx.1).1 h1;obtain⟨_,a3,a4⟩:=hx.ends k;have hn:nm x.hi≠0:=fun c=>h2 (by unfold jh;rw[Z4 c])
 unfold qd at h3;rw[Z5 hn]at h3;have ht:=ym (n:=nm x.hi) (e:=x.hi.e) (t:=(bl (nm x.hi):Int)+x.hi.e-1) O hn;have h4:vN (nm x.hi) x.hi.e<=pw t:=by
  unfold dv at a3 a4;split at a4
  .grind
  .exact a4
 have:=zat.1 (q8 ht h4);omega
theorem qcc{u:Iv}{p:Int}(hp:pcB p=true)(hu:bI (pw 2) u):∃k:Nat,1<=k/\k<=700/\zlp (rsI u p k) p=true:=by
 obtain⟨q,rfl,hq⟩:=yu.1 hp;refine⟨8+(q+30),O,O,?_⟩
 cases h:zlp (rsI u q (8+(q+30))) q with
 |true=>rfl
 |false=>
  have:=qgf (qac hp hu (q+30) O) h;omega
structure VM(n k:Nat)(m:Mx):Prop where
 n1:1<=n/\n<=8
 k1:1<=k/\k<=8
 len:m.length=n
 row:∀r∈m,r.length=k
 el:∀r∈m,∀x∈r,VI x
theorem VM.hd{n k:Nat}{m:Mx}(h:VM n k m):hdL m=k:=by
 have h1:=h.n1;have h2:=h.len;have h3:=h.row;unfold hdL
 cases m with
 |nil=>simp at h2;omega
 |cons r m=>exact h3 r OC
def RM(m:Mx):Prop:=∀r∈m,∀x∈r,RI x
theorem VM.ri{n k:Nat}{m:Mx}(h:VM n k m):RM m:=fun r hr x hx=>(h.el r hr x hx).ri
theorem zfw{m:Mx}(h:RM m):vmB m=true<->∃n k,VM n k m:=by
 unfold vmB;simp only[wn,Z2,qX,List.any_eq_false,wB,not_or,ne_eq,Decidable.not_not];constructor
 .rintro⟨⟨h1,h2⟩,h3⟩;exact⟨m.length,hdL m,h1,h2,rfl,fun r hr=>(h3 r hr).1,fun r hr x hx=>by
   have h4:=(h3 r hr).2;simp only[ws,qX,not_exists,not_and,w6]at h4;exact(wu (h r hr x hx)).1 (h4 x hx)⟩
 .rintro⟨n,k,v⟩;refine⟨⟨by rw[v.len];exact v.n1,by rw[v.hd];exact v.k1⟩,fun r hr=>⟨by rw[v.hd];exact v.row r hr,?_⟩⟩;simp only[ws,qX,not_exists,not_and,w6];exact fun x hx=>(wu (h r hr x hx)).2 (v.el r hr x hx)
theorem VM.ok{n k:Nat}{m:Mx}(h:VM n k m):vmB m=true:=(zfw h.ri).2 ⟨n,k,h⟩
theorem wl{α β:Type}{f:Nat->α->β}{l:List α}{y:β}(h:y∈l.mapIdx f):∃i x,l[i]? =some x/\x∈l/\y=f i x:=by
 obtain⟨i,hi⟩:=qR h;rw[qI,w3]at hi;obtain⟨x,hx,rfl⟩:=hi;exact⟨i,x,hx,qL hx,rfl⟩
theorem zva{n k:Nat}{m:Mx}(h:VM n k m){f:Nat->Nat->Iv->Iv}(hf:∀i j x,VI x->i<n->j<k->VI (f i j x)):VM n k (xt f m):=by
 refine⟨h.n1,h.k1,by unfold xt;rw[w5];exact h.len,fun r hr=>?_,fun r hr x hx=>?_⟩
 .obtain⟨i,r0,_,hr0,rfl⟩:=wl hr;rw[w5];exact h.row r0 hr0
 .obtain⟨i,r0,hi,hr0,rfl⟩:=wl hr;obtain⟨j,x0,hj,hx0,rfl⟩:=wl hx;refine hf i j x0 (h.el r0 hr0 x0 hx0) ?_ ?_
  .have:=(qO.1 hi).1;rw[h.len]at this;exact this
  .have:=(qO.1 hj).1;rw[h.row r0 hr0]at this;exact this
theorem xw{n k:Nat}{m:Mx}(h:VM n k m){i j:Nat}(hi:i<n)(hj:j<k):VI (atM m i j):=by
 unfold atM;have hi:i<m.length:=by rw[h.len];exact hi
 rw[q9 hi];have hm:=qJ hi;have hj:j<m[i].length :=by rw[h.row _ hm];exact hj
 simp only[qZ];rw[q9 hj];exact h.el _ hm _ (qJ hj)
theorem uz{n:Int}(h: -4611686018427387904<=n/\n<=4611686018427387904):VI (whI n):=.inl (zfv h)
theorem zrl{n:Nat}(h:1<=n/\n<=8):VM n n (idM n):=by
 unfold idM;rw[Z5 O];refine⟨h,h,OC,fun r hr=>?_,fun r hr x hx=>?_⟩
 .obtain⟨i,_,rfl⟩:=qG.1 hr;simp
 .obtain⟨i,_,rfl⟩:=qG.1 hr;obtain⟨j,_,rfl⟩:=qG.1 hx;split<;>exact uz OA
theorem yr{n k:Nat}{a:Mx}(h:VM n k a){x:Iv}(hx:VI x){p:Int}(hp:pcB p=true):VM n k (scM a x p):=by
 unfold scM;rw[Z4 (by rw[h.ok,(wu hx.ri).2 hx,hp];rfl)];exact zva h fun i j y hy _ _=>jg hx hy hp
theorem zbv{n k:Nat}{a b:Mx}(ha:VM n k a)(hb:VM n k b){p:Int}(hp:pcB p=true):(adM a b p).2=0/\VM n k (adM a b p).1:=by
 unfold adM;rw[Z5 (by rw[ha.ok,hb.ok];simp),Z5 (by rw[hp];simp),Z5 (by rw[ha.len,hb.len,ha.hd,hb.hd];simp)];exact⟨rfl,zva ha fun i j y hy hi hj=>zib hy (xw hb hi hj) hp⟩
theorem qbc{p:Int}(hp:pcB p=true):∀(r c:List Iv)(o:Iv),(∀x∈r,VI x)->(∀x∈c,VI x)->VI o->VI (dtG p r c o)
 | [],_,o,_,_,ho=>ho
 | _::_,[],o,_,_,ho=>ho
 |x::r,y::c,o,hr,hc,ho=>qbc hp r c _ (fun z hz=>hr z (qA _ hz)) (fun z hz=>hc z (qA _ hz)) (zib ho (jg (hr x OC) (hc y OC) hp) hp)
theorem zve{p:Int}(hp:pcB p=true){r c:List Iv}(hr:∀x∈r,VI x)(hc:∀x∈c,VI x):VI (dtM p r c):=by
 unfold dtM;split
 .rename_i x r y c;exact qbc hp r c _ (fun z hz=>hr z (qA _ hz)) (fun z hz=>hc z (qA _ hz)) (jg (hr x OC) (hc y OC) hp)
 .exact zI_VI
theorem qio{n k:Nat}{b:Mx}(h:VM n k b){j:Nat}(hj:j<k):∀x∈zdm b j,VI x:=fun x hx=>by
 obtain⟨r,hr,rfl⟩:=qG.1 hx;have hj:j<r.length:=by rw[h.row r hr];exact hj
 rw[q9 hj];exact h.el r hr _ (qJ hj)
theorem zdf{n k l:Nat}{a b:Mx}(ha:VM n k a)(hb:VM k l b){p:Int}(hp:pcB p=true):(muM a b p).2=0/\VM n l (muM a b p).1:=by
 unfold muM;rw[Z5 (by rw[ha.ok,hb.ok];simp),Z5 (by rw[hp];simp),Z5 (by rw[ha.hd,hb.len];simp)];refine⟨rfl,ha.n1,hb.k1,by simp[ha.len],fun r hr=>?_,fun r hr x hx=>?_⟩
 .obtain⟨r0,_,rfl⟩:=qG.1 hr;simp[hb.hd]
 .obtain⟨r0,hr0,rfl⟩:=qG.1 hr;obtain⟨j,hj,rfl⟩:=qG.1 hx;have hj:j<l:=by have:=List.mem_range.1 hj;rw[hb.hd]at this;exact this
  exact zve hp (ha.el r0 hr0) (qio hb hj)
theorem zxd{x:Iv}(hx:VI x)(p:Int):VI (ux x p):=by
 unfold ux;split
 .rename_i c;have k:=(qb hx.ri).1 c.1;exact qcs (yg k.lo (vg c.2)) (yg k.hi (vg c.2)) (zle (zc3 _ _ _ (vg c.2)) (zc3 _ _ _ (vg c.2))) k.dle
 .exact .inr rfl
theorem qay{n k:Nat}{m:Mx}(h:VM n k m){f:Iv->Iv}(hf:∀x,VI x->VI (f x)):VM n k (m.map fun r=>r.map f):=by
 refine⟨h.n1,h.k1,by simp[h.len],fun r hr=>?_,fun r hr x hx=>?_⟩
 .obtain⟨r0,hr0,rfl⟩:=qG.1 hr;simp[h.row r0 hr0]
 .obtain⟨r0,hr0,rfl⟩:=qG.1 hr;obtain⟨y,hy,rfl⟩:=qG.1 hx;exact hf y (h.el r0 hr0 y hy)
theorem zlu{n k:Nat}{m:Mx}(h:VM n k m)(p:Int):VM n k (rdM m p):=qay h fun x hx=>zxd hx p
theorem zv6{n k:Nat}{m:Mx}(h:VM n k m){e:Iv}(he:VI e){p:Int}(hp:pcB p=true):VM n k (arM m e p):=qay h fun x hx=>zib hx (zky (zl5 he).ri he.ri) hp
theorem zgd{k:Nat}(h:1<=k)(h2:k<=1000000){p:Int}(hp:pcB p=true):VI (ze9 (whI 1) (whI (k:Int)) p):=zce (uz OA) (uz O) hp
theorem qct{u:Iv}(hu:VI u){p:Int}(hp:pcB p=true):∀k:Nat,k<=100000->VI (rsI u p k)
 |0,_=>uz OA
 |k+1,hk=>jg (jg (qct hu hp k O) hu hp) (zgd O O hp) hp
theorem zua{x:Iv}(k:KI x):0<=dv (zdn x)/\(∀a:Rat,dv x.lo<=a->a<=dv x.hi-> -dv (zdn x)<=a/\a<=dv (zdn x)):=by
 obtain⟨h1,h2,h3⟩:=zwb k q6 k.dle;refine⟨q8 h1 (q8 h2 h3),fun a ha hb=>?_⟩;obtain⟨_,_,h4⟩:=zwb k ha hb;unfold qk at h4;split at h4<;>constructor<;>grind
theorem qex{x:Iv}(k:KI x):bI (dv (zdn x)) x:=by
 obtain⟨_,h⟩:=zua k;exact⟨.inl k,.inr ⟨(h _ q6 k.dle).1,(h _ k.dle q6).2⟩⟩
theorem zbb{x:Iv}(hx:VI x)(j:Int):VI (zn x j):=by
 rcases hx with k|rfl
 .exact(zlc (qex k) j).1
 .exact .inr rfl
theorem zkf{p:Int}(hp:pcB p=true):∀(r:List Iv)(s S:Dy),(∀x∈r,VI x)->VD s->0<=dv s->zgi p r s=some S->VD S/\dv s<=dv S/\∀x∈r,KI x/\dv (zdn x)<=dv S
 | [],s,S,_,hs,_,h=>by cases h;exact⟨hs,q6,fun x hx=>by cases hx⟩
 |x::r,s,S,hx,hs,h0,h=>by
  unfold zgi at h;split at h
  .rename_i c;have k:=(qb (hx x OC).ri).1 c.1;have R1:=(za6 hs (zjx k) (vg hp)).2.1 c.2;obtain⟨m0,_⟩:=zua k;have h1:dv s+dv (zdn x)<=dv (za7 s (zdn x) p.toNat true).1:=R1.1;obtain⟨a1,a2,a3⟩:=zkf hp r _ S (fun y hy=>hx y (qA _ hy)) (zdb _ _ _ _ (vg hp)) (by grind) h;refine⟨a1,by grind,fun y hy=>?_⟩;rcases wD.1 hy with rfl|hy
   .exact⟨k,by grind⟩
   .exact a3 y hy
  .cases h
theorem qa5{p:Nat}(hp:8<=p){c:Nat}(hc:c<=256):inF p (vN c (-1)):=by
 refine⟨c,-1,rfl,wE hc (wE (by decide:256<=2^8) (Nat.pow_le_pow_right OA hp)),OA,?_⟩;have h1:vN c (-1)<=pw 8:=by
  unfold vN;have h2:(c:Rat)<=pw 8:=by
   rw[show pw 8=((2^8:Nat):Rat)from wq 8];exact q7.2 hc
  have h3:pw (-1)<=pw 0:=zat.2 OA;have h4:=zco (Rat.natCast_nonneg (a:=c)) h2 (yz (-1)) h3;rw[<-pwA]at h4;exact h4
 exact zte h1 (ztq OA)
theorem zr2(c:Nat):vN (c+1) (-1)=vN c (-1)+pw (-1):=by
 unfold vN;rw[show((c+1:Nat):Rat)=(c:Rat)+1 from wC c 1];grind
theorem qaf{p:Int}(hp:pcB p=true):∀(r:List Iv)(s S:Dy)(c:Nat),(∀x∈r,bI (pw (-1)) x)->VD s->dv s<=vN c (-1)->c+r.length<=200->zgi p r s=some S->dv S<=vN (c+r.length) (-1)
 | [],s,S,c,_,_,h1,_,h=>by cases h;exact h1
 |x::r,s,S,c,hx,hs,h1,hc,h=>by
  unfold zgi at h;split at h
  .rename_i e;have hb:=hx x OC;have k:=(qb hb.1.ri).1 e.1;have hm:=(zub hb k).2.1;have hF:=qa5 (p:=p.toNat) (vg hp).1 (c:=c+1) (by simp at hc;omega);have R1:=(za6 hs (zjx k) (vg hp)).2.2 (vN (c+1) (-1)) (.inl hF) (by show dv s+dv (zdn x)<=_;rw[zr2];grind);have:=qaf hp r _ S (c+1) (fun y hy=>hx y (qA _ hy)) (zdb _ _ _ _ (vg hp)) R1.2 (by simp at hc;omega) h;rw[(OE:c+(x::r).length =c+1+r.length)];exact this
  .cases h
theorem zkm{p:Int}(hp:pcB p=true):∀(m:Mx)(D0 D:Dy),(∀r∈m,∀x∈r,VI x)->VD D0->nmG p m D0=some D->VD D/\dv D0<=dv D/\∀r∈m,∃s,zgi p r d0=some s/\dv s<=dv D
 | [],D0,D,_,h0,h=>by cases h;exact⟨h0,q6,fun r hr=>by cases hr⟩
 |r::m,D0,D,hv,h0,h=>by
  unfold nmG at h;split at h
  .cases h
  .rename_i s hs;have hs1:=zkf hp r d0 s (hv r OC) qf (by rw[uw];exact q6) hs;have hcm:=uq s D0;obtain⟨a1,a2,a3⟩:=zkm hp m _ D (fun r hr=>hv r (qA _ hr)) (by split;exact hs1.1;exact h0) h;have h1:dv s<=dv D/\dv D0<=dv D:=by
    split at a2
    .rename_i c;have:=hcm.2.1.1 c;exact⟨a2,q8 (qF this) a2⟩
    .rename_i c;have:dv s<=dv D0:=Rat.not_lt.1 fun c2=>c (hcm.2.1.2 c2)
     exact⟨q8 this a2,a2⟩
   refine⟨a1,h1.2,fun r' hr'=>?_⟩;rcases wD.1 hr' with rfl|hr'
   .exact⟨s,hs,h1.1⟩
   .exact a3 r' hr'
theorem zxy{p:Int}(hp:pcB p=true){k:Nat}(hk:k<=8):∀(m:Mx)(D0 D:Dy),(∀r∈m,r.length=k/\∀x∈r,bI (pw (-1)) x)->dv D0<=vN k (-1)->nmG p m D0=some D->dv D<=vN k (-1)
 | [],D0,D,_,h0,h=>by cases h;exact h0
 |r::m,D0,D,hv,h0,h=>by
  unfold nmG at h;split at h
  .cases h
  .rename_i s hs;obtain⟨hl,hb⟩:=hv r OC;have h1:=qaf hp r d0 s 0 hb qf (by rw[uw];exact zdc _ _) O hs;rw[w4,hl]at h1;refine zxy hp hk m _ D (fun r hr=>hv r (qA _ hr)) ?_ h;split
   .exact h1
   .exact h0
theorem zko{a:Mx}{p:Int}(h:∀r∈a,∀x∈r,VI x):VD (nmM a p).1/\0<=dv (nmM a p).1:=by
 unfold nmM;split
 .rename_i c;rw[wn]at c;split
  .rename_i d hd;obtain⟨a1,a2,_⟩:=zkm c.2 a d0 d h qf hd;rw[uw]at a2;exact⟨a1,a2⟩
  .exact⟨qf,by rw[uw];exact q6⟩
 .exact⟨qf,by rw[uw];exact q6⟩
def hvS(N:Dy):Int:=max 0 (qd N+1)
theorem zyb{f:Iv->Iv}{m:Mx}{r:List Iv}{x:Iv}(hr:r∈m)(hx:x∈r):∃r'∈xt (fun _ _ y=>f y) m,f x∈r':=by
 obtain⟨i,hi⟩:=qR hr;obtain⟨j,hj⟩:=qR hx;refine⟨r.mapIdx fun _ y=>f y,qL (i:=i) (by unfold xt;rw[qI,hi];rfl),qL (i:=j) (by rw[qI,hj];rfl)⟩
theorem zom{n k:Nat}{a:Mx}(ha:VM n k a){t:Iv}(kt:KI t){q:Int}(hq:pcB q=true){N:Dy}(hN:nmM (scM a t q) q=(N,true)):∀r∈a,∀y∈r,bI (pw (-1)) (kf (zn t (-hvS N)) y q):=by
 have hsc:scM a t q=xt (fun _ _ y=>kf t y q) a:=by
  unfold scM;rw[Z4 (by rw[ha.ok,(wu kt.ri).2 (.inl kt),hq];rfl)]
 have vs:=yr ha (.inl kt) hq;have key:∀r∈a,∀y∈r,KI (kf t y q)/\dv (zdn (kf t y q))<=dv N:=fun r hr y hy=>by
  unfold nmM at hN;rw[Z4 (by rw[vs.ok,hq];rfl)]at hN;split at hN
  .rename_i d hd;cases hN
   obtain⟨a1,a2,a3⟩:=zkm hq _ d0 N vs.el qf hd;obtain⟨r',hr',hx'⟩:=zyb (f:=fun y=>kf t y q) hr hy;rw[<-hsc]at hr';obtain⟨s,hs,hle⟩:=a3 r' hr';obtain⟨_,_,b3⟩:=zkf hq r' d0 s (vs.el r' hr') qf (by rw[uw];exact q6) hs;exact⟨(b3 _ hx').1,q8 (b3 _ hx').2 hle⟩
  .cases hN
 have hNv:=zko (p:=q) vs.el;rw[hN]at hNv;intro r hr y hy;obtain⟨km,hm⟩:=key r hr y hy;have vy:=ha.el r hr y hy;have vh:=zbb (.inl kt:VI t) (-hvS N);refine⟨jg vh vy hq,?_⟩
 cases hal:(kf (zn t (-hvS N)) y q).all with
 |true=>exact .inl rfl
 |false=>
  right;by_cases hk:KI (zn t (-hvS N))/\KI y
  .have hsa:(zn t (-hvS N)).all =false:=hk.1.all;have e:zn t (-hvS N)=jc (qg t.lo (-hvS N)) (qg t.hi (-hvS N)):=by unfold zn;rw[Z4 ((qb kt.ri).2 kt)]
   rw[e]at hsa;obtain⟨o1,o2⟩:=um.1 hsa;have e1:dv (zn t (-hvS N)).lo =dv t.lo*pw (-hvS N):=by rw[e,zb6 hsa];exact zcl o1
   have e2:dv (zn t (-hvS N)).hi =dv t.hi*pw (-hvS N):=by rw[e,zb6 hsa];exact zcl o2
   have hNp:dv N*pw (-hvS N)<=pw (-1):=by
    by_cases h0:nm N=0
    .rw[un h0,w7];exact yz _
    .have h1:=(qbb h0).2;have h2:=qw h1 (yz (-hvS N));rw[<-pwA]at h2;exact q8 h2 (zat.2 (by unfold hvS;omega))
   have prod:∀u v:Rat,inI u t->inI v y-> -pw (-1)<=(u*pw (-hvS N))*v/\(u*pw (-hvS N))*v<=pw (-1):=fun u v hu hv=>by
    have hin:=zf3 (.inl kt) vy hq hu hv;rcases hin with c|⟨c1,c2⟩
    .rw[km.all]at c;cases c
    .obtain⟨d1,d2⟩:=(zua km).2 _ c1 c2;have hp:=yz (-hvS N);have f1:=qw (show u*v<=dv N from q8 d2 hm) hp;have f2:=qw (show-(dv N)<=u*v by grind) hp;constructor<;>grind
   have tl:inI (dv t.lo) t:=.inr ⟨q6,kt.dle⟩;have th:inI (dv t.hi) t:=.inr ⟨kt.dle,q6⟩;have yl:inI (dv y.lo) y:=.inr ⟨q6,hk.2.dle⟩;have yh:inI (dv y.hi) y:=.inr ⟨hk.2.dle,q6⟩;rw[zl8 hk.1 hk.2 hq]at hal⊢;refine zru (zl9 hk.1 hk.2 (vg hq)) (pwF OA OA) ?_ hal;unfold zmt;rw[e1,e2];exact⟨prod _ _ tl yl,prod _ _ tl yh,prod _ _ th yl,prod _ _ th yh⟩
  .rw[zx5 vh.ri vy.ri hk]at hal;cases hal
theorem u_bd{n k:Nat}{a:Mx}(ha:VM n k a){t:Iv}(kt:KI t){q:Int}(hq:pcB q=true){N:Dy}(hN:nmM (scM a t q) q=(N,true)):bI (pw 2) (zx (nmM (scM a (zn t (-hvS N)) q) q).1):=by
 have vh:=zbb (.inl kt:VI t) (-hvS N);have vs:=yr ha vh hq;have hb:=zom ha kt hq hN;have hsc:scM a (zn t (-hvS N)) q=xt (fun _ _ y=>kf (zn t (-hvS N)) y q) a:=by
  unfold scM;rw[Z4 (by rw[ha.ok,(wu vh.ri).2 vh,hq];rfl)]
 have hrow:∀r∈scM a (zn t (-hvS N)) q,r.length=k/\∀x∈r,bI (pw (-1)) x:=fun r hr=>⟨vs.row r hr,fun x hx=>by
  rw[hsc]at hr;obtain⟨i,r0,_,hr0,rfl⟩:=wl hr;obtain⟨j,y,_,hy,rfl⟩:=wl hx;exact hb r0 hr0 y hy⟩
 obtain⟨w1,w2⟩:=zko (p:=q) vs.el;have h4:dv (nmM (scM a (zn t (-hvS N)) q) q).1<=pw 2:=by
  have hk4:vN k (-1)<=pw 2:=by
   have h1:vN k (-1)<=vN 8 (-1):=by
    unfold vN;exact qw (q7.2 ha.k1.2) (yz _)
   have h2:vN 8 (-1)=pw 2:=by
    unfold vN;rw[show((8:Nat):Rat)=pw 3 from(by rw[show pw 3=((2^3:Nat):Rat)from wq 3]),<-pwA];rfl
   rw[h2]at h1;exact h1
  unfold nmM;split
  .split
   .rename_i d hd;exact q8 (zxy hq ha.k1.2 _ d0 d hrow (by rw[uw];exact zdc _ _) hd) hk4
   .rw[uw];exact yz _
  .rw[uw];exact yz _
 refine⟨.inl (ziu w1),.inr ⟨?_,h4⟩⟩;have:=yz 2;show-pw 2<=dv (nmM (scM a (zn t (-hvS N)) q) q).1;grind
def byI(k:Nat)(p:Int):Iv:=ze9 (whI 1) (whI (k:Int)) p
def ze5(m:Mx)(p:Int)(k:Nat)(s:MSt):MSt:=
 let t:=scM (muM s.term m p).1 (byI k p) p
 ⟨t,(adM s.exp t p).1,(adM s.phi (scM t (byI (k+1) p) p) p).1⟩
def zwk(u:Iv)(p:Int)(k:Nat)(r:Iv):Iv:=kf (kf r u p) (byI k p) p
def zad(m:Mx)(u:Iv)(p:Int):Nat->Nat->MSt->Iv->MSt×Iv
 |0,_,s,r=>(s,r)
 |n+1,k,s,r=>if zlp (zwk u p k r) p=true then(ze5 m p k s,zwk u p k r)else zad m u p n (k+1) (ze5 m p k s) (zwk u p k r)
structure MPr where
 exp:Mx
 phi:Mx
def znr(m:Mx)(h:Iv)(p:Int):MPr:=
 let s:=zad m (zx (nmM m p).1) p 700 1 ⟨idM m.length,idM m.length,idM m.length⟩ (whI 1)
 ⟨arM s.1.exp s.2 p,scM (arM s.1.phi s.2 p) h p⟩
def znh(q:Int)(x:MPr):MPr:=⟨(muM x.exp x.exp q).1,(adM x.phi (muM x.exp x.phi q).1 q).1⟩
def zc1(q:Int):Nat->MPr->MPr
 |0,x=>x
 |n+1,x=>zc1 q n (znh q x)
def zlb(a:Mx)(t:Iv)(p:Int):Option MPr:=
 let q:=min (p+40) 512
 let n:=nmM (scM a t q) q
 if n.2=false\/0<qh n.1 (zcb 256)then none else
  let half:=zn t (-hvS n.1)
  let x:=zc1 q (hvS n.1).toNat (znr (scM a half q) half q)
  let y:MPr:=⟨rdM x.exp p,rdM x.phi p⟩
  if(knM y.exp&&knM y.phi)=true then some y else none
def zjt(a:Mx)(t:Iv)(p:Int):Bool:=vmB a&&decide (a.length=hdL a)&&kB t&&pcB p&& !(a.any fun r=>r.any fun x=>x.all)
def zwp(a:Mx)(t:Iv)(p:Int):Mx×Int:=if zjt a t p=true then(match zlb a t p with|some x=>(x.exp,0)|none=>([],13))else([],1)
def apM(a:Mx)(x:List Iv)(p:Int):List Iv:=a.map fun r=>dtM p r x
def bvB(l:List Iv):Bool:=decide (1<=l.length/\l.length<=8)&& !l.any fun x=>x.all|| !viB x
def zud(a:Mx)(b x:List Iv)(t:Iv)(p:Int):List Iv×Int:=
 if(zjt a t p&&bvB b&&bvB x&&decide (b.length=a.length)&&decide (x.length=a.length))=true then
  match zlb a t p with
  |some y=>let out:=List.zipWith (fun u v=>yp u v p) (apM y.exp x p) (apM y.phi b p);if bvB out=true then(out,0)else([],13)
  |none=>([],13)
 else([],1)
structure kI(B:Rat)(x:Iv):Prop where
 k:KI x
 lo: -B<=dv x.lo
 hi:dv x.hi<=B
theorem kI.b{B:Rat}{x:Iv}(h:kI B x):bI B x:=⟨.inl h.k,.inr ⟨h.lo,h.hi⟩⟩
theorem zri{B:Rat}{x:Iv}(h:bI B x)(ha:x.all=false):kI B x:=by
 have k:=(xi h.1).1 ha;rcases h.2 with c|c
 .rw[ha]at c;cases c
 .exact⟨k,c.1,c.2⟩
theorem kI.mono{B C:Rat}{x:Iv}(h:kI B x)(hb:B<=C):kI C x:=⟨h.k,by have:=h.lo;grind,by have:=h.hi;grind⟩
theorem kI.nn{B:Rat}{x:Iv}(h:kI B x):0<=B:=by
 have h1:=h.lo;have h2:=h.hi;have h3:=h.k.dle;grind
theorem qe9{p:Nat}{op:Rat->Rat->Rat}{dn up:Dy->Dy->Dy×Int}{x y:Iv}(f:F4 p op dn up x y){b:Rat}(hb:inF p b)(h:zmt op x y (fun z=> -b<=z/\z<=b)):(ja dn up x y).all =false:=by
 obtain⟨a1,a2,a3,a4⟩:=h;have hn:Fp p (-b):=.inr (by rw[wA];exact hb);have hp:Fp p b:=.inl hb;have c1:=f.rt1;have c2:=f.rt2;have c3:=f.rt3;have c4:=f.rt4;exact zy0 ⟨(c1.1.2 (-b) hn a1.1).1,(c2.1.2 (-b) hn a2.1).1,(c3.1.2 (-b) hn a3.1).1,(c4.1.2 (-b) hn a4.1).1⟩
  ⟨(c1.2.2 b hp a1.2).1,(c2.2.2 b hp a2.2).1,(c3.2.2 b hp a3.2).1,(c4.2.2 b hp a4.2).1⟩
theorem zf4{B C:Rat}{x y:Iv}(hx:kI B x)(hy:kI C y){p:Int}(hp:pcB p=true)(hF:inF p.toNat (B*C)):kI (B*C) (kf x y p):=by
 refine zri (znd hx.b hy.b hp hF) ?_;obtain⟨⟨a1,a2⟩,⟨a3,a4⟩⟩:=hx.b.ends hx.k;obtain⟨⟨b1,b2⟩,⟨b3,b4⟩⟩:=hy.b.ends hy.k;rw[zl8 hx.k hy.k hp];exact qe9 (zl9 hx.k hy.k (vg hp)) hF ⟨ut a1 a2 b1 b2,ut a1 a2 b3 b4,ut a3 a4 b1 b2,ut a3 a4 b3 b4⟩
theorem qdt{B:Rat}{x:Iv}(hx:kI B x){n:Int}(h1:1<=n)(h2:n<=4611686018427387904){c:Rat}(hc:(n:Rat)⁻¹ <=c){p:Int}(hp:pcB p=true)(hF:inF p.toNat (B*c)):kI (B*c) (ze9 x (whI n) p):=by
 have kn:=zfv (n:=n) O;have hn:=zi5 h1;have e:dv (whI n).lo =(n:Rat):=uo n;have e':dv (whI n).hi =(n:Rat):=uo n;have hs:0<dv (whI n).lo \/dv (whI n).hi <0:=.inl (by rw[e];grind);obtain⟨⟨a1,a2⟩,⟨a3,a4⟩⟩:=hx.b.ends hx.k;have i0:0<(n:Rat)⁻¹ :=qW.2 (by grind);have q:∀a:Rat,-B<=a->a<=B-> -(B*c)<=a/(n:Rat)/\a/(n:Rat)<=B*c:=fun a c1 c2=>by
  rw[qQ];exact ut c1 c2 (by grind) hc
 have hq:zmt (fun u v=>u/v) x (whI n) (fun z=> -(B*c)<=z/\z<=B*c):=by
  unfold zmt;rw[e,e'];exact⟨q _ a1 a2,q _ a1 a2,q _ a3 a4,q _ a3 a4⟩
 have f:=zql hx.k kn hs (vg hp);have ha:=qe9 f hF hq;have hb:=zru f hF hq ha;have hv:=zce (.inl hx.k) (.inl kn) (y:=whI n) (x:=x) hp;rw[zk7 hx.k kn hs hp]at hv⊢;exact⟨(xi hv).1 ha,hb.1,hb.2⟩
theorem zmj{B C D:Rat}{x y:Iv}(hx:kI B x)(hy:kI C y)(hD:B+C<=D){p:Int}(hp:pcB p=true)(hF:inF p.toNat D):kI D (yp x y p):=by
 have hv:=zib (.inl hx.k) (.inl hy.k) (x:=x) (y:=y) hp;rw[zqu hx.k hy.k hp]at hv⊢;have R1:=za6 hx.k.lo hy.k.lo (vg hp);have R2:=za6 hx.k.hi hy.k.hi (vg hp);have q1:=hx.lo;have q2:=hy.lo;have q3:=hx.hi;have q4:=hy.hi;have r1:=R1.1.2 (-D) (.inr (by rw[wA];exact hF)) (by grind);have r2:=R2.2.2 D (.inl hF) (by grind);have ha:=um.2 ⟨r1.1,r2.1⟩;rw[zb6 ha]at hv⊢;exact⟨(xi hv).1 rfl,r1.2,r2.2⟩
theorem zp6{B:Rat}{x:Iv}(hx:kI B x){p:Int}(hp:pcB p=true)(hF:inF p.toNat B):kI B (ux x p):=by
 refine zri (zze hx.b hF) ?_;obtain⟨⟨a1,a2⟩,⟨a3,a4⟩⟩:=hx.b.ends hx.k;unfold ux;rw[Z4 ⟨(qb hx.k.ri).2 hx.k,hp⟩];have R1:=yg hx.k.lo (vg hp);have R2:=yg hx.k.hi (vg hp);exact um.2 ⟨(R1.1.2 (-B) (.inr (by rw[wA];exact hF)) a1).1,(R2.2.2 B (.inl hF) a4).1⟩
def sQ(f:Nat->Rat):Nat->Rat
 |0=>f 0
 |k+1=>sQ f k+f (k+1)
theorem zfe{f g:Nat->Rat}:∀ {k:Nat},(∀i,i<=k->f i<=g i)->sQ f k<=sQ g k
 |0,h=>h 0 (q5 _)
 |k+1,h=>by
  have h1:=zfe (k:=k) fun i hi=>h i O
  have h2:=h (k+1) (q5 _);show sQ f k+f (k+1)<=sQ g k+g (k+1);grind
theorem xn{f g:Nat->Rat}:∀ {k:Nat},(∀i,i<=k->f i=g i)->sQ f k=sQ g k
 |0,h=>h 0 (q5 _)
 |k+1,h=>by
  have h1:=xn (k:=k) fun i hi=>h i O
  have h2:=h (k+1) (q5 _);show sQ f k+f (k+1)=sQ g k+g (k+1);rw[h1,h2]
theorem zs6{f:Nat->Rat}:∀ {k:Nat},(∀i,i<=k->0<=f i)->0<=sQ f k
 |0,h=>h 0 (q5 _)
 |k+1,h=>by
  have h1:=zs6 (k:=k) fun i hi=>h i O
  have h2:=h (k+1) (q5 _);show 0<=sQ f k+f (k+1);grind
theorem zpk{f g:Nat->Rat}:∀ {k:Nat},sQ (fun i=>f i+g i) k=sQ f k+sQ g k
 |0=>rfl
 |k+1=>by
  show sQ (fun i=>f i+g i) k+(f (k+1)+g (k+1))=(sQ f k+f (k+1))+(sQ g k+g (k+1));rw[zpk];grind
theorem zpj{f g:Nat->Rat}:∀ {k:Nat},sQ (fun i=>f i-g i) k=sQ f k-sQ g k
 |0=>rfl
 |k+1=>by
  show sQ (fun i=>f i-g i) k+(f (k+1)-g (k+1))=(sQ f k+f (k+1))-(sQ g k+g (k+1));rw[zpj];grind
theorem ju{c:Rat}{f:Nat->Rat}:∀ {k:Nat},sQ (fun i=>c*f i) k=c*sQ f k
 |0=>rfl
 |k+1=>by
  show sQ (fun i=>c*f i) k+c*f (k+1)=c*(sQ f k+f (k+1));rw[ju];grind
theorem zfd{f:Nat->Nat->Rat}{l:Nat}:∀ {k:Nat},sQ (fun i=>sQ (fun j=>f i j) l) k=sQ (fun j=>sQ (fun i=>f i j) k) l
 |0=>rfl
 |k+1=>by
  show sQ (fun i=>sQ (fun j=>f i j) l) k+sQ (fun j=>f (k+1) j) l=sQ (fun j=>sQ (fun i=>f i j) k+f (k+1) j) l;rw[zfd,zpk]
theorem zai{a b:Rat}:qk a<=b<-> -b<=a/\a<=b:=by
 unfold qk;split<;>constructor<;>(try rintro⟨h1,h2⟩)<;>(try intro h1)<;>grind
theorem zb1(a:Rat): -qk a<=a/\a<=qk a:=zai.1 q6
theorem zd4(a b:Rat):qk (a+b)<=qk a+qk b:=by
 have h1:=zb1 a;have h2:=zb1 b;rw[zai];constructor<;>grind
theorem zcm(a:Rat):qk (-a)=qk a:=by
 unfold qk;split<;>split<;>grind
theorem zpn(a b:Rat):qk (a-b)<=qk a+qk b:=by
 have h1:=zb1 a;have h2:=zb1 b;rw[zai];constructor<;>grind
theorem jq{a:Rat}(h:0<=a):qk a=a:=by unfold qk;split<;>grind
theorem qaj:qk 1=1:=jq OA
theorem zg8:qk 0=0:=jq OA
theorem zbl{a b:Rat}:qk (a*b)=qk a*qk b:=by
 by_cases ha:0<=a<;>by_cases hb:0<=b
 .rw[jq ha,jq hb,jq (qB ha hb)]
 .have h:=qB ha (show 0<= -b by grind);rw[jq ha,<-zcm b,jq (show 0<= -b by grind),<-zcm,show-(a*b)=a* -b by grind,jq h]
 .have h:=qB (show 0<= -a by grind) hb;rw[jq hb,<-zcm a,jq (show 0<= -a by grind),<-zcm,show-(a*b)= -a*b by grind,jq h]
 .have h:=qB (show 0<= -a by grind) (show 0<= -b by grind);rw[<-zcm a,<-zcm b,jq (show 0<= -a by grind),jq (show 0<= -b by grind),show a*b= -a* -b by grind,jq h]
theorem zpl{f:Nat->Rat}:∀ {k:Nat},qk (sQ f k)<=sQ (fun i=>qk (f i)) k
 |0=>q6
 |k+1=>by
  have h:=zpl (f:=f) (k:=k);have h2:=zd4 (sQ f k) (f (k+1));show qk (sQ f k+f (k+1))<=sQ (fun i=>qk (f i)) k+qk (f (k+1));grind
theorem qcn{f:Nat->Rat}:∀ {k:Nat},(∀i,i<=k->0<=f i)->∀j,j<=k->f j<=sQ f k
 |0,_,j,hj=>by obtain rfl:j=0:=by omega
               exact q6
 |k+1,h,j,hj=>by
  have h1:=zs6 (k:=k) fun i hi=>h i O
  have h2:=h (k+1) (q5 _);show f j<=sQ f k+f (k+1);by_cases e:j=k+1
  .subst e;grind
  .have:=qcn (k:=k) (fun i hi=>h i O) j O;grind
theorem qgk{f:Nat->Rat}(h:∀i,0<=f i)(k:Nat):∀d:Nat,sQ f k<=sQ f (k+d)
 |0=>q6
 |d+1=>by
  have h1:=qgk h k d;have h2:=h (k+d+1);show sQ f k<=sQ f (k+d)+f (k+d+1);grind
theorem qaa{f:Nat->Rat}(h:∀i,0<=f i){k n:Nat}(hk:k<=n):sQ f k<=sQ f n:=by
 obtain⟨d,rfl⟩:=qD hk;exact qgk h k d
theorem qgm{f g:Nat->Rat}(h:∀i,qk (f i)<=g i)(k:Nat):∀d:Nat,qk (sQ f (k+d)-sQ f k)<=sQ g (k+d)-sQ g k
 |0=>by rw[qV,qN,qN,zg8];exact q6
 |d+1=>by
  have h1:=qgm h k d;have h2:=h (k+d+1);have h3:=zd4 (sQ f (k+d)-sQ f k) (f (k+d+1));show qk (sQ f (k+d)+f (k+d+1)-sQ f k)<=sQ g (k+d)+g (k+d+1)-sQ g k;rw[show sQ f (k+d)+f (k+d+1)-sQ f k=sQ f (k+d)-sQ f k+f (k+d+1) by grind];grind
theorem qgl{f g:Nat->Rat}(h:∀i,qk (f i)<=g i){k n:Nat}(hk:k<=n):qk (sQ f n-sQ f k)<=sQ g n-sQ g k:=by
 obtain⟨d,rfl⟩:=qD hk;exact qgm h k d
def Nul(s:Nat->Rat):Prop:=∀e:Rat,0<e->∃N:Nat,∀n,N<=n->qk (s n)<=e
def Bnd(s:Nat->Rat):Prop:=∃B:Rat,0<=B/\∀n,qk (s n)<=B
theorem zgs{e:Rat}(h:0<e):0<e/2/\e/2+e/2=e:=by constructor<;>grind
theorem Nul.cg{s t:Nat->Rat}(hs:Nul s)(h:∀n,s n=t n):Nul t:=by rw[show t=s from funext fun n=>(h n).symm];exact hs
theorem zhc{e B:Rat}(he:0<e)(hB:0<=B):0<e/(B+1)/\B*(e/(B+1))<=e:=by
 have h1:(0:Rat)<(B+1)⁻¹ :=qW.2 (by grind);have h2:=qH (B+1) (by grind);rw[qQ];have h3:0<e*(B+1)⁻¹ :=Rat.mul_pos he h1;have h4:B*(e*(B+1)⁻¹)=e*((B+1)*(B+1)⁻¹)-e*(B+1)⁻¹ :=by grind
 exact⟨h3,by rw[h4,h2];grind⟩
theorem Nul.zero:Nul fun _=>0:=fun e he=>⟨0,fun n _=>by rw[zg8];grind⟩
theorem Bnd.const(c:Rat):Bnd fun _=>c:=⟨qk c,qj c,fun _=>q6⟩
theorem Bnd.add{s t:Nat->Rat}(hs:Bnd s)(ht:Bnd t):Bnd fun n=>s n+t n:=by
 obtain⟨B,h1,h2⟩:=hs;obtain⟨C,h3,h4⟩:=ht;refine⟨B+C,by grind,fun n=>?_⟩;have:=zd4 (s n) (t n);have:=h2 n;have:=h4 n;grind
structure Smb(α:Nat->Rat):Prop where
 nn:∀i,0<=α i
 tl:∀e:Rat,0<e->∃N:Nat,∀n,N<=n->sQ α n-sQ α N<=e
theorem Smb.sc{α:Nat->Rat}(h:Smb α){C:Rat}(hC:0<=C):Smb fun i=>C*α i:=by
 refine⟨fun i=>qB hC (h.nn i),fun e he=>?_⟩;obtain⟨q1,q2⟩:=zhc he hC;obtain⟨N,hN⟩:=h.tl _ q1;refine⟨N,fun n hn=>?_⟩;have h1:=q0 (hN n hn) hC;rw[ju,ju];grind
theorem Smb.bnd{α:Nat->Rat}(h:Smb α):∃A:Rat,0<=A/\∀n,sQ α n<=A:=by
 obtain⟨N,hN⟩:=h.tl 1 OA;have h0:=zs6 (k:=N) fun i _=>h.nn i
 refine⟨sQ α N+1,by grind,fun n=>?_⟩;rcases Nat.le_total N n with c|c
 .have:=hN n c;grind
 .have:=qaa h.nn c;grind
theorem Smb.tl2{α:Nat->Rat}(h:Smb α){e:Rat}(he:0<e):∃N:Nat,∀m n,N<=m->m<=n->sQ α n-sQ α m<=e:=by
 obtain⟨N,hN⟩:=h.tl e he;refine⟨N,fun m n hm hn=>?_⟩;have h1:=hN n O;have h2:=qaa h.nn hm;grind
theorem Smb.of{α f:Nat->Rat}(h:Smb α)(hf:∀i,qk (f i)<=α i):Bnd (sQ f):=by
 obtain⟨A,h0,hA⟩:=h.bnd;refine⟨A,h0,fun n=>q8 zpl (q8 (zfe fun i _=>hf i) (hA n))⟩
theorem qgn{g:Nat->Rat}{i:Nat}:∀ {n:Nat},i<=n->sQ (fun k=>if i<=k then g (k-i)else 0) n=sQ g (n-i)
 |0,h=>by
  obtain rfl:i=0:=O;rfl
 |n+1,h=>by
  show sQ (fun k=>if i<=k then g (k-i)else 0) n+(if i<=n+1 then g (n+1-i)else 0)=_;rw[Z4 h];by_cases e:i=n+1
  .subst e;have hz:∀k,k<=n->(if n+1<=k then g (k-(n+1))else 0)=(fun _=>(0:Rat)) k:=fun k hk=>by rw[Z5 O]
   rw[xn hz,w8];have h0:∀m,sQ (fun _=>(0:Rat)) m=0:=fun m=>by
    induction m with
    |zero=>rfl
    |succ m ih=>show sQ (fun _=>(0:Rat)) m+0=0;rw[ih,w9]
   rw[h0];show 0+g 0=g 0;grind
  .rw[qgn O,(O:n+1-i=(n-i)+1)];rfl
def trQ(f:Nat->Nat->Rat)(n:Nat):Rat:=sQ (fun k=>sQ (fun i=>f i (k-i)) k) n
theorem qcm{f:Nat->Rat}{k:Nat}:∀ {n:Nat},k<=n->sQ (fun i=>if i<=k then f i else 0) n=sQ f k
 |0,h=>by obtain rfl:k=0:=by omega
          rfl
 |n+1,h=>by
  show sQ (fun i=>if i<=k then f i else 0) n+(if n+1<=k then f (n+1)else 0)=_;by_cases e:k=n+1
  .subst e;rw[Z4 (q5 _),xn (g:=f) fun i hi=>Z4 O];rfl
  .rw[Z5 O,qcm O];grind
theorem qf5(f:Nat->Nat->Rat)(n:Nat):trQ f n=sQ (fun i=>sQ (f i) (n-i)) n:=by
 unfold trQ;have h1:sQ (fun k=>sQ (fun i=>f i (k-i)) k) n=sQ (fun k=>sQ (fun i=>if i<=k then f i (k-i)else 0) n) n:=xn fun k hk=>(qcm hk).symm
 rw[h1,zfd (f:=fun k i=>if i<=k then f i (k-i)else 0)];exact xn fun i hi=>qgn hi
theorem qir{f:Nat->Nat->Rat}{α β:Nat->Rat}(ha:Smb α)(hb:Smb β)(hf:∀i j,qk (f i j)<=α i*β j):Nul fun n=>sQ (fun i=>sQ (f i) n) n-trQ f n:=fun e he=>by
 obtain⟨A,hA,hA'⟩:=ha.bnd;obtain⟨B,hB,hB'⟩:=hb.bnd;obtain⟨q1,q2⟩:=zhc he (show 0<=A+B by grind);generalize e/(A+B+1)=d at*;obtain⟨N1,hN1⟩:=ha.tl2 q1;obtain⟨N2,hN2⟩:=hb.tl2 q1;refine⟨N1+N2,fun n hn=>?_⟩;show qk (sQ (fun i=>sQ (f i) n) n-trQ f n)<=e;rw[qf5,<-zpj];refine q8 zpl ?_;have h1:∀i,i<=n->qk (sQ (f i) n-sQ (f i) (n-i))<=α i*(sQ β n-sQ β (n-i)):=fun i hi=>by
  have:=qgl (f:=f i) (g:=fun j=>α i*β j) (hf i) (O:n-i<=n);rw[ju,ju]at this;grind
 refine q8 (zfe h1) ?_;have h2:∀i,i<=n->α i*(sQ β n-sQ β (n-i))<=d*α i+B*(if i<=n-N2 then 0 else α i):=fun i hi=>by
  have h0:=ha.nn i;by_cases c:i<=n-N2
  .rw[Z4 c];have h3:=hN2 (n-i) n O O;have:=q0 h3 h0;grind
  .rw[Z5 c];have h3:=hB' n;have h4:=zs6 (k:=n-i) fun j _=>hb.nn j
   have:=q0 (show sQ β n-sQ β (n-i)<=B by grind) h0;have:=qB (qF q1) h0;grind
 refine q8 (zfe h2) ?_;rw[zpk,ju,ju];have h5:sQ (fun i=>if i<=n-N2 then 0 else α i) n=sQ α n-sQ α (n-N2):=by
  rw[<-qcm (f:=α) (k:=n-N2) (n:=n) O,<-zpj];refine xn fun i _=>?_
  split<;>grind
 rw[h5];have h6:=hN1 (n-N2) n O O;have h7:=q0 h6 hB;have h8:=q0 (hA' n) (qF q1);grind
theorem arch(q:Rat):∃n:Nat,q<=(n:Rat):=by
 refine⟨(q.floor+1).toNat,?_⟩;have h1:=Rat.lt_floor_add_one q;have h2:((q.floor+1:Int):Rat)<=(((q.floor+1).toNat :Int):Rat):=Rat.intCast_le_intCast.2 O;rw[qP]at h2;grind
def rQ(u:Rat):Nat->Rat
 |0=>1
 |j+1=>rQ u j*u*(1/((j+1:Nat):Rat))
theorem zjb(j:Nat):(0:Rat)<=1/((j+1:Nat):Rat)/\(1:Rat)/((j+1:Nat):Rat)<=1:=by
 have h:(1:Rat)<=((j+1:Nat):Rat):=by
  have:=(q7 (a:=1) (b:=j+1)).2 O;simpa using this
 have h3:(0:Rat)<((j+1:Nat):Rat)⁻¹ :=qW.2 (by grind);have h4:=qH ((j+1:Nat):Rat) (by grind);have h5:=qC h (qF h3);rw[qQ,qK];exact⟨qF h3,by grind⟩
theorem rQ_s(u:Rat)(j:Nat):((j+1:Nat):Rat)*rQ u (j+1)=u*rQ u j:=by
 have h0:(0:Rat)<((j+1:Nat):Rat):=qS.2 O;have h4:=qH ((j+1:Nat):Rat) (by grind);rw[show rQ u (j+1)=rQ u j*u*(1/((j+1:Nat):Rat))from rfl,qQ,qK];generalize ((j+1:Nat):Rat)=c at*;generalize rQ u j=q;grind
theorem zil{u:Rat}(h:0<=u):∀j,0<=rQ u j
 |0=>by unfold rQ;decide
 |j+1=>qB (qB (zil h j) h) (zjb j).1
theorem ztj(u:Rat):∀j,qk (rQ u j)=rQ (qk u) j
 |0=>qaj
 |j+1=>by
  unfold rQ;rw[zbl,zbl,ztj u j,jq (zjb j).1]
theorem zn2{u:Rat}(h:0<=u){K:Nat}(hu:u*2<=((K+1:Nat):Rat)){j:Nat}(hj:K<=j):rQ u (j+1)*2<=rQ u j:=by
 have h1:((K+1:Nat):Rat)<=((j+1:Nat):Rat):=q7.2 O;have h0:(0:Rat)<((j+1:Nat):Rat):=qS.2 O;have hm:=qH ((j+1:Nat):Rat) (by grind);have hi:(0:Rat)<=((j+1:Nat):Rat)⁻¹ :=qF (qW.2 h0);have h2:(u*2)*((j+1:Nat):Rat)⁻¹ <=1:=by
  have:=qC (q8 hu h1) hi;rw[hm]at this;exact this
 have h3:=q0 h2 (zil h j);rw[show rQ u (j+1)=rQ u j*u*(1/((j+1:Nat):Rat))from rfl,qQ,qK];generalize ((j+1:Nat):Rat)⁻¹ =c at*;generalize rQ u j=q at*;grind
theorem zth{u:Rat}(h:0<=u){K:Nat}(hu:u*2<=((K+1:Nat):Rat)):∀d:Nat,sQ (rQ u) (K+d)-sQ (rQ u) K<=rQ u K-rQ u (K+d)
 |0=>by rw[qV,qN,qN];exact q6
 |d+1=>by
  have h1:=zth h hu d;have h2:=zn2 h hu (j:=K+d) O;show sQ (rQ u) (K+d)+rQ u (K+d+1)-sQ (rQ u) K<=rQ u K-rQ u (K+d+1);grind
theorem qal{u:Rat}(h:0<=u){K:Nat}(hu:u*2<=((K+1:Nat):Rat)):∀d:Nat,rQ u (K+d)*((d+1:Nat):Rat)<=rQ u K
 |0=>by
  rw[show((0+1:Nat):Rat)=1 from rfl];simp
 |d+1=>by
  have h1:=qal h hu d;have h2:=zn2 h hu (j:=K+d) O;have h3:((d+1+1:Nat):Rat)<=2*((d+1:Nat):Rat):=by
   have:=(q7 (a:=d+1+1) (b:=2*(d+1))).2 O;rw[Rat.natCast_mul]at this;exact this
  have h4:=q0 h3 (zil h (K+d+1));have h5:=qC h2 (zt4 (d+1));show rQ u (K+d+1)*((d+1+1:Nat):Rat)<=rQ u K;grind
theorem zxj{u:Rat}:∃K:Nat,u*2<=((K+1:Nat):Rat):=by
 obtain⟨n,hn⟩:=arch (u*2);refine⟨n,q8 hn (q7.2 O)⟩
theorem zxi{u:Rat}(h:0<=u){e:Rat}(he:0<e):∃N:Nat,u*2<=((N+1:Nat):Rat)/\∀n,N<=n->rQ u n<=e:=by
 obtain⟨K,hK⟩:=zxj (u:=u);obtain⟨m,hm⟩:=arch (rQ u K/e);have hB:rQ u K<=e*(m:Rat):=by
  have:=q0 hm (qF he);have h2:=qH e (by grind);rw[qQ,show e*(rQ u K*e⁻¹)=rQ u K*(e*e⁻¹) by grind,h2,qY]at this;exact this
 have hK':u*2<=((K+m+1:Nat):Rat):=q8 hK (q7.2 O);refine⟨K+m,hK',fun n hn=>?_⟩;obtain⟨d,rfl⟩:=qD hn;have h1:=qal h hK (m+d);rw[<-Nat.add_assoc]at h1;have h2:((m:Nat):Rat)<=((m+d+1:Nat):Rat):=q7.2 O;have h3:=q0 h2 (qF he);have h4:rQ u (K+m+d)*((m+d+1:Nat):Rat)<=e*((m+d+1:Nat):Rat):=by grind
 exact qM h4 (qS.2 O)
theorem ztk{u:Rat}(h:0<=u):Smb (rQ u):=by
 refine⟨zil h,fun e he=>?_⟩;obtain⟨N,h1,h2⟩:=zxi h he;refine⟨N,fun n hn=>?_⟩;obtain⟨d,rfl⟩:=qD hn;have h3:=zth h h1 d;have h4:=zil h (N+d);have h5:=h2 N (q5 _);grind
theorem zke{f:Nat->Rat}:∀ {k:Nat},sQ f (k+1)=f 0+sQ (fun i=>f (i+1)) k
 |0=>rfl
 |k+1=>by
  show sQ f (k+1)+f (k+1+1)=f 0+(sQ (fun i=>f (i+1)) k+f (k+1+1));rw[zke];grind
theorem zti(x y:Rat):∀k:Nat,sQ (fun i=>rQ x i*rQ y (k-i)) k=rQ (x+y) k
 |0=>by exact qK 1
 |k+1=>by
  have ih:=zti x y k;have h0:(0:Rat)<((k+1:Nat):Rat):=qS.2 O;have hs:=rQ_s (x+y) k;have key:((k+1:Nat):Rat)*sQ (fun i=>rQ x i*rQ y (k+1-i)) (k+1)=(x+y)*sQ (fun i=>rQ x i*rQ y (k-i)) k:=by
   rw[<-ju];have e1:sQ (fun i=>((k+1:Nat):Rat)*(rQ x i*rQ y (k+1-i))) (k+1)=sQ (fun i=>(i:Rat)*(rQ x i*rQ y (k+1-i))+((k+1-i:Nat):Rat)*(rQ x i*rQ y (k+1-i))) (k+1):=xn fun i hi=>by
    have:((k+1:Nat):Rat)=(i:Rat)+((k+1-i:Nat):Rat):=by rw[<-wC];congr 1;omega
    rw[this];grind
   rw[e1,zpk];have e2:sQ (fun i=>(i:Rat)*(rQ x i*rQ y (k+1-i))) (k+1)=x*sQ (fun i=>rQ x i*rQ y (k-i)) k:=by
    rw[zke,<-ju];have:sQ (fun i=>((i+1:Nat):Rat)*(rQ x (i+1)*rQ y (k+1-(i+1)))) k=sQ (fun i=>x*(rQ x i*rQ y (k-i))) k:=xn fun i hi=>by
     have h1:=rQ_s x i;rw[(O:k+1-(i+1)=k-i)];grind
    rw[this];rw[show((0:Nat):Rat)=0 from rfl,w7,wi]
   have e3:sQ (fun i=>((k+1-i:Nat):Rat)*(rQ x i*rQ y (k+1-i))) (k+1)=y*sQ (fun i=>rQ x i*rQ y (k-i)) k:=by
    show sQ (fun i=>((k+1-i:Nat):Rat)*(rQ x i*rQ y (k+1-i))) k+((k+1-(k+1):Nat):Rat)*(rQ x (k+1)*rQ y (k+1-(k+1)))=_;rw[w8,show((0:Nat):Rat)=0 from rfl,w7,w9,<-ju];exact xn fun i hi=>by
     have h1:=rQ_s y (k-i);rw[(O:k+1-i=k-i+1)];grind
   rw[e2,e3];grind
  rw[ih,<-hs]at key;have:=q6 (a:=((k+1:Nat):Rat)*sQ (fun i=>rQ x i*rQ y (k+1-i)) (k+1));refine zd3 (qM (c:=((k+1:Nat):Rat)) ?_ h0) (qM (c:=((k+1:Nat):Rat)) ?_ h0)<;>grind
def lI(s:Nat->Rat)(x:Iv):Prop:=∀e:Rat,0<e->∃N:Nat,∀n,N<=n->∃q,inI q x/\qk (s n-q)<=e
theorem qhm{s:Nat->Rat}{x:Iv}(N:Nat)(h:∀n,N<=n->inI (s n) x):lI s x:=fun e he=>⟨N,fun n hn=>⟨s n,h n hn,by rw[qN,zg8];grind⟩⟩
theorem qhn{q:Rat}{x:Iv}(h:inI q x):lI (fun _=>q) x:=qhm 0 fun _ _=>h
theorem lI.nul{s t:Nat->Rat}{x:Iv}(h:lI s x)(hn:Nul fun n=>s n-t n):lI t x:=fun e he=>by
 obtain⟨h1,h2⟩:=zgs he;obtain⟨N,hN⟩:=h _ h1;obtain⟨M,hM⟩:=hn _ h1;refine⟨N+M,fun n hk=>?_⟩;obtain⟨q,hq,hd⟩:=hN n O;have h3:=hM n O;refine⟨q,hq,?_⟩;have h4:=zpn (s n-q) (s n-t n);rw[show s n-q-(s n-t n)=t n-q by grind]at h4;grind
theorem zul{s t:Nat->Rat}{x y:Iv}(hx:VI x)(hy:VI y){p:Int}(hp:pcB p=true)(hs:lI s x)(ht:lI t y):lI (fun n=>s n+t n) (yp x y p):=fun e he=>by
 obtain⟨h1,h2⟩:=zgs he;obtain⟨N,hN⟩:=hs _ h1;obtain⟨M,hM⟩:=ht _ h1;refine⟨N+M,fun n hk=>?_⟩;obtain⟨q,hq,hd⟩:=hN n O;obtain⟨r,hr,hc⟩:=hM n O;refine⟨q+r,zqs hx hy hp hq hr,?_⟩;have h4:=zd4 (s n-q) (t n-r);rw[show s n-q+(t n-r)=s n+t n-(q+r) by grind]at h4;grind
theorem qa2{s t:Nat->Rat}{x y:Iv}(hx:VI x)(hy:VI y){p:Int}(hp:pcB p=true)(hs:lI s x)(ht:lI t y)(bs:Bnd s)(bt:Bnd t):lI (fun n=>s n*t n) (kf x y p):=fun e he=>by
 obtain⟨B,hB,hB'⟩:=bs;obtain⟨C,hC,hC'⟩:=bt;obtain⟨d,d0,d1,d2⟩:∃d:Rat,0<d/\d<=1/\(B+C+1)*d<=e:=by
  obtain⟨q1,q2⟩:=zhc he (show 0<=B+C+1 by grind);rcases wF (a:=e/(B+C+1+1)) (b:=1)with c|c
  .exact⟨_,q1,c,q2⟩
  .refine⟨1,OA,q6,?_⟩;have:=q0 c (show 0<=B+C+1 by grind);grind
 obtain⟨N,hN⟩:=hs d d0;obtain⟨M,hM⟩:=ht d d0;refine⟨N+M,fun n hk=>?_⟩;obtain⟨q,hq,hd⟩:=hN n O;obtain⟨r,hr,hc⟩:=hM n O;refine⟨q*r,zf3 hx hy hp hq hr,?_⟩;have e1:s n*t n-q*r=(s n-q)*t n+q*(t n-r):=by grind
 have h3:=zd4 ((s n-q)*t n) (q*(t n-r));rw[zbl,zbl]at h3;have hq1:qk q<=B+1:=by
  have h4:=zpn (s n) (s n-q);rw[show s n-(s n-q)=q by grind]at h4;have:=hB' n;grind
 have h5:=zco (qj (s n-q)) hd (qj (t n)) (hC' n);have h6:=zco (qj q) hq1 (qj (t n-r)) hc;rw[e1];grind
theorem lI_id{s:Nat->Rat}{x y:Iv}(hi:∀q,inI q x->inI q y)(h:lI s x):lI s y:=fun e he=>by
 obtain⟨N,hN⟩:=h e he;refine⟨N,fun n hn=>?_⟩;obtain⟨q,hq,hd⟩:=hN n hn;exact⟨q,hi q hq,hd⟩
theorem qho{s:Nat->Rat}{x:Iv}(h:lI s x)(ha:x.all=false){e:Rat}(he:0<e):∃N:Nat,∀n,N<=n->dv x.lo-e<=s n/\s n<=dv x.hi+e:=by
 obtain⟨N,hN⟩:=h e he;refine⟨N,fun n hn=>?_⟩;obtain⟨q,hq,hd⟩:=hN n hn;rcases hq with c|⟨h1,h2⟩
 .rw[ha]at c;cases c
 have h3:=zb1 (s n-q);constructor<;>grind
theorem qhl{a b:Rat}(h:∀e:Rat,0<e->a<=b+e):a<=b:=by
 rcases wF (a:=a) (b:=b)with c|c
 .exact c
 .by_cases k:0<a-b
  .have:=h ((a-b)/2) (zgs k).1;grind
  .grind
theorem zuk{s:Nat->Rat}{x y:Iv}(hx:lI s x)(hy:lI s y)(kx:x.all=false)(ky:y.all=false):dv x.lo<=dv y.hi:=qhl fun e he=>by
 obtain⟨h1,h2⟩:=zgs he;obtain⟨N,hN⟩:=qho hx kx h1;obtain⟨M,hM⟩:=qho hy ky h1;have a:=(hN (N+M) O).1;have b:=(hM (N+M) O).2;grind
theorem zv3{n k:Nat}{m:Mx}(h:VM n k m){i j:Nat}(hi:i<n)(hj:j<k):∃r,m[i]? =some r/\r∈m/\r.length=k/\r[j]? =some (atM m i j):=by
 have hi:i<m.length:=by rw[h.len];exact hi
 have hm:=qJ hi;have hl:=h.row _ hm;refine⟨m[i],q9 hi,hm,hl,?_⟩;have hj:j<m[i].length :=by rw[hl];exact hj
 unfold atM;rw[q9 hi,qZ,q9 hj];rfl
theorem zci{m:Mx}{i j:Nat}{r:List Iv}{x:Iv}(h:m[i]? =some r)(hx:r[j]? =some x):atM m i j=x:=by
 unfold atM;rw[h,qZ,hx];rfl
theorem zv4{n k:Nat}{m:Mx}(h:VM n k m){f:Nat->Nat->Iv->Iv}{i j:Nat}(hi:i<n)(hj:j<k):atM (xt f m) i j=f i j (atM m i j):=by
 obtain⟨r,h1,_,_,h4⟩:=zv3 h hi hj;refine zci (r:=r.mapIdx fun j x=>f i j x) ?_ ?_
 .unfold xt;rw[qI,h1];rfl
 .rw[qI,h4];rfl
theorem qbn{n k:Nat}{m:Mx}(h:VM n k m){f:Iv->Iv}{i j:Nat}(hi:i<n)(hj:j<k):atM (m.map fun r=>r.map f) i j=f (atM m i j):=by
 obtain⟨r,h1,_,_,h4⟩:=zv3 h hi hj;refine zci (r:=r.map f) ?_ ?_
 .rw[qE,h1];rfl
 .rw[qE,h4];rfl
theorem zzg{n k:Nat}{m:Mx}(h:VM n k m){p:Int}{i j:Nat}(hi:i<n)(hj:j<k):atM (rdM m p) i j=ux (atM m i j) p:=qbn h hi hj
theorem qe0{n k:Nat}{m:Mx}(h:VM n k m){e:Iv}{p:Int}{i j:Nat}(hi:i<n)(hj:j<k):atM (arM m e p) i j=yp (atM m i j) (zbr (ze6 e) e) p:=qbn h hi hj
theorem qi5{n:Nat}(h:1<=n/\n<=8){i j:Nat}(hi:i<n)(hj:j<n):atM (idM n) i j=whI (if i=j then 1 else 0):=by
 refine zci (r:=(w0 n).map fun j=>whI (if i=j then 1 else 0)) ?_ ?_
 .unfold idM;rw[Z5 O,qE,qT hi];rfl
 .rw[qE,qT hj];rfl
theorem zzf{n k:Nat}{a:Mx}(h:VM n k a){x:Iv}(hx:VI x){p:Int}(hp:pcB p=true){i j:Nat}(hi:i<n)(hj:j<k):atM (scM a x p) i j=kf x (atM a i j) p:=by
 unfold scM;rw[Z4 (by rw[h.ok,(wu hx.ri).2 hx,hp];rfl)];exact zv4 h hi hj
theorem zv5{n k:Nat}{a b:Mx}(ha:VM n k a)(hb:VM n k b){p:Int}(hp:pcB p=true){i j:Nat}(hi:i<n)(hj:j<k):atM (adM a b p).1 i j=yp (atM a i j) (atM b i j) p:=by
 unfold adM;rw[Z5 (by rw[ha.ok,hb.ok];simp),Z5 (by rw[hp];simp),Z5 (by rw[ha.len,hb.len,ha.hd,hb.hd];simp)];exact zv4 ha hi hj
def dtF(p:Int)(f g:Nat->Iv):Nat->Iv
 |0=>kf (f 0) (g 0) p
 |k+1=>yp (dtF p f g k) (kf (f (k+1)) (g (k+1)) p) p
theorem qii{p:Int}{f g:Nat->Iv}:∀(rs cs:List Iv)(d:Nat),rs.length=cs.length->(∀i x,rs[i]? =some x->x=f (d+1+i))->(∀i x,cs[i]? =some x->x=g (d+1+i))->dtG p rs cs (dtF p f g d)=dtF p f g (d+rs.length)
 | [],[],d,_,_,_=>rfl
 | [],_::_,_,h,_,_=>by simp at h
 | _::_,[],_,h,_,_=>by simp at h
 |x::rs,y::cs,d,hl,hr,hc=>by
  have e1:x=f (d+1):=hr 0 x rfl;have e2:y=g (d+1):=hc 0 y rfl;subst e1;subst e2;show dtG p rs cs (dtF p f g (d+1))=_;rw[qii rs cs (d+1) (by simpa using hl) (fun i x h=>by rw[hr (i+1) x h];congr 1;omega) (fun i x h=>by rw[hc (i+1) x h];congr 1;omega)]
  congr 1
  simp;omega
theorem qea{p:Int}{f g:Nat->Iv}{k:Nat}{r c:List Iv}(hr:r.length=k+1)(hc:c.length=k+1)(h1:∀i x,r[i]? =some x->x=f i)(h2:∀i x,c[i]? =some x->x=g i):dtM p r c=dtF p f g k:=by
 match r,c,hr,hc with
 |x::rs,y::cs,hr,hc=>
  have e1:x=f 0:=h1 0 x rfl;have e2:y=g 0:=h2 0 y rfl;subst e1;subst e2;have:=qii (p:=p) (f:=f) (g:=g) rs cs 0 (by simp at hr hc;omega) (fun i x h=>by rw[h1 (i+1) x h];congr 1;omega) (fun i x h=>by rw[h2 (i+1) x h];congr 1;omega);have hk:rs.length=k:=by simpa using hr
  rw[hk,w4]at this;exact this
theorem zv2{n k l:Nat}{a b:Mx}(ha:VM n (k+1) a)(hb:VM (k+1) l b){p:Int}(hp:pcB p=true){i j:Nat}(hi:i<n)(hj:j<l):atM (muM a b p).1 i j=dtF p (fun r=>atM a i r) (fun r=>atM b r j) k:=by
 unfold muM;rw[Z5 (by rw[ha.ok,hb.ok];simp),Z5 (by rw[hp];simp),Z5 (by rw[ha.hd,hb.len];simp)];have hr:∃r,a[i]? =some r/\r∈a:=⟨a[i]'(by rw[ha.len];exact hi),q9 (by rw[ha.len];exact hi),qJ _⟩;obtain⟨r,hr,hm⟩:=hr;have hl:=ha.row r hm;refine zci (r:=(w0 (hdL b)).map fun j=>dtM p r (zdm b j)) (by rw[qE,hr];rfl) ?_;rw[hb.hd,qE,qT hj];simp only[Option.map_some,Option.some.injEq];refine qea hl (by unfold zdm;rw[List.length_map,hb.len]) (fun q x hx=>(zci hr hx).symm) fun q x hx=>?_
 unfold zdm at hx;rw[qE,w3]at hx;obtain⟨s,hs,rfl⟩:=hx;have hsl:=hb.row s (qL hs);have hj2:j<s.length:=by rw[hsl];exact hj
 rw[q9 hj2];exact(zci hs (q9 hj2)).symm
theorem qd9{p:Int}(hp:pcB p=true){f g:Nat->Iv}{a b:Nat->Rat}:∀k:Nat,(∀i,i<=k->VI (f i)/\inI (a i) (f i))->(∀i,i<=k->VI (g i)/\inI (b i) (g i))->VI (dtF p f g k)/\inI (sQ (fun i=>a i*b i) k) (dtF p f g k)
 |0,hf,hg=>⟨jg (hf 0 (q5 _)).1 (hg 0 (q5 _)).1 hp,zf3 (hf 0 (q5 _)).1 (hg 0 (q5 _)).1 hp (hf 0 (q5 _)).2 (hg 0 (q5 _)).2⟩
 |k+1,hf,hg=>by
  obtain⟨h1,h2⟩:=qd9 hp k (fun i hi=>hf i O) (fun i hi=>hg i O);have f1:=hf (k+1) (q5 _);have g1:=hg (k+1) (q5 _);have hm:=jg f1.1 g1.1 hp;exact⟨zib h1 hm hp,zqs h1 hm hp h2 (zf3 f1.1 g1.1 hp f1.2 g1.2)⟩
structure inM(n k:Nat)(A:Nat->Nat->Rat)(m:Mx):Prop where
 v:VM n k m
 i:∀i j,i<n->j<k->inI (A i j) (atM m i j)
def dlt(i j:Nat):Rat:=if i=j then 1 else 0
def mQ(k:Nat)(A B:Nat->Nat->Rat):Nat->Nat->Rat:=fun i j=>sQ (fun r=>A i r*B r j) k
theorem zlj(n:Int):inI (n:Rat) (whI n):=.inr (by
 have e:dv (whI n).lo =(n:Rat):=uo n;have e':dv (whI n).hi =(n:Rat):=uo n;rw[e,e'];exact⟨q6,q6⟩)
theorem qh1{n:Nat}(h:1<=n/\n<=8):inM n n dlt (idM n):=by
 refine⟨zrl h,fun i j hi hj=>?_⟩;rw[qi5 h hi hj];unfold dlt;have:=zlj (if i=j then 1 else 0);split<;>simp_all
theorem zny{n k:Nat}{A:Nat->Nat->Rat}{a:Mx}(h:inM n k A a){x:Iv}(hx:VI x){c:Rat}(hc:inI c x){p:Int}(hp:pcB p=true):inM n k (fun i j=>c*A i j) (scM a x p):=by
 refine⟨yr h.v hx hp,fun i j hi hj=>?_⟩;rw[zzf h.v hx hp hi hj];exact zf3 hx (xw h.v hi hj) hp hc (h.i i j hi hj)
theorem zzl{n k:Nat}{A B:Nat->Nat->Rat}{a b:Mx}(ha:inM n k A a)(hb:inM n k B b){p:Int}(hp:pcB p=true):inM n k (fun i j=>A i j+B i j) (adM a b p).1:=by
 refine⟨(zbv ha.v hb.v hp).2,fun i j hi hj=>?_⟩;rw[zv5 ha.v hb.v hp hi hj];exact zqs (xw ha.v hi hj) (xw hb.v hi hj) hp (ha.i i j hi hj) (hb.i i j hi hj)
theorem mu_in{n k l:Nat}{A B:Nat->Nat->Rat}{a b:Mx}(ha:inM n (k+1) A a)(hb:inM (k+1) l B b){p:Int}(hp:pcB p=true):inM n l (mQ k A B) (muM a b p).1:=by
 refine⟨(zdf ha.v hb.v hp).2,fun i j hi hj=>?_⟩;rw[zv2 ha.v hb.v hp hi hj];exact(qd9 hp k (fun r hr=>⟨xw ha.v hi O,ha.i i r hi O⟩) fun r hr=>⟨xw hb.v O hj,hb.i r j O hj⟩).2
theorem ztd{x:Iv}(hx:VI x){p:Int}{q:Rat}(hq:inI q x):inI q (ux x p):=by
 unfold ux;split
 .rename_i c;have k:=(qb hx.ri).1 c.1;rcases hq with hq|hq
  .rw[k.all]at hq;cases hq
  exact qgq (yg k.lo (vg c.2)) (yg k.hi (vg c.2)) hq.1 hq.2
 .exact zzt _
def nQ(k:Nat)(A:Nat->Nat->Rat)(U:Rat):Prop:=∀i,i<=k->sQ (fun r=>qk (A i r)) k<=U
theorem zx3{k:Nat}{A:Nat->Nat->Rat}{U:Rat}(h:nQ k A U){i j:Nat}(hi:i<=k)(hj:j<=k):qk (A i j)<=U:=
 q8 (qcn (f:=fun r=>qk (A i r)) (fun _ _=>qj _) j hj) (h i hi)
theorem zn7{k:Nat}{A:Nat->Nat->Rat}{U:Rat}(h:nQ k A U):0<=U:=q8 (qj _) (zx3 h (wH k) (wH k))
theorem qav{k:Nat}{A B:Nat->Nat->Rat}{U V:Rat}(ha:nQ k A U)(hb:nQ k B V):nQ k (mQ k A B) (U*V):=fun i hi=>by
 have h1:sQ (fun j=>qk (mQ k A B i j)) k<=sQ (fun j=>sQ (fun r=>qk (A i r)*qk (B r j)) k) k:=zfe fun j _=>by
  have:=zpl (f:=fun r=>A i r*B r j) (k:=k);simp only[zbl]at this;exact this
 have h2:sQ (fun j=>sQ (fun r=>qk (A i r)*qk (B r j)) k) k=sQ (fun r=>qk (A i r)*sQ (fun j=>qk (B r j)) k) k:=by
  rw[zfd (f:=fun j r=>qk (A i r)*qk (B r j))];simp only[ju]
 have h3:sQ (fun r=>qk (A i r)*sQ (fun j=>qk (B r j)) k) k<=sQ (fun r=>V*qk (A i r)) k:=zfe fun r hr=>by
  have:=q0 (hb r hr) (qj (A i r));grind
 rw[ju]at h3;have h4:=q0 (ha i hi) (zn7 hb);rw[h2]at h1;grind
theorem nQ_sc{k:Nat}{A:Nat->Nat->Rat}{U c:Rat}(ha:nQ k A U)(hc:0<=c):nQ k (fun i j=>c*A i j) (c*U):=fun i hi=>by
 have e:(fun r=>qk (c*A i r))=fun r=>c*qk (A i r):=by
  funext r
  rw[zbl]
  congr 1
  unfold qk;split<;>grind
 rw[e,ju];exact q0 (ha i hi) hc
theorem zvf(i j:Nat):qk (dlt i j)=if i=j then 1 else 0:=by
 unfold dlt;by_cases h:i=j
 .simp only[Z4 h];exact qaj
 .simp only[Z5 h];exact zg8
theorem qab{i:Nat}:∀ {k:Nat},sQ (fun r=>qk (dlt i r)) k=if i<=k then 1 else 0
 |0=>by
  show qk (dlt i 0)=_;rw[zvf];by_cases h:i=0
  .rw[Z4 h,Z4 O]
  .rw[Z5 h,Z5 O]
 |k+1=>by
  show sQ (fun r=>qk (dlt i r)) k+qk (dlt i (k+1))=_;rw[qab,zvf];by_cases h:i=k+1
  .rw[Z5 O,Z4 h,Z4 O];grind
  .by_cases h2:i<=k
   .rw[Z4 h2,Z5 h,Z4 O];grind
   .rw[Z5 h2,Z5 h,Z5 O];grind
theorem qaw{k:Nat}:nQ k dlt 1:=fun i hi=>by rw[qab,Z4 hi];exact q6
def tQ(k:Nat)(A:Nat->Nat->Rat):Nat->Nat->Nat->Rat
 |0=>dlt
 |j+1=>fun a b=>(1/((j+1:Nat):Rat))*mQ k (tQ k A j) A a b
def eQ(k:Nat)(A:Nat->Nat->Rat):Nat->Nat->Nat->Rat
 |0=>dlt
 |j+1=>fun a b=>eQ k A j a b+tQ k A (j+1) a b
def fQ(k:Nat)(A:Nat->Nat->Rat):Nat->Nat->Nat->Rat
 |0=>dlt
 |j+1=>fun a b=>fQ k A j a b+(1/((j+2:Nat):Rat))*tQ k A (j+1) a b
theorem nQ_t{k:Nat}{A:Nat->Nat->Rat}{U:Rat}(h:nQ k A U):∀j,nQ k (tQ k A j) (rQ U j)
 |0=>qaw
 |j+1=>by
  have:=nQ_sc (qav (nQ_t h j) h) (zjb j).1;rw[show rQ U (j+1)=1/((j+1:Nat):Rat)*(rQ U j*U)from(qU _ _)];exact this
theorem zvb{k:Nat}{A:Nat->Nat->Rat}{U:Rat}(h:nQ k A U){K:Nat}(hu:U*2<=((K+1:Nat):Rat)){a b:Nat}(ha:a<=k)(hb:b<=k):∀d:Nat,
 (qk (eQ k A (K+d) a b-eQ k A K a b)<=rQ U K-rQ U (K+d))/\(qk (fQ k A (K+d) a b-fQ k A K a b)<=rQ U K-rQ U (K+d))
 |0=>by
  constructor<;>
  .rw[qV,qN,qN,zg8];exact q6
 |d+1=>by
  obtain⟨h1,h2⟩:=zvb h hu ha hb d;have ht:=zx3 (nQ_t h (K+d+1)) ha hb;have hr:=zn2 (zn7 h) hu (j:=K+d) O;have hi:=zjb (K+d+1);have hr0:=zil (zn7 h) (K+d+1);have e1:eQ k A (K+(d+1)) a b=eQ k A (K+d) a b+tQ k A (K+d+1) a b:=rfl;have e2:fQ k A (K+(d+1)) a b=fQ k A (K+d) a b+(1/((K+d+1+1:Nat):Rat))*tQ k A (K+d+1) a b:=rfl;have hc:qk ((1/((K+d+1+1:Nat):Rat))*tQ k A (K+d+1) a b)<=rQ U (K+d+1):=by
   rw[zbl];have e:qk (1/((K+d+1+1:Nat):Rat))=1/((K+d+1+1:Nat):Rat):=by have:=hi.1;unfold qk;split<;>grind
   rw[e];have:=qC hi.2 (qj (tQ k A (K+d+1) a b));grind
  rw[e1,e2,show K+(d+1)=K+d+1 from rfl];generalize (1/((K+d+1+1:Nat):Rat))*tQ k A (K+d+1) a b=y at*;generalize tQ k A (K+d+1) a b=x at*;generalize rQ U (K+d+1)=r1 at*;generalize rQ U (K+d)=r0 at*;generalize eQ k A (K+d) a b=z at*;generalize fQ k A (K+d) a b=w at*;unfold qk at*;constructor
  .split at h1<;>split at ht<;>split<;>grind
  .split at h2<;>split at hc<;>split<;>grind
theorem zyq{e:Iv}(he:VI e){q:Rat}(h:e.all=true\/(-dv e.hi<=q/\q<=dv e.hi)):inI q (zbr (ze6 e) e):=by
 rcases he with k|rfl
 .have hn:KI (ze6 e):=by
   have:=zl5 (.inl k);rw[zi7 k]at this⊢;exact(xi this).1 rfl
  rw[k.all]at h;rcases h with c|⟨h1,h2⟩
  .cases c
  unfold zbr;rw[Z4 ((zek hn.ri k.ri).2 ⟨hn,k⟩),zi7 k];right;obtain⟨a1,a2,_⟩:=zhf (jm e.hi) e.lo;obtain⟨b1,b2,_⟩:=zb3 (jm e.lo) e.hi;rw[za4]at a1 b1;constructor
  .show dv (za0 (jm e.hi) e.lo)<=q;grind
  .show q<=dv (xc (jm e.lo) e.hi);grind
 .unfold zbr;rw[Z5 (by simp[kB,wI0])];exact zzt _
theorem qi6{n k:Nat}{A D:Nat->Nat->Rat}{m:Mx}(h:inM n k A m){e:Iv}(he:VI e)(hD:∀i j,i<n->j<k->e.all=true\/(-dv e.hi<=D i j/\D i j<=dv e.hi)){p:Int}(hp:pcB p=true):inM n k (fun i j=>A i j+D i j) (arM m e p):=by
 refine⟨zv6 h.v he hp,fun i j hi hj=>?_⟩;rw[qe0 h.v hi hj];exact zqs (xw h.v hi hj) (zky (zl5 he).ri he.ri) hp (h.i i j hi hj) (zyq he (hD i j hi hj))
theorem inM.cg{n k:Nat}{A B:Nat->Nat->Rat}{m:Mx}(h:inM n k A m)(e:∀i j,i<n->j<k->A i j=B i j):inM n k B m:=⟨h.v,fun i j hi hj=>by rw[<-e i j hi hj];exact h.i i j hi hj⟩
theorem qit{j:Nat}(h:1<=j)(h2:j<=1000000){p:Int}(hp:pcB p=true):inI (1/(j:Rat)) (byI j p):=by
 have:=zvj (uz (n:=1) OA) (uz (n:=(j:Int)) O) hp (zlj 1) (zlj (j:Int));rw[qP]at this;simpa[byI]using this
structure sIn(k K:Nat)(A:Nat->Nat->Rat)(U:Rat)(s:MSt)(r:Iv):Prop where
 t:inM (k+1) (k+1) (tQ k A K) s.term
 e:inM (k+1) (k+1) (eQ k A K) s.exp
 f:inM (k+1) (k+1) (fQ k A K) s.phi
 r1:VI r
 r2:inI (rQ U K) r
theorem zz4{k K:Nat}{A:Nat->Nat->Rat}{U:Rat}{s:MSt}{r:Iv}(h:sIn k K A U s r){m:Mx}(hm:inM (k+1) (k+1) A m){u:Iv}(hu:VI u)(hU:inI U u){p:Int}(hp:pcB p=true)(hK:K<=100000):
 sIn k (K+1) A U (ze5 m p (K+1) s) (zwk u p (K+1) r):=by
 have b1:=zgd (k:=K+1) O O hp;have b2:=zgd (k:=K+2) O O hp;have c1:=qit (j:=K+1) O O hp;have c2:=qit (j:=K+2) O O hp;have ht:=zny (mu_in h.t hm hp) b1 c1 hp;refine⟨ht,zzl h.e ht hp,zzl h.f (zny ht b2 c2 hp) hp,jg (jg h.r1 hu hp) b1 hp,?_⟩;exact zf3 (jg h.r1 hu hp) b1 hp (zf3 h.r1 hu hp h.r2 hU) c1
theorem zz9{k:Nat}{A:Nat->Nat->Rat}{U:Rat}{m:Mx}(hm:inM (k+1) (k+1) A m){u:Iv}(hu:VI u)(hU:inI U u){p:Int}(hp:pcB p=true):∀(n K:Nat)(s:MSt)(r:Iv),K+n<=100000->sIn k K A U s r->
 ∃K',K+min n 1<=K'/\K'<=K+n/\sIn k K' A U (zad m u p n (K+1) s r).1 (zad m u p n (K+1) s r).2/\(K'=K+n\/zlp (zad m u p n (K+1) s r).2 p=true)
 |0,K,s,r,_,h=>⟨K,O,O,h,.inl rfl⟩
 |n+1,K,s,r,hK,h=>by
  have hs:=zz4 h hm hu hU hp O;unfold zad;by_cases c:zlp (zwk u p (K+1) r) p=true
  .rw[Z4 c];exact⟨K+1,O,O,hs,.inr c⟩
  .rw[Z5 c];obtain⟨K',h1,h2,h3,h4⟩:=zz9 hm hu hU hp n (K+1) _ _ O hs;exact⟨K',O,O,h3,by rcases h4 with h4|h4;exact .inl O;exact .inr h4⟩
def pQ(k:Nat)(A:Nat->Nat->Rat):Nat->Nat->Nat->Rat
 |0=>dlt
 |j+1=>mQ k (pQ k A j) A
theorem qij(i:Nat):dlt i i=1:=Z4 rfl
theorem qik{i j:Nat}(h:i≠j):dlt i j=0:=Z5 h
theorem qgo{f:Nat->Rat}{j:Nat}:∀ {k:Nat},sQ (fun r=>f r*dlt r j) k=if j<=k then f j else 0
 |0=>by
  show f 0*dlt 0 j=_;by_cases h:j=0
  .subst h;rw[qij,Z4 (q5 _),qY]
  .rw[qik (fun c=>h c.symm),Z5 O,wG]
 |k+1=>by
  show sQ (fun r=>f r*dlt r j) k+f (k+1)*dlt (k+1) j=_;rw[qgo];by_cases h:j=k+1
  .subst h;rw[qij,Z5 O,Z4 (q5 _),qY,wi]
  .rw[qik (fun c=>h c.symm),wG,w9];by_cases h2:j<=k
   .rw[Z4 h2,Z4 O]
   .rw[Z5 h2,Z5 O]
theorem qhe{k:Nat}{A:Nat->Nat->Rat}{a b:Nat}(hb:b<=k):mQ k A dlt a b=A a b:=by
 unfold mQ;rw[qgo,Z4 hb]
theorem zyc{k:Nat}{A B C:Nat->Nat->Rat}{a b:Nat}:mQ k (mQ k A B) C a b=mQ k A (mQ k B C) a b:=by
 unfold mQ;have e1:(fun r=>sQ (fun q=>A a q*B q r) k*C r b)=fun r=>sQ (fun q=>A a q*(B q r*C r b)) k:=by
  funext r
  rw[qU,<-ju];exact xn fun q _=>by grind
 have e2:(fun q=>A a q*sQ (fun r=>B q r*C r b) k)=fun q=>sQ (fun r=>A a q*(B q r*C r b)) k:=by
  funext q;rw[ju]
 rw[e1,e2,zfd]
theorem mQ_cg{k:Nat}{A A' B B':Nat->Nat->Rat}{a b:Nat}(h1:∀r,r<=k->A a r=A' a r)(h2:∀r,r<=k->B r b=B' r b):mQ k A B a b=mQ k A' B' a b:=xn fun r hr=>by rw[h1 r hr,h2 r hr]
theorem qaq{k:Nat}{A:Nat->Nat->Rat}{a:Nat}(i:Nat):∀(j b:Nat),b<=k->mQ k (pQ k A i) (pQ k A j) a b=pQ k A (i+j) a b
 |0,b,hb=>qhe hb
 |j+1,b,hb=>by
  show mQ k (pQ k A i) (mQ k (pQ k A j) A) a b=mQ k (pQ k A (i+j)) A a b;rw[<-zyc];exact mQ_cg (fun r hr=>qaq i j r hr) fun r _=>rfl
theorem nQ_p{k:Nat}{A:Nat->Nat->Rat}{U:Rat}(h:nQ k A U):∀j,nQ k (pQ k A j) (rpw U j)
 |0=>qaw
 |j+1=>by
  have:=qav (nQ_p h j) h;rw[show rpw U (j+1)=rpw U j*U from rfl];exact this
theorem ztb(U:Rat)(i:Nat):∀j,rpw U (i+j)=rpw U i*rpw U j
 |0=>(qY _).symm
 |j+1=>by
  show rpw U (i+j)*U=rpw U i*(rpw U j*U);rw[ztb U i j];grind
def gQ(c:Nat->Rat)(k:Nat)(A:Nat->Nat->Rat)(n:Nat):Nat->Nat->Rat:=fun a b=>sQ (fun i=>c i*pQ k A i a b) n
theorem zpo(x U:Rat):∀i,rQ x i*rpw U i=rQ (x*U) i
 |0=>by exact qK 1
 |i+1=>by
  have ih:=zpo x U i;have e:rpw U (i+1)=rpw U i*U:=rfl;rw[e];unfold rQ;rw[<-ih];grind
theorem gQ_bd{c:Nat->Rat}{k:Nat}{A:Nat->Nat->Rat}{U x C:Rat}(h:nQ k A U)(hc:∀i,qk (c i)<=C*rQ x i){a b:Nat}(ha:a<=k)(hb:b<=k)(i:Nat):qk (c i*pQ k A i a b)<=C*rQ (x*U) i:=by
 rw[zbl,<-zpo];have:=zco (qj _) (hc i) (qj _) (zx3 (nQ_p h i) ha hb);grind
theorem qa8{c:Nat->Rat}{k:Nat}{A:Nat->Nat->Rat}{U x C:Rat}(h:nQ k A U)(hx:0<=x)(hC:0<=C)(hc:∀i,qk (c i)<=C*rQ x i){a b:Nat}(ha:a<=k)(hb:b<=k):Bnd fun n=>gQ c k A n a b:=
 ((ztk (qB hx (zn7 h))).sc hC).of fun i=>gQ_bd h hc ha hb i
theorem qa7{c d:Nat->Rat}{k:Nat}{A:Nat->Nat->Rat}{U x y C D:Rat}(h:nQ k A U)(hx:0<=x)(hy:0<=y)(hC:0<=C)(hD:0<=D)(hc:∀i,qk (c i)<=C*rQ x i)(hd:∀i,qk (d i)<=D*rQ y i){a b:Nat}(ha:a<=k)(hb:b<=k):
 Nul fun n=>mQ k (gQ c k A n) (gQ d k A n) a b-gQ (fun q=>sQ (fun i=>c i*d (q-i)) q) k A n a b:=by
 have hU:=zn7 h;have hp:∀i j,qk (c i*d j*pQ k A (i+j) a b)<=C*rQ (x*U) i*(D*rQ (y*U) j):=fun i j=>by
  have h1:=zx3 (nQ_p h (i+j)) ha hb;have e:∀i,rpw U (i+j)=rpw U i*rpw U j:=fun i=>ztb U i j
  rw[e]at h1;rw[zbl,zbl,<-zpo,<-zpo];have h2:=zco (qj (c i)) (hc i) (qj (d j)) (hd j);have h3:=zco (qB (qj (c i)) (qj (d j))) h2 (qj _) h1;grind
 have h1:=qir (f:=fun i j=>c i*d j*pQ k A (i+j) a b) ((ztk (qB hx hU)).sc hC) ((ztk (qB hy hU)).sc hD) hp;refine h1.cg fun n=>?_
 have e1:sQ (fun i=>sQ (fun j=>c i*d j*pQ k A (i+j) a b) n) n=mQ k (gQ c k A n) (gQ d k A n) a b:=by
  have e2:(fun i=>sQ (fun j=>c i*d j*pQ k A (i+j) a b) n)=fun i=>sQ (fun r=>(c i*pQ k A i a r)*gQ d k A n r b) k:=by
   funext i
   have e3:(fun r=>(c i*pQ k A i a r)*gQ d k A n r b)=fun r=>sQ (fun j=>c i*d j*(pQ k A i a r*pQ k A j r b)) n:=by
    funext r
    unfold gQ;rw[<-ju];exact xn fun j _=>by grind
   rw[e3,zfd];exact xn fun j _=>by
    rw[ju];have:=qaq (k:=k) (A:=A) (a:=a) i j b hb;unfold mQ at this;rw[this]
  rw[e2,zfd];unfold mQ;exact xn fun r _=>by
   show sQ (fun i=>c i*pQ k A i a r*gQ d k A n r b) n=gQ c k A n a r*gQ d k A n r b;rw[qU (gQ c k A n a r)];show _=gQ d k A n r b*sQ (fun i=>c i*pQ k A i a r) n;rw[<-ju];exact xn fun i _=>by grind
 have e4:trQ (fun i j=>c i*d j*pQ k A (i+j) a b) n=gQ (fun q=>sQ (fun i=>c i*d (q-i)) q) k A n a b:=by
  unfold trQ gQ;exact xn fun q _=>by
   rw[qU,<-ju];exact xn fun i hi=>by
    show c i*d (q-i)*pQ k A (i+(q-i)) a b=pQ k A q a b*(c i*d (q-i));rw[(O:i+(q-i)=q)];grind
 rw[e1,e4]
def xQ(k:Nat)(A:Nat->Nat->Rat)(t:Rat)(n:Nat):Nat->Nat->Rat:=gQ (rQ t) k A n
def yQ(k:Nat)(A:Nat->Nat->Rat)(t:Rat)(n:Nat):Nat->Nat->Rat:=gQ (fun i=>rQ t (i+1)) k A n
theorem cx(t:Rat)(i:Nat):qk (rQ t i)<=1*rQ (qk t) i:=by rw[ztj,qK];exact q6
theorem rQ_1{u:Rat}(hu:0<=u)(i:Nat):rQ u (i+1)<=u*rQ u i:=by
 have h1:=zjb i;have h2:=zil hu i;have h3:=q0 h1.2 (qB h2 hu);rw[show rQ u (i+1)=rQ u i*u*(1/((i+1:Nat):Rat))from rfl];generalize 1/((i+1:Nat):Rat)=c at*;generalize rQ u i=q at*;grind
theorem cy(t:Rat)(i:Nat):qk (rQ t (i+1))<=qk t*rQ (qk t) i:=by rw[ztj];exact rQ_1 (qj t) i
section
variable {k:Nat} {A:Nat->Nat->Rat} {U:Rat} (h:nQ k A U) {a b:Nat} (ha:a<=k) (hb:b<=k)
include h ha hb
theorem zzr(t:Rat):Bnd fun n=>xQ k A t n a b:=qa8 h (qj t) OA (cx t) ha hb
theorem zzq(t:Rat):Bnd fun n=>yQ k A t n a b:=qa8 h (qj t) (qj t) (cy t) ha hb
theorem qfx(s t:Rat):Nul fun n=>mQ k (xQ k A s n) (xQ k A t n) a b-xQ k A (s+t) n a b:=by
 refine(qa7 h (qj s) (qj t) OA OA (cx s) (cx t) ha hb).cg fun n=>?_
 have:gQ (fun q=>sQ (fun i=>rQ s i*rQ t (q-i)) q) k A n a b=xQ k A (s+t) n a b:=xn fun q _=>by
  show sQ (fun i=>rQ s i*rQ t (q-i)) q*_=_;rw[zti]
 rw[this];rfl
theorem qft(t:Rat):Nul fun n=>yQ k A t n a b+mQ k (xQ k A t n) (yQ k A t n) a b-yQ k A (t+t) n a b:=by
 refine(qa7 h (qj t) (qj t) OA (qj t) (cx t) (cy t) ha hb).cg fun n=>?_
 have:gQ (fun q=>sQ (fun i=>rQ t i*rQ t (q-i+1)) q) k A n a b=yQ k A (t+t) n a b-yQ k A t n a b:=by
  unfold yQ gQ;rw[<-zpj];exact xn fun q _=>by
   have h1:=zti t t (q+1);have h2:sQ (fun i=>rQ t i*rQ t (q+1-i)) (q+1)=sQ (fun i=>rQ t i*rQ t (q-i+1)) q+rQ t (q+1):=by
    show sQ (fun i=>rQ t i*rQ t (q+1-i)) q+rQ t (q+1)*rQ t (q+1-(q+1))=_;rw[w8,show rQ t 0=1 from rfl,qY]
    congr 1
    exact xn fun i hi=>by rw[(O:q+1-i=q-i+1)]
   rw[h2]at h1;grind
 rw[this];show mQ k (xQ k A t n) (yQ k A t n) a b-(yQ k A (t+t) n a b-yQ k A t n a b)=_;grind
end
theorem qb7{k:Nat}{A:Nat->Nat->Rat}{h:Rat}:∀(i a b:Nat),tQ k (fun i j=>h*A i j) i a b=rQ h i*pQ k A i a b
 |0,a,b=>by show dlt a b=1*dlt a b;rw[qK]
 |i+1,a,b=>by
  show(1/((i+1:Nat):Rat))*mQ k (tQ k (fun i j=>h*A i j) i) (fun i j=>h*A i j) a b=_;have:mQ k (tQ k (fun i j=>h*A i j) i) (fun i j=>h*A i j) a b=(rQ h i*h)*mQ k (pQ k A i) A a b:=by
   unfold mQ;rw[<-ju];exact xn fun r _=>by rw[qb7 i a r];grind
  rw[this];show _=rQ h i*h*(1/((i+1:Nat):Rat))*mQ k (pQ k A i) A a b;generalize 1/((i+1:Nat):Rat)=c;generalize rQ h i=q;grind
theorem eQ_x{k:Nat}{A:Nat->Nat->Rat}{h:Rat}{a b:Nat}:∀n,eQ k (fun i j=>h*A i j) n a b=xQ k A h n a b
 |0=>by show dlt a b=1*dlt a b;rw[qK]
 |n+1=>by
  show eQ k (fun i j=>h*A i j) n a b+tQ k (fun i j=>h*A i j) (n+1) a b=xQ k A h n a b+rQ h (n+1)*pQ k A (n+1) a b;rw[eQ_x n,qb7]
theorem fQ_y{k:Nat}{A:Nat->Nat->Rat}{h:Rat}{a b:Nat}:∀n,h*fQ k (fun i j=>h*A i j) n a b=yQ k A h n a b
 |0=>by
  show h*dlt a b=rQ h 1*dlt a b;have:rQ h 1=h:=by
   show(1:Rat)*h*(1/((0+1:Nat):Rat))=h;rw[show(1/((0+1:Nat):Rat))=1 from by rw[show((0+1:Nat):Rat)=1 from rfl];grind];grind
  rw[this]
 |n+1=>by
  show h*(fQ k (fun i j=>h*A i j) n a b+(1/((n+2:Nat):Rat))*tQ k (fun i j=>h*A i j) (n+1) a b)=yQ k A h n a b+rQ h (n+1+1)*pQ k A (n+1) a b;have ih:=fQ_y (k:=k) (A:=A) (h:=h) (a:=a) (b:=b) n;rw[qb7,show rQ h (n+1+1)=rQ h (n+1)*h*(1/((n+1+1:Nat):Rat))from rfl];grind
theorem ztc{p:Int}(hp:pcB p=true){f:Nat->Rat}:∀(r:List Iv)(s S:Dy)(d:Nat),(∀x∈r,VI x)->VD s->(∀i x,r[i]? =some x->inI (f (d+i)) x)->zgi p r s=some S->r≠ []->dv s+sQ (fun i=>qk (f (d+i))) (r.length-1)<=dv S
 | [],_,_,_,_,_,_,_,h=>absurd rfl h
 |x::r,s,S,d,hx,hs,hf,h,_=>by
  unfold zgi at h;split at h
  .rename_i c;have k:=(qb (hx x OC).ri).1 c.1;have R1:=((za6 hs (zjx k) (vg hp)).2.1 c.2).1;have h1:dv s+dv (zdn x)<=dv (za7 s (zdn x) p.toNat true).1:=R1;have h2:qk (f d)<=dv (zdn x):=by
    have:=hf 0 x rfl;rcases this with e|⟨e1,e2⟩
    .rw[k.all]at e;cases e
    .exact(zwb k e1 e2).2.2
   cases r with
   |nil=>
    cases h
    show dv s+qk (f (d+0))<=_;rw[qV];grind
   |cons y r=>
    have ih:=ztc hp (f:=f) (y::r) _ S (d+1) (fun z hz=>hx z (qA _ hz)) (zdb _ _ _ _ (vg hp)) (fun i z hz=>by
     have:=hf (i+1) z hz;rw[(O:d+1+i=d+(i+1))];exact this) h OC
    have e:sQ (fun i=>qk (f (d+i))) ((x::y::r).length -1)=qk (f d)+sQ (fun i=>qk (f (d+1+i))) ((y::r).length -1):=by
     show sQ (fun i=>qk (f (d+i))) (r.length+1)=qk (f d)+sQ (fun i=>qk (f (d+1+i))) r.length;rw[zke];show qk (f (d+0))+_=_;rw[qV]
     congr 1
     exact xn fun i _=>by rw[(O:d+1+i=d+(i+1))]
    rw[e];grind
  .cases h
theorem nm_in{n k:Nat}{A:Nat->Nat->Rat}{m:Mx}(h:inM n (k+1) A m)(hn:k+1<=n){p:Int}(hp:pcB p=true){D:Dy}(hD:nmM m p=(D,true)):nQ k A (dv D):=fun i hi=>by
 unfold nmM at hD;rw[Z4 (by rw[h.v.ok,hp];rfl)]at hD;split at hD
 .rename_i d hd;cases hD
  obtain⟨_,_,a3⟩:=zkm hp m d0 D h.v.el qf hd;obtain⟨r,hr,hm⟩:∃r,m[i]? =some r/\r∈m:=⟨m[i]'(by rw[h.v.len];omega),q9 (by rw[h.v.len];omega),qJ _⟩;obtain⟨s,hs,hle⟩:=a3 r hm;have hl:=h.v.row r hm;have:=ztc hp (f:=fun j=>A i j) r d0 s 0 (h.v.el r hm) qf (fun j x hx=>by
   have hj:=(qO.1 hx).1;have h1:=h.i i j O O;rw[zci hr hx]at h1;rw[w4];exact h1) hs (by intro c;subst c;simp at hl)
  rw[uw,hl,wi]at this;simp only[w4]at this;exact q8 this hle
 .cases hD
theorem qae{p:Int}(hp:pcB p=true):∀(r:List Iv)(s:Dy)(c:Nat),(∀x∈r,kI (pw (-1)) x)->VD s->dv s<=vN c (-1)->c+r.length<=200->∃S,zgi p r s=some S
 | [],s,c,_,_,_,_=>⟨s,rfl⟩
 |x::r,s,c,hx,hs,h1,hc=>by
  have hb:=hx x OC;have k:=hb.k;have hm:=(zub hb.b k).2.1;have hF:=qa5 (p:=p.toNat) (vg hp).1 (c:=c+1) (by simp at hc;omega);have R1:=(za6 hs (zjx k) (vg hp)).2.2 (vN (c+1) (-1)) (.inl hF) (by show dv s+dv (zdn x)<=_;rw[zr2];grind);obtain⟨S,hS⟩:=qae hp r _ (c+1) (fun y hy=>hx y (qA _ hy)) (zdb _ _ _ _ (vg hp)) R1.2 (by simp at hc;omega);refine⟨S,?_⟩;unfold zgi;rw[Z4 ⟨(qb k.ri).2 k,R1.1⟩];exact hS
theorem qg2{n k:Nat}{m:Mx}(v:VM n k m)(h:∀r∈m,∀x∈r,kI (pw (-1)) x){p:Int}(hp:pcB p=true):∃D,nmM m p=(D,true):=by
 have key:∀(m:Mx)(D:Dy),(∀r∈m,∀x∈r,kI (pw (-1)) x)->(∀r∈m,r.length<=8)->∃E,nmG p m D=some E:=by
  intro m
  induction m with
  |nil=>exact fun D _ _=>⟨D,rfl⟩
  |cons r m ih=>
   intro D h hl;obtain⟨S,hS⟩:=qae hp r d0 0 (h r OC) qf (by rw[uw];exact zdc _ _) (by have:=hl r OC;omega);unfold nmG;rw[hS];exact ih _ (fun r hr=>h r (qA _ hr)) fun r hr=>hl r (qA _ hr)
 obtain⟨E,hE⟩:=key m d0 h fun r hr=>by rw[v.row r hr];exact v.k1.2
 exact⟨E,by unfold nmM;rw[Z4 (by rw[v.ok,hp];rfl),hE]⟩
theorem zia{x y:Iv}(hx:VI x)(hy:VI y){p:Int}(h:x.all=true\/y.all=true):(yp x y p).all =true:=by
 rw[qe1 hx.ri hy.ri fun c=>by rcases h with h|h;rw[c.1.all]at h;cases h;rw[c.2.all]at h;cases h];rfl
theorem zn8{x y:Iv}(hx:VI x)(hy:VI y){p:Int}(h:x.all=true\/y.all=true):(kf x y p).all =true:=by
 rw[zx5 hx.ri hy.ri fun c=>by rcases h with h|h;rw[c.1.all]at h;cases h;rw[c.2.all]at h;cases h];rfl
theorem zvd{p:Int}(hp:pcB p=true){f g:Nat->Iv}:∀(k i:Nat),(∀i,i<=k->VI (f i))->(∀i,i<=k->VI (g i))->i<=k->(f i).all =true\/(g i).all =true->(dtF p f g k).all =true
 |0,i,hf,hg,hi,h=>by
  obtain rfl:i=0:=O;exact zn8 (hf 0 (q5 _)) (hg 0 (q5 _)) h
 |k+1,i,hf,hg,hi,h=>by
  have v1:=(qd9 hp (f:=f) (g:=g) (a:=fun i=>dv (f i).lo) (b:=fun i=>dv (g i).lo) k (fun i hi=>⟨hf i O,zre (hf i O)⟩) fun i hi=>⟨hg i O,zre (hg i O)⟩).1;have v2:=jg (hf (k+1) (q5 _)) (hg (k+1) (q5 _)) hp;by_cases e:i=k+1
  .subst e;exact zia v1 v2 (.inr (zn8 (hf _ (q5 _)) (hg _ (q5 _)) h))
  .exact zia v1 v2 (.inl (zvd hp k i (fun i hi=>hf i O) (fun i hi=>hg i O) O h))
theorem zpi{x:Iv}(hx:VI x){j:Int}{q:Rat}(h:inI q x):inI (q*pw j) (zn x j):=by
 unfold zn;by_cases c:kB x=true
 .rw[Z4 c];have k:=(qb hx.ri).1 c;rcases h with e|⟨h1,h2⟩
  .rw[k.all]at e;cases e
  cases ha:(jc (qg x.lo j) (qg x.hi j)).all with
  |true=>exact .inl ha
  |false=>
   obtain⟨o1,o2⟩:=um.1 ha;right;rw[zb6 ha];have e1:=zcl o1;have e2:=zcl o2;show dv (qg x.lo j).1<=_/\_<=dv (qg x.hi j).1;rw[e1,e2];exact⟨qw h1 (yz j),qw h2 (yz j)⟩
 .rw[Z5 c];exact zzt _
theorem qgg{k:Nat}{A:Nat->Nat->Rat}{a:Mx}(ha:inM (k+1) (k+1) A a){hI:Iv}(vh:VI hI){h:Rat}(hh:inI h hI){q:Int}(hq:pcB q=true){D:Dy}(hD:nmM (scM a hI q) q=(D,true))(hu:dv D*2<=3):
 ∃K:Nat,∀N,K<=N->inM (k+1) (k+1) (xQ k A h N) (znr (scM a hI q) hI q).exp /\inM (k+1) (k+1) (yQ k A h N) (znr (scM a hI q) hI q).phi :=by
 have hm:=zny ha vh hh hq;have hU:=nm_in hm (q5 _) hq hD;have hDv:=zko (a:=scM a hI q) (p:=q) hm.v.el;rw[hD]at hDv;have hui:VI (zx D):=.inl (ziu hDv.1);have hUi:inI (dv D) (zx D):=.inr ⟨q6,q6⟩;have hid:=qh1 hm.v.n1;obtain⟨K,k1,k2,hs,hst⟩:=zz9 hm hui hUi hq 700 0 ⟨idM (k+1),idM (k+1),idM (k+1)⟩ (whI 1) O ⟨hid,hid,hid,uz OA,zlj 1⟩;have e:znr (scM a hI q) hI q=⟨arM (zad (scM a hI q) (zx D) q 700 1 ⟨idM (k+1),idM (k+1),idM (k+1)⟩ (whI 1)).1.exp (zad (scM a hI q) (zx D) q 700 1 ⟨idM (k+1),idM (k+1),idM (k+1)⟩ (whI 1)).2 q,scM (arM (zad (scM a hI q) (zx D) q 700 1 ⟨idM (k+1),idM (k+1),idM (k+1)⟩ (whI 1)).1.phi (zad (scM a hI q) (zx D) q 700 1 ⟨idM (k+1),idM (k+1),idM (k+1)⟩ (whI 1)).2 q) hI q⟩:=by
  unfold znr;rw[hD,hm.v.len]
 rw[e];have hs:sIn k K (fun i j=>h*A i j) (dv D) (zad (scM a hI q) (zx D) q 700 1 ⟨idM (k+1),idM (k+1),idM (k+1)⟩ (whI 1)).1 (zad (scM a hI q) (zx D) q 700 1 ⟨idM (k+1),idM (k+1),idM (k+1)⟩ (whI 1)).2:=hs;have hst:K=0+700\/zlp (zad (scM a hI q) (zx D) q 700 1 ⟨idM (k+1),idM (k+1),idM (k+1)⟩ (whI 1)).2 q=true:=hst;generalize zad (scM a hI q) (zx D) q 700 1 ⟨idM (k+1),idM (k+1),idM (k+1)⟩ (whI 1)=S at*;obtain⟨s,r⟩:=S;simp only at hs hst⊢;have hK1:1<=K:=by simp at k1;omega
 refine⟨K,fun N hN=>?_⟩;obtain⟨d,rfl⟩:=qD hN;have hall:∀i j,i<k+1->j<k+1->(r.all=true\/(-dv r.hi<=eQ k (fun i j=>h*A i j) (K+d) i j-eQ k (fun i j=>h*A i j) K i j/\eQ k (fun i j=>h*A i j) (K+d) i j-eQ k (fun i j=>h*A i j) K i j<=dv r.hi))/\
  (r.all=true\/(-dv r.hi<=fQ k (fun i j=>h*A i j) (K+d) i j-fQ k (fun i j=>h*A i j) K i j/\fQ k (fun i j=>h*A i j) (K+d) i j-fQ k (fun i j=>h*A i j) K i j<=dv r.hi)):=fun i j hi hj=>by
  cases hra:r.all with
  |true=>exact⟨.inl rfl,.inl rfl⟩
  |false=>
   have hr2:=hs.r2;rcases hr2 with c|⟨_,c⟩
   .rw[hra]at c;cases c
   have hU2:dv D*2<=((K+1:Nat):Rat):=by
    by_cases hK2:2<=K
    .have h3:((3:Nat):Rat)<=((K+1:Nat):Rat):=q7.2 O;exact q8 hu h3
    .obtain rfl:K=1:=by omega
     rcases hst with c2|c2
     .omega
     .have hU1:dv D<=dv r.hi:=by
       have e1:rQ (dv D) 1=dv D:=by
        show(1:Rat)*dv D*(1/((0+1:Nat):Rat))=dv D;rw[show(1/((0+1:Nat):Rat))=1 from by rw[show((0+1:Nat):Rat)=1 from rfl];grind];grind
       rw[e1]at c;exact c
      have hr1:dv r.hi<=1:=by
       unfold zlp at c2;rw[hra]at c2;simp only[Bool.false_or,wB,Z2]at c2;rcases c2 with c2|c2
       .have:=(zkb r.hi).2.2.1 c2;rw[this];decide
       .by_cases hn:nm r.hi=0
        .rw[un hn];decide
        .have h5:=(qbb hn).2;have hp8:8<=q:=by
          obtain⟨q',rfl,hq'⟩:=yu.1 hq;omega
         have h6:pw (qd r.hi)<=pw 0:=zat.2 O;have h7:pw 0=1:=by rw[show(0:Int)=((0:Nat):Int)from rfl,wq];rfl
         rw[h7]at h6;exact q8 h5 h6
      have:((1+1:Nat):Rat)=2:=rfl;rw[this];grind
   obtain⟨t1,t2⟩:=zvb hU hU2 (O:i<=k) (O:j<=k) d;have t3:=zil (zn7 hU) (K+d);exact⟨.inr ⟨by have:=(zai.1 t1).1;grind,by have:=(zai.1 t1).2;grind⟩,.inr ⟨by have:=(zai.1 t2).1;grind,by have:=(zai.1 t2).2;grind⟩⟩
 have a1:=qi6 hs.e (D:=fun i j=>eQ k (fun i j=>h*A i j) (K+d) i j-eQ k (fun i j=>h*A i j) K i j) hs.r1 (fun i j hi hj=>(hall i j hi hj).1) hq;have a2:=qi6 hs.f (D:=fun i j=>fQ k (fun i j=>h*A i j) (K+d) i j-fQ k (fun i j=>h*A i j) K i j) hs.r1 (fun i j hi hj=>(hall i j hi hj).2) hq;refine⟨a1.cg fun i j _ _=>?_,(zny a2 vh hh hq).cg fun i j _ _=>?_⟩
 .show eQ k (fun i j=>h*A i j) K i j+(eQ k (fun i j=>h*A i j) (K+d) i j-eQ k (fun i j=>h*A i j) K i j)=_;rw[<-eQ_x (h:=h) (A:=A) (K+d)];grind
 .show h*(fQ k (fun i j=>h*A i j) K i j+(fQ k (fun i j=>h*A i j) (K+d) i j-fQ k (fun i j=>h*A i j) K i j))=_;rw[<-fQ_y (h:=h) (A:=A) (K+d)];grind
structure liM(k:Nat)(S:Nat->Nat->Nat->Rat)(m:Mx):Prop where
 v:VM (k+1) (k+1) m
 l:∀i j,i<=k->j<=k->lI (fun N=>S N i j) (atM m i j)
theorem zp3{k:Nat}{S:Nat->Nat->Nat->Rat}{m:Mx}(v:VM (k+1) (k+1) m){K:Nat}(h:∀N,K<=N->inM (k+1) (k+1) (S N) m):liM k S m:=
 ⟨v,fun i j hi hj=>qhm K fun N hN=>(h N hN).i i j O O⟩
theorem qdn{p:Int}(hp:pcB p=true){f g:Nat->Iv}{a b:Nat->Nat->Rat}:∀k:Nat,(∀i,i<=k->VI (f i)/\lI (a i) (f i)/\Bnd (a i))->(∀i,i<=k->VI (g i)/\lI (b i) (g i)/\Bnd (b i))->
 VI (dtF p f g k)/\lI (fun N=>sQ (fun i=>a i N*b i N) k) (dtF p f g k)
 |0,hf,hg=>by
  obtain⟨f1,f2,f3⟩:=hf 0 (q5 _);obtain⟨g1,g2,g3⟩:=hg 0 (q5 _);exact⟨jg f1 g1 hp,qa2 f1 g1 hp f2 g2 f3 g3⟩
 |k+1,hf,hg=>by
  obtain⟨h1,h2⟩:=qdn hp k (fun i hi=>hf i O) (fun i hi=>hg i O);obtain⟨f1,f2,f3⟩:=hf (k+1) (q5 _);obtain⟨g1,g2,g3⟩:=hg (k+1) (q5 _);exact⟨zib h1 (jg f1 g1 hp) hp,zul h1 (jg f1 g1 hp) hp h2 (qa2 f1 g1 hp f2 g2 f3 g3)⟩
theorem zue{k:Nat}{S T:Nat->Nat->Nat->Rat}{x y:Mx}(hx:liM k S x)(hy:liM k T y)(bs:∀i j,i<=k->j<=k->Bnd fun N=>S N i j)(bt:∀i j,i<=k->j<=k->Bnd fun N=>T N i j){p:Int}(hp:pcB p=true):
 liM k (fun N=>mQ k (S N) (T N)) (muM x y p).1:=by
 refine⟨(zdf hx.v hy.v hp).2,fun i j hi hj=>?_⟩;rw[zv2 hx.v hy.v hp O O];exact(qdn hp (a:=fun r N=>S N i r) (b:=fun r N=>T N r j) k (fun r hr=>⟨xw hx.v O O,hx.l i r hi hr,bs i r hi hr⟩) fun r hr=>⟨xw hy.v O O,hy.l r j hr hj,bt r j hr hj⟩).2
theorem qdh{k:Nat}{S T:Nat->Nat->Nat->Rat}{x y:Mx}(hx:liM k S x)(hy:liM k T y){p:Int}(hp:pcB p=true):liM k (fun N i j=>S N i j+T N i j) (adM x y p).1:=by
 refine⟨(zbv hx.v hy.v hp).2,fun i j hi hj=>?_⟩;rw[zv5 hx.v hy.v hp O O];exact zul (xw hx.v O O) (xw hy.v O O) hp (hx.l i j hi hj) (hy.l i j hi hj)
theorem liM.nul{k:Nat}{S T:Nat->Nat->Nat->Rat}{x:Mx}(hx:liM k S x)(h:∀i j,i<=k->j<=k->Nul fun N=>S N i j-T N i j):liM k T x:=⟨hx.v,fun i j hi hj=>(hx.l i j hi hj).nul (h i j hi hj)⟩
theorem qa1{k:Nat}{S:Nat->Nat->Nat->Rat}{x:Mx}(hx:liM k S x)(p:Int):liM k S (rdM x p):=by
 refine⟨zlu hx.v p,fun i j hi hj=>?_⟩;rw[zzg hx.v O O];exact lI_id (fun q hq=>ztd (xw hx.v O O) hq) (hx.l i j hi hj)
theorem qil{k:Nat}{A:Nat->Nat->Rat}{U:Rat}(hU:nQ k A U){t:Rat}{x:MPr}(h1:liM k (xQ k A t) x.exp)(h2:liM k (yQ k A t) x.phi){q:Int}(hq:pcB q=true):liM k (xQ k A (t+t)) (znh q x).exp /\liM k (yQ k A (t+t)) (znh q x).phi :=by
 have bx:∀i j,i<=k->j<=k->Bnd fun N=>xQ k A t N i j:=fun i j hi hj=>zzr hU hi hj t
 have by':∀i j,i<=k->j<=k->Bnd fun N=>yQ k A t N i j:=fun i j hi hj=>zzq hU hi hj t
 exact⟨(zue h1 h1 bx bx hq).nul fun i j hi hj=>qfx hU hi hj t t,(qdh h2 (zue h1 h2 bx by' hq) hq).nul fun i j hi hj=>qft hU hi hj t⟩
theorem zop{k:Nat}{A:Nat->Nat->Rat}{U:Rat}(hU:nQ k A U){q:Int}(hq:pcB q=true):∀(s:Nat)(t:Rat)(x:MPr),liM k (xQ k A t) x.exp->liM k (yQ k A t) x.phi->liM k (xQ k A (t*pw (s:Int))) (zc1 q s x).exp /\liM k (yQ k A (t*pw (s:Int))) (zc1 q s x).phi
 |0,t,x,h1,h2=>by
  have e:t*pw ((0:Nat):Int)=t:=by rw[wq];simp
  rw[e];exact⟨h1,h2⟩
 |s+1,t,x,h1,h2=>by
  obtain⟨d1,d2⟩:=qil hU h1 h2 hq;have:=zop hU hq s (t+t) (znh q x) d1 d2;have e:(t+t)*pw (s:Int)=t*pw ((s+1:Nat):Int):=by
   have:pw ((s+1:Nat):Int)=pw (s:Int)*2:=by
    have e1:pw 1=2:=by
     have:=wq 1;exact this
    rw[show((s+1:Nat):Int)=(s:Int)+1 from rfl,pwA,e1]
   rw[this];grind
  rw[e]at this;exact this
