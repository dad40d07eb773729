/-
  Matrices of intervals, exponential functions of matrices: plain functions; the series ends.
-/
import Derived.Test.YtgehdbenidimlaaGreatDoorQXe
import Derived.Test.YtgehdbenidimlaaGreatDoorQXa
set_option linter.unusedVariables false
set_option linter.unusedSimpArgs false
namespace Go.Proofs.YtgehdbenidimlaaGreatDoor
open Go Go.Sx
set_option maxHeartbeats 2000000
abbrev Mx:=List (List Iv)
def hdL (m:Mx):Nat:=(m.headD []).length
def vmB (m:Mx):Bool:=(decide (1≤m.length∧m.length≤8)&&decide (1≤hdL m∧hdL m≤8))&& !(m.any fun r=>decide (r.length≠hdL m)||r.any fun x=> !viB x)
def yt (f:Nat→Nat→Iv→Iv) (m:Mx):Mx:=m.mapIdx fun i r=>r.mapIdx fun j x=>f i j x
def atM (m:Mx) (i j:Nat):Iv:=((m[i]?.getD [])[j]?).getD zI
def idM (n:Nat):Mx:=if n<1∨8<n then []else(List.range n).map fun i=>(List.range n).map fun j=>whI (if i=j then 1 else 0)
def scM (a:Mx) (x:Iv) (p:Int):Mx:=if(vmB a&&viB x&&pcB p)=true then yt (fun _ _ y=>xe x y p) a else []
def adM (a b:Mx) (p:Int):Mx×Int:=
 if(vmB a&&vmB b)=false then([],1)else if pcB p=false then([],2)else if a.length≠b.length∨hdL a≠hdL b then([],3)else(yt (fun i j x=>zas x (atM b i j) p) a,0)
def dtG (p:Int):List Iv→List Iv→Iv→Iv
 |r::rs,c::cs,o=>dtG p rs cs (zas o (xe r c p) p)
 | _,_,o=>o
def dtM (p:Int):List Iv→List Iv→Iv
 |r::rs,c::cs=>dtG p rs cs (xe r c p)
 | _,_=>zI
def zk5 (b:Mx) (j:Nat):List Iv:=b.map fun r=>(r[j]?).getD zI
def muM (a b:Mx) (p:Int):Mx×Int:=
 if(vmB a&&vmB b)=false then([],1)else if pcB p=false then([],2)else if hdL a≠b.length then([],3)else(a.map fun r=>(List.range (hdL b)).map fun j=>dtM p r (zk5 b j),0)
def zh3 (p:Int):List Iv→Dy→Option Dy
 | [],s=>some s
 |x::r,s=>if kB x=true∧(xh s (zdc x) p.toNat true).2=0 then zh3 p r (xh s (zdc x) p.toNat true).1 else none
def nmG (p:Int):Mx→Dy→Option Dy
 | [],m=>some m
 |r::rs,m=>match zh3 p r d0 with
  |none=>none
  |some s=>nmG p rs (if 0<qi s m then s else m)
def nmM (a:Mx) (p:Int):Dy×Bool:=if(vmB a&&pcB p)=true then(match nmG p a d0 with|some d=>(d,true)|none=>(d0,false))else(d0,false)
def arM (m:Mx) (e:Iv) (p:Int):Mx:=m.map fun r=>r.map fun y=>zas y (zdf (zfv e) e) p
def knM (m:Mx):Bool:= !(m.any fun r=>r.any fun x=>x.all)&&decide (0<m.length)
def rdM (m:Mx) (p:Int):Mx:=m.map fun r=>r.map fun x=>za1 x p
def rsI (u:Iv) (p:Int):Nat→Iv
 |0=>whI 1
 |k+1=>xe (xe (rsI u p k) u p) (zh5 (whI 1) (whI ((k+1:Nat):Int)) p) p
def znd (x:Iv) (p:Int):Bool:=x.all||decide (wo x.hi=0)||decide (zy x.hi< -p-8)
structure MSt where
 term:Mx
 exp:Mx
 phi:Mx
theorem zqa {k:Nat} (h:8≤k):(0:Rat)≤(k:Rat)⁻¹ ∧(k:Rat)⁻¹ ≤pw (-3):=by
 have hk:(8:Rat)≤(k:Rat):=by
  have:=(Rat.natCast_le_natCast (a:=8) (b:=k)).2 h
  simpa using this
 have h0:(0:Rat)<(k:Rat):=by grind
 have hi:(0:Rat)<(k:Rat)⁻¹ :=Rat.inv_pos.2 h0
 have hm:=Rat.mul_inv_cancel (k:Rat) (by grind)
 have h8:pw (-3)*8=1:=by
  rw[show(8:Rat)=pw 3 from(by rw[show pw 3=((2^3:Nat):Rat)from zga 3];rfl),←pwA]
  unfold pw;simp
 refine⟨Rat.le_of_lt hi,?_⟩
 have h1:(k:Rat)⁻¹ *8≤(k:Rat)⁻¹ *(k:Rat):=Rat.mul_le_mul_of_nonneg_left hk (Rat.le_of_lt hi)
 have h2:(k:Rat)⁻¹ *(k:Rat)=1:=by rw[Rat.mul_comm];exact hm
 grind
theorem bI_by {k:Nat} (h:8≤k) (h2:k≤1000000) {p:Int} (hp:pcB p=true):bI (pw (-3)) (zh5 (whI 1) (whI (k:Int)) p):=by
 have kn:=zf3 (n:=(k:Int)) (by omega)
 have k1:=zf3 (n:=1) (by decide)
 have e:dv (whI (k:Int)).lo =(k:Rat):=(zae (k:Int)).trans (Rat.intCast_natCast k)
 have e':dv (whI (k:Int)).hi =(k:Rat):=(zae (k:Int)).trans (Rat.intCast_natCast k)
 have o:dv (whI 1).lo =1:=(zae 1).trans (by simp)
 have o':dv (whI 1).hi =1:=(zae 1).trans (by simp)
 have hk0:(0:Rat)<(k:Rat):=by
  have:=(Rat.natCast_le_natCast (a:=8) (b:=k)).2 h
  have h8:(8:Rat)≤(k:Rat):=by simpa using this
  grind
 have hs:0<dv (whI (k:Int)).lo ∨dv (whI (k:Int)).hi <0:= .inl (by rw[e];exact hk0)
 refine⟨zk3 (.inl k1) (.inl kn) hp,?_⟩
 cases ha:(zh5 (whI 1) (whI (k:Int)) p).all with
 |true=>exact .inl rfl
 |false=>
  right
  rw[zk2 k1 kn hs hp]at ha⊢
  obtain⟨i1,i2⟩:=zqa h
  have hq: -pw (-3)≤1/(k:Rat)∧1/(k:Rat)≤pw (-3):=by
   rw[Rat.div_def,Rat.one_mul]
   have:=zda (-3)
   constructor<;>grind
  refine ztr (zqu k1 kn hs (kf hp)) (pwF (by decide) (by decide)) ?_ ha
  unfold zs7
  rw[e,e',o,o']
  exact⟨hq,hq,hq,hq⟩
theorem zt6 {u:Iv} {p:Int} (hp:pcB p=true) (hu:bI (pw 2) u): ∀k:Nat,k≤8→bI (pw (2*(k:Int))) (rsI u p k)
 |0,_=>zuq
 |k+1,hk=>by
  have ih:=zt6 hp hu k (by omega)
  have e1:pw (2*(k:Int))*pw 2=pw (2*((k+1:Nat):Int)):=by rw[←pwA];congr 1<;>omega
  have h1:=zmz ih hu hp (by rw[e1];exact pwF (by omega) (by omega))
  rw[e1]at h1
  have h2:=zxa zuq (n:=((k+1:Nat):Int)) (by omega) (by omega) hp (pwF (by decide) (by decide))
  have e2:pw (2*((k+1:Nat):Int))*pw 0=pw (2*((k+1:Nat):Int)):=by rw[←pwA];congr 1<;>omega
  have h3:=zmz h1 h2 hp (by rw[e2];exact pwF (by omega) (by omega))
  rw[e2]at h3
  exact h3
theorem zt5 {u:Iv} {p:Int} (hp:pcB p=true) (hu:bI (pw 2) u): ∀k:Nat,k≤2000→bI (pw (16-(k:Int))) (rsI u p (8+k))
 |0,_=>zt6 hp hu 8 (by omega)
 |k+1,hk=>by
  have ih:=zt5 hp hu k (by omega)
  have e1:pw (16-(k:Int))*pw 2=pw (18-(k:Int)):=by rw[←pwA];congr 1<;>omega
  have h1:=zmz ih hu hp (by rw[e1];exact pwF (by omega) (by omega))
  rw[e1]at h1
  have h2:=bI_by (k:=8+k+1) (by omega) (by omega) hp
  have e2:pw (18-(k:Int))*pw (-3)=pw (16-((k+1:Nat):Int)):=by rw[←pwA];congr 1<;>omega
  have h3:=zmz h1 h2 hp (by rw[e2];exact pwF (by omega) (by omega))
  rw[e2]at h3
  exact h3
theorem zyk {x:Iv} {p t:Int} (hx:bI (pw t) x) (h:znd x p=false): -p-9≤t:=by
 unfold znd at h
 simp only[Bool.or_eq_false_iff,decide_eq_false_iff_not]at h
 obtain⟨⟨h1,h2⟩,h3⟩:=h
 have k:=(zh6 hx.1).1 h1
 obtain⟨_,a3,a4⟩:=hx.ends k
 have hn:nm x.hi≠0:=fun c=>h2 (by unfold wo;rw[if_pos c])
 unfold zy at h3
 rw[if_neg hn]at h3
 have ht:=uh (n:=nm x.hi) (e:=x.hi.e) (t:=(bl (nm x.hi):Int)+x.hi.e-1) (by omega) hn
 have h4:vN (nm x.hi) x.hi.e≤pw t:=by
  unfold dv at a3 a4
  split at a4
  ·grind
  ·exact a4
 have:=zhc.1 (Rat.le_trans ht h4)
 omega
theorem zve {u:Iv} {p:Int} (hp:pcB p=true) (hu:bI (pw 2) u): ∃k:Nat,1≤k∧k≤700∧znd (rsI u p k) p=true:=by
 obtain⟨q,rfl,hq⟩:=xc.1 hp
 refine⟨8+(q+30),by omega,by omega,?_⟩
 cases h:znd (rsI u q (8+(q+30))) q with
 |true=>rfl
 |false=>
  have:=zyk (zt5 hp hu (q+30) (by omega)) h
  omega
end Go.Proofs.YtgehdbenidimlaaGreatDoor

namespace Go.Proofs.YtgehdbenidimlaaGreatDoor
open Go Go.Sx
set_option maxHeartbeats 2000000
structure VM (n k:Nat) (m:Mx):Prop where
 n1:1≤n∧n≤8
 k1:1≤k∧k≤8
 len:m.length=n
 row: ∀r∈m,r.length=k
 el: ∀r∈m,∀x∈r,VI x
theorem VM.hd {n k:Nat} {m:Mx} (h:VM n k m):hdL m=k:=by
 have h1:=h.n1
 have h2:=h.len
 have h3:=h.row
 unfold hdL
 cases m with
 |nil=>simp at h2;omega
 |cons r m=>exact h3 r (by simp)
def RM (m:Mx):Prop:= ∀r∈m,∀x∈r,RI x
theorem VM.ri {n k:Nat} {m:Mx} (h:VM n k m):RM m:=fun r hr x hx=>(h.el r hr x hx).ri
theorem zcy {m:Mx} (h:RM m):vmB m=true↔ ∃n k,VM n k m:=by
 unfold vmB
 simp only[Bool.and_eq_true,decide_eq_true_eq,Bool.not_eq_true',List.any_eq_false,Bool.or_eq_true,not_or,ne_eq,Decidable.not_not]
 constructor
 ·rintro⟨⟨h1,h2⟩,h3⟩
  exact⟨m.length,hdL m,h1,h2,rfl,fun r hr=>(h3 r hr).1,fun r hr x hx=>by
   have h4:=(h3 r hr).2
   simp only[List.any_eq_true,Bool.not_eq_true',not_exists,not_and,Bool.not_eq_false]at h4
   exact(yu (h r hr x hx)).1 (h4 x hx)⟩
 ·rintro⟨n,k,v⟩
  refine⟨⟨by rw[v.len];exact v.n1,by rw[v.hd];exact v.k1⟩,fun r hr=>⟨by rw[v.hd];exact v.row r hr,?_⟩⟩
  simp only[List.any_eq_true,Bool.not_eq_true',not_exists,not_and,Bool.not_eq_false]
  exact fun x hx=>(yu (h r hr x hx)).2 (v.el r hr x hx)
theorem VM.ok {n k:Nat} {m:Mx} (h:VM n k m):vmB m=true:=(zcy h.ri).2 ⟨n,k,h⟩
theorem yp {α β:Type} {f:Nat→α→β} {l:List α} {y:β} (h:y∈l.mapIdx f): ∃i x,l[i]? =some x∧x∈l∧y=f i x:=by
 obtain⟨i,hi⟩:=List.getElem?_of_mem h
 rw[List.getElem?_mapIdx,Option.map_eq_some_iff]at hi
 obtain⟨x,hx,rfl⟩:=hi
 exact⟨i,x,hx,List.mem_of_getElem? hx,rfl⟩
theorem zqt {n k:Nat} {m:Mx} (h:VM n k m) {f:Nat→Nat→Iv→Iv} (hf: ∀i j x,VI x→i<n→j<k→VI (f i j x)):VM n k (yt f m):=by
 refine⟨h.n1,h.k1,by unfold yt;rw[List.length_mapIdx];exact h.len,fun r hr=>?_,fun r hr x hx=>?_⟩
 ·obtain⟨i,r0,_,hr0,rfl⟩:=yp hr
  rw[List.length_mapIdx];exact h.row r0 hr0
 ·obtain⟨i,r0,hi,hr0,rfl⟩:=yp hr
  obtain⟨j,x0,hj,hx0,rfl⟩:=yp hx
  refine hf i j x0 (h.el r0 hr0 x0 hx0) ?_ ?_
  ·have:=(List.getElem?_eq_some_iff.1 hi).1;rw[h.len]at this;exact this
  ·have:=(List.getElem?_eq_some_iff.1 hj).1;rw[h.row r0 hr0]at this;exact this
theorem qad {n k:Nat} {m:Mx} (h:VM n k m) {i j:Nat} (hi:i<n) (hj:j<k):VI (atM m i j):=by
 unfold atM
 have hi:i<m.length:=by rw[h.len];exact hi
 rw[List.getElem?_eq_getElem hi]
 have hm:=List.getElem_mem hi
 have hj:j<m[i].length :=by rw[h.row _ hm];exact hj
 simp only[Option.getD_some]
 rw[List.getElem?_eq_getElem hj]
 exact h.el _ hm _ (List.getElem_mem hj)
theorem zfr {n:Int} (h: -4611686018427387904≤n∧n≤4611686018427387904):VI (whI n):= .inl (zf3 h)
theorem zzi {n:Nat} (h:1≤n∧n≤8):VM n n (idM n):=by
 unfold idM
 rw[if_neg (by omega)]
 refine⟨h,h,by simp,fun r hr=>?_,fun r hr x hx=>?_⟩
 ·obtain⟨i,_,rfl⟩:=List.mem_map.1 hr
  simp
 ·obtain⟨i,_,rfl⟩:=List.mem_map.1 hr
  obtain⟨j,_,rfl⟩:=List.mem_map.1 hx
  split<;>exact zfr (by decide)
theorem zc9 {n k:Nat} {a:Mx} (h:VM n k a) {x:Iv} (hx:VI x) {p:Int} (hp:pcB p=true):VM n k (scM a x p):=by
 unfold scM
 rw[if_pos (by rw[h.ok,(yu hx.ri).2 hx,hp];rfl)]
 exact zqt h fun i j y hy _ _=>xl hx hy hp
theorem zla {n k:Nat} {a b:Mx} (ha:VM n k a) (hb:VM n k b) {p:Int} (hp:pcB p=true):(adM a b p).2=0∧VM n k (adM a b p).1:=by
 unfold adM
 rw[if_neg (by rw[ha.ok,hb.ok];simp),if_neg (by rw[hp];simp),if_neg (by rw[ha.len,hb.len,ha.hd,hb.hd];simp)]
 exact⟨rfl,zqt ha fun i j y hy hi hj=>zre hy (qad hb hi hj) hp⟩
theorem zul {p:Int} (hp:pcB p=true): ∀(r c:List Iv) (o:Iv),(∀x∈r,VI x)→(∀x∈c,VI x)→VI o→VI (dtG p r c o)
 | [],_,o,_,_,ho=>ho
 | _::_,[],o,_,_,ho=>ho
 |x::r,y::c,o,hr,hc,ho=>zul hp r c _ (fun z hz=>hr z (List.mem_cons_of_mem _ hz)) (fun z hz=>hc z (List.mem_cons_of_mem _ hz)) (zre ho (xl (hr x (by simp)) (hc y (by simp)) hp) hp)
theorem zwq {p:Int} (hp:pcB p=true) {r c:List Iv} (hr: ∀x∈r,VI x) (hc: ∀x∈c,VI x):VI (dtM p r c):=by
 unfold dtM
 split
 ·rename_i x r y c
  exact zul hp r c _ (fun z hz=>hr z (List.mem_cons_of_mem _ hz)) (fun z hz=>hc z (List.mem_cons_of_mem _ hz)) (xl (hr x (by simp)) (hc y (by simp)) hp)
 ·exact zI_VI
theorem zz0 {n k:Nat} {b:Mx} (h:VM n k b) {j:Nat} (hj:j<k): ∀x∈zk5 b j,VI x:=fun x hx=>by
 obtain⟨r,hr,rfl⟩:=List.mem_map.1 hx
 have hj:j<r.length:=by rw[h.row r hr];exact hj
 rw[List.getElem?_eq_getElem hj]
 exact h.el r hr _ (List.getElem_mem hj)
theorem zns {n k l:Nat} {a b:Mx} (ha:VM n k a) (hb:VM k l b) {p:Int} (hp:pcB p=true):(muM a b p).2=0∧VM n l (muM a b p).1:=by
 unfold muM
 rw[if_neg (by rw[ha.ok,hb.ok];simp),if_neg (by rw[hp];simp),if_neg (by rw[ha.hd,hb.len];simp)]
 refine⟨rfl,ha.n1,hb.k1,by simp[ha.len],fun r hr=>?_,fun r hr x hx=>?_⟩
 ·obtain⟨r0,_,rfl⟩:=List.mem_map.1 hr
  simp[hb.hd]
 ·obtain⟨r0,hr0,rfl⟩:=List.mem_map.1 hr
  obtain⟨j,hj,rfl⟩:=List.mem_map.1 hx
  have hj:j<l:=by have:=List.mem_range.1 hj;rw[hb.hd]at this;exact this
  exact zwq hp (ha.el r0 hr0) (zz0 hb hj)
theorem zr5 {x:Iv} (hx:VI x) (p:Int):VI (za1 x p):=by
 unfold za1
 split
 ·rename_i c
  have k:=(vn hx.ri).1 c.1
  exact zyn (zdq k.lo (kf c.2)) (zdq k.hi (kf c.2)) (zlb (zec _ _ _ (kf c.2)) (zec _ _ _ (kf c.2))) k.dle
 ·exact .inr rfl
theorem zuf {n k:Nat} {m:Mx} (h:VM n k m) {f:Iv→Iv} (hf: ∀x,VI x→VI (f x)):VM n k (m.map fun r=>r.map f):=by
 refine⟨h.n1,h.k1,by simp[h.len],fun r hr=>?_,fun r hr x hx=>?_⟩
 ·obtain⟨r0,hr0,rfl⟩:=List.mem_map.1 hr
  simp[h.row r0 hr0]
 ·obtain⟨r0,hr0,rfl⟩:=List.mem_map.1 hr
  obtain⟨y,hy,rfl⟩:=List.mem_map.1 hx
  exact hf y (h.el r0 hr0 y hy)
theorem zr8 {n k:Nat} {m:Mx} (h:VM n k m) (p:Int):VM n k (rdM m p):=zuf h fun x hx=>zr5 hx p
theorem zxc {n k:Nat} {m:Mx} (h:VM n k m) {e:Iv} (he:VI e) {p:Int} (hp:pcB p=true):VM n k (arM m e p):=zuf h fun x hx=>zre hx (zqc (zy0 he).ri he.ri) hp
theorem zk7 {k:Nat} (h:1≤k) (h2:k≤1000000) {p:Int} (hp:pcB p=true):VI (zh5 (whI 1) (whI (k:Int)) p):=zk3 (zfr (by decide)) (zfr (by omega)) hp
theorem zvo {u:Iv} (hu:VI u) {p:Int} (hp:pcB p=true): ∀k:Nat,k≤100000→VI (rsI u p k)
 |0,_=>zfr (by decide)
 |k+1,hk=>xl (xl (zvo hu hp k (by omega)) hu hp) (zk7 (by omega) (by omega) hp) hp
end Go.Proofs.YtgehdbenidimlaaGreatDoor

namespace Go.Proofs.YtgehdbenidimlaaGreatDoor
open Go Go.Sx
set_option maxHeartbeats 2000000
theorem zpx {x:Iv} (k:KI x):0≤dv (zdc x)∧(∀a:Rat,dv x.lo≤a→a≤dv x.hi→ -dv (zdc x)≤a∧a≤dv (zdc x)):=by
 obtain⟨h1,h2,h3⟩:=zus k Rat.le_refl k.dle
 refine⟨Rat.le_trans h1 (Rat.le_trans h2 h3),fun a ha hb=>?_⟩
 obtain⟨_,_,h4⟩:=zus k ha hb
 unfold zeo at h4
 split at h4<;>constructor<;>grind
theorem zw9 {x:Iv} (k:KI x):bI (dv (zdc x)) x:=by
 obtain⟨_,h⟩:=zpx k
 exact⟨.inl k,.inr ⟨(h _ Rat.le_refl k.dle).1,(h _ k.dle Rat.le_refl).2⟩⟩
theorem zdn {x:Iv} (hx:VI x) (j:Int):VI (qw x j):=by
 rcases hx with k|rfl
 ·exact(ztk (zw9 k) j).1
 ·exact .inr rfl
theorem zha {p:Int} (hp:pcB p=true): ∀(r:List Iv) (s S:Dy),(∀x∈r,VI x)→VD s→0≤dv s→zh3 p r s=some S→VD S∧dv s≤dv S∧ ∀x∈r,KI x∧dv (zdc x)≤dv S
 | [],s,S,_,hs,_,h=>by cases h;exact⟨hs,Rat.le_refl,fun x hx=>by cases hx⟩
 |x::r,s,S,hx,hs,h0,h=>by
  unfold zh3 at h
  split at h
  ·rename_i c
   have k:=(vn (hx x (by simp)).ri).1 c.1
   have R1:=(zm2 hs (zrh k) (kf hp)).2.1 c.2
   obtain⟨m0,_⟩:=zpx k
   have h1:dv s+dv (zdc x)≤dv (xh s (zdc x) p.toNat true).1:=R1.1
   obtain⟨a1,a2,a3⟩:=zha hp r _ S (fun y hy=>hx y (List.mem_cons_of_mem _ hy)) (zjv _ _ _ _ (kf hp)) (by grind) h
   refine⟨a1,by grind,fun y hy=>?_⟩
   rcases List.mem_cons.1 hy with rfl|hy
   ·exact⟨k,by grind⟩
   ·exact a3 y hy
  ·cases h
theorem zzl {p:Nat} (hp:8≤p) {c:Nat} (hc:c≤256):inF p (vN c (-1)):=by
 refine⟨c,-1,rfl,Nat.le_trans hc (Nat.le_trans (by decide:256≤2^8) (Nat.pow_le_pow_right (by decide) hp)),by decide,?_⟩
 have h1:vN c (-1)≤pw 8:=by
  unfold vN
  have h2:(c:Rat)≤pw 8:=by
   rw[show pw 8=((2^8:Nat):Rat)from zga 8]
   exact Rat.natCast_le_natCast.2 hc
  have h3:pw (-1)≤pw 0:=zhc.2 (by decide)
  have h4:=zsm (Rat.natCast_nonneg (a:=c)) h2 (zda (-1)) h3
  rw[←pwA]at h4
  exact h4
 exact zvp h1 (zua (by decide))
theorem zu4 (c:Nat):vN (c+1) (-1)=vN c (-1)+pw (-1):=by
 unfold vN
 rw[show((c+1:Nat):Rat)=(c:Rat)+1 from Rat.natCast_add c 1]
 grind
theorem zt7 {p:Int} (hp:pcB p=true): ∀(r:List Iv) (s S:Dy) (c:Nat),(∀x∈r,bI (pw (-1)) x)→VD s→dv s≤vN c (-1)→c+r.length≤200→zh3 p r s=some S→dv S≤vN (c+r.length) (-1)
 | [],s,S,c,_,_,h1,_,h=>by cases h;exact h1
 |x::r,s,S,c,hx,hs,h1,hc,h=>by
  unfold zh3 at h
  split at h
  ·rename_i e
   have hb:=hx x (by simp)
   have k:=(vn hb.1.ri).1 e.1
   have hm:=(zy9 hb k).2.1
   have hF:=zzl (p:=p.toNat) (kf hp).1 (c:=c+1) (by simp at hc;omega)
   have R1:=(zm2 hs (zrh k) (kf hp)).2.2 (vN (c+1) (-1)) (.inl hF) (by show dv s+dv (zdc x)≤_;rw[zu4];grind)
   have:=zt7 hp r _ S (c+1) (fun y hy=>hx y (List.mem_cons_of_mem _ hy)) (zjv _ _ _ _ (kf hp)) R1.2 (by simp at hc;omega) h
   rw[show c+(x::r).length =c+1+r.length by simp;omega]
   exact this
  ·cases h
theorem zkl {p:Int} (hp:pcB p=true): ∀(m:Mx) (D0 D:Dy),(∀r∈m,∀x∈r,VI x)→VD D0→nmG p m D0=some D→VD D∧dv D0≤dv D∧ ∀r∈m,∃s,zh3 p r d0=some s∧dv s≤dv D
 | [],D0,D,_,h0,h=>by cases h;exact⟨h0,Rat.le_refl,fun r hr=>by cases hr⟩
 |r::m,D0,D,hv,h0,h=>by
  unfold nmG at h
  split at h
  ·cases h
  ·rename_i s hs
   have hs1:=zha hp r d0 s (hv r (by simp)) qk (by rw[zaw];exact Rat.le_refl) hs
   have hcm:=zfk s D0
   obtain⟨a1,a2,a3⟩:=zkl hp m _ D (fun r hr=>hv r (List.mem_cons_of_mem _ hr)) (by split;exact hs1.1;exact h0) h
   have h1:dv s≤dv D∧dv D0≤dv D:=by
    split at a2
    ·rename_i c
     have:=hcm.2.1.1 c
     exact⟨a2,Rat.le_trans (Rat.le_of_lt this) a2⟩
    ·rename_i c
     have:dv s≤dv D0:=Rat.not_lt.1 fun c2=>c (hcm.2.1.2 c2)
     exact⟨Rat.le_trans this a2,a2⟩
   refine⟨a1,h1.2,fun r' hr'=>?_⟩
   rcases List.mem_cons.1 hr' with rfl|hr'
   ·exact⟨s,hs,h1.1⟩
   ·exact a3 r' hr'
theorem zyx {p:Int} (hp:pcB p=true) {k:Nat} (hk:k≤8): ∀(m:Mx) (D0 D:Dy),(∀r∈m,r.length=k∧ ∀x∈r,bI (pw (-1)) x)→dv D0≤vN k (-1)→nmG p m D0=some D→dv D≤vN k (-1)
 | [],D0,D,_,h0,h=>by cases h;exact h0
 |r::m,D0,D,hv,h0,h=>by
  unfold nmG at h
  split at h
  ·cases h
  ·rename_i s hs
   obtain⟨hl,hb⟩:=hv r (by simp)
   have h1:=zt7 hp r d0 s 0 hb qk (by rw[zaw];exact zfs _ _) (by omega) hs
   rw[Nat.zero_add,hl]at h1
   refine zyx hp hk m _ D (fun r hr=>hv r (List.mem_cons_of_mem _ hr)) ?_ h
   split
   ·exact h1
   ·exact h0
theorem zpm {a:Mx} {p:Int} (h: ∀r∈a,∀x∈r,VI x):VD (nmM a p).1∧0≤dv (nmM a p).1:=by
 unfold nmM
 split
 ·rename_i c
  rw[Bool.and_eq_true]at c
  split
  ·rename_i d hd
   obtain⟨a1,a2,_⟩:=zkl c.2 a d0 d h qk hd
   rw[zaw]at a2
   exact⟨a1,a2⟩
  ·exact⟨qk,by rw[zaw];exact Rat.le_refl⟩
 ·exact⟨qk,by rw[zaw];exact Rat.le_refl⟩
def hvS (N:Dy):Int:=max 0 (zy N+1)
theorem zsp {f:Iv→Iv} {m:Mx} {r:List Iv} {x:Iv} (hr:r∈m) (hx:x∈r): ∃r'∈yt (fun _ _ y=>f y) m,f x∈r':=by
 obtain⟨i,hi⟩:=List.getElem?_of_mem hr
 obtain⟨j,hj⟩:=List.getElem?_of_mem hx
 refine⟨r.mapIdx fun _ y=>f y,List.mem_of_getElem? (i:=i) (by unfold yt;rw[List.getElem?_mapIdx,hi];rfl),List.mem_of_getElem? (i:=j) (by rw[List.getElem?_mapIdx,hj];rfl)⟩
theorem zwh {n k:Nat} {a:Mx} (ha:VM n k a) {t:Iv} (kt:KI t) {q:Int} (hq:pcB q=true) {N:Dy} (hN:nmM (scM a t q) q=(N,true)): ∀r∈a,∀y∈r,bI (pw (-1)) (xe (qw t (-hvS N)) y q):=by
 have hsc:scM a t q=yt (fun _ _ y=>xe t y q) a:=by
  unfold scM;rw[if_pos (by rw[ha.ok,(yu kt.ri).2 (.inl kt),hq];rfl)]
 have vs:=zc9 ha (.inl kt) hq
 have key: ∀r∈a,∀y∈r,KI (xe t y q)∧dv (zdc (xe t y q))≤dv N:=fun r hr y hy=>by
  unfold nmM at hN
  rw[if_pos (by rw[vs.ok,hq];rfl)]at hN
  split at hN
  ·rename_i d hd
   cases hN
   obtain⟨a1,a2,a3⟩:=zkl hq _ d0 N vs.el qk hd
   obtain⟨r',hr',hx'⟩:=zsp (f:=fun y=>xe t y q) hr hy
   rw[←hsc]at hr'
   obtain⟨s,hs,hle⟩:=a3 r' hr'
   obtain⟨_,_,b3⟩:=zha hq r' d0 s (vs.el r' hr') qk (by rw[zaw];exact Rat.le_refl) hs
   exact⟨(b3 _ hx').1,Rat.le_trans (b3 _ hx').2 hle⟩
  ·cases hN
 have hNv:=zpm (p:=q) vs.el
 rw[hN]at hNv
 intro r hr y hy
 obtain⟨km,hm⟩:=key r hr y hy
 have vy:=ha.el r hr y hy
 have vh:=zdn (.inl kt:VI t) (-hvS N)
 refine⟨xl vh vy hq,?_⟩
 cases hal:(xe (qw t (-hvS N)) y q).all with
 |true=>exact .inl rfl
 |false=>
  right
  by_cases hk:KI (qw t (-hvS N))∧KI y
  ·have hsa:(qw t (-hvS N)).all =false:=hk.1.all
   have e:qw t (-hvS N)=ku (vw t.lo (-hvS N)) (vw t.hi (-hvS N)):=by unfold qw;rw[if_pos ((vn kt.ri).2 kt)]
   rw[e]at hsa
   obtain⟨o1,o2⟩:=zdz.1 hsa
   have e1:dv (qw t (-hvS N)).lo =dv t.lo*pw (-hvS N):=by rw[e,zhj hsa];exact zdm o1
   have e2:dv (qw t (-hvS N)).hi =dv t.hi*pw (-hvS N):=by rw[e,zhj hsa];exact zdm o2
   have hNp:dv N*pw (-hvS N)≤pw (-1):=by
    by_cases h0:nm N=0
    ·rw[zhx h0,Rat.zero_mul];exact zda _
    ·have h1:=(zzw h0).2
     have h2:=vd h1 (zda (-hvS N))
     rw[←pwA]at h2
     exact Rat.le_trans h2 (zhc.2 (by unfold hvS;omega))
   have prod: ∀u v:Rat,inI u t→inI v y→ -pw (-1)≤(u*pw (-hvS N))*v∧(u*pw (-hvS N))*v≤pw (-1):=fun u v hu hv=>by
    have hin:=zue (.inl kt) vy hq hu hv
    rcases hin with c|⟨c1,c2⟩
    ·rw[km.all]at c;cases c
    ·obtain⟨d1,d2⟩:=(zpx km).2 _ c1 c2
     have hp:=zda (-hvS N)
     have f1:=vd (show u*v≤dv N from Rat.le_trans d2 hm) hp
     have f2:=vd (show-(dv N)≤u*v by grind) hp
     constructor<;>grind
   have tl:inI (dv t.lo) t:= .inr ⟨Rat.le_refl,kt.dle⟩
   have th:inI (dv t.hi) t:= .inr ⟨kt.dle,Rat.le_refl⟩
   have yl:inI (dv y.lo) y:= .inr ⟨Rat.le_refl,hk.2.dle⟩
   have yh:inI (dv y.hi) y:= .inr ⟨hk.2.dle,Rat.le_refl⟩
   rw[zpq hk.1 hk.2 hq]at hal⊢
   refine ztr (zpr hk.1 hk.2 (kf hq)) (pwF (by decide) (by decide)) ?_ hal
   unfold zs7
   rw[e1,e2]
   exact⟨prod _ _ tl yl,prod _ _ tl yh,prod _ _ th yl,prod _ _ th yh⟩
  ·rw[zv5 vh.ri vy.ri hk]at hal;cases hal
theorem u_bd {n k:Nat} {a:Mx} (ha:VM n k a) {t:Iv} (kt:KI t) {q:Int} (hq:pcB q=true) {N:Dy} (hN:nmM (scM a t q) q=(N,true)):bI (pw 2) (ke (nmM (scM a (qw t (-hvS N)) q) q).1):=by
 have vh:=zdn (.inl kt:VI t) (-hvS N)
 have vs:=zc9 ha vh hq
 have hb:=zwh ha kt hq hN
 have hsc:scM a (qw t (-hvS N)) q=yt (fun _ _ y=>xe (qw t (-hvS N)) y q) a:=by
  unfold scM;rw[if_pos (by rw[ha.ok,(yu vh.ri).2 vh,hq];rfl)]
 have hrow: ∀r∈scM a (qw t (-hvS N)) q,r.length=k∧ ∀x∈r,bI (pw (-1)) x:=fun r hr=>⟨vs.row r hr,fun x hx=>by
  rw[hsc]at hr
  obtain⟨i,r0,_,hr0,rfl⟩:=yp hr
  obtain⟨j,y,_,hy,rfl⟩:=yp hx
  exact hb r0 hr0 y hy⟩
 obtain⟨w1,w2⟩:=zpm (p:=q) vs.el
 have h4:dv (nmM (scM a (qw t (-hvS N)) q) q).1≤pw 2:=by
  have hk4:vN k (-1)≤pw 2:=by
   have h1:vN k (-1)≤vN 8 (-1):=by
    unfold vN
    exact vd (Rat.natCast_le_natCast.2 ha.k1.2) (zda _)
   have h2:vN 8 (-1)=pw 2:=by
    unfold vN
    rw[show((8:Nat):Rat)=pw 3 from(by rw[show pw 3=((2^3:Nat):Rat)from zga 3]),←pwA];rfl
   rw[h2]at h1;exact h1
  unfold nmM
  split
  ·split
   ·rename_i d hd
    exact Rat.le_trans (zyx hq ha.k1.2 _ d0 d hrow (by rw[zaw];exact zfs _ _) hd) hk4
   ·rw[zaw];exact zda _
  ·rw[zaw];exact zda _
 refine⟨.inl (zxg w1),.inr ⟨?_,h4⟩⟩
 have:=zda 2
 show-pw 2≤dv (nmM (scM a (qw t (-hvS N)) q) q).1
 grind
end Go.Proofs.YtgehdbenidimlaaGreatDoor

namespace Go.Proofs.YtgehdbenidimlaaGreatDoor
open Go Go.Sx
set_option maxHeartbeats 2000000
def byI (k:Nat) (p:Int):Iv:=zh5 (whI 1) (whI (k:Int)) p
def zj4 (m:Mx) (p:Int) (k:Nat) (s:MSt):MSt:=
 let t:=scM (muM s.term m p).1 (byI k p) p
 ⟨t,(adM s.exp t p).1,(adM s.phi (scM t (byI (k+1) p) p) p).1⟩
def zxl (u:Iv) (p:Int) (k:Nat) (r:Iv):Iv:=xe (xe r u p) (byI k p) p
def zkb (m:Mx) (u:Iv) (p:Int):Nat→Nat→MSt→Iv→MSt×Iv
 |0,_,s,r=>(s,r)
 |n+1,k,s,r=>if znd (zxl u p k r) p=true then(zj4 m p k s,zxl u p k r)else zkb m u p n (k+1) (zj4 m p k s) (zxl u p k r)
structure MPr where
 exp:Mx
 phi:Mx
def zt1 (m:Mx) (h:Iv) (p:Int):MPr:=
 let s:=zkb m (ke (nmM m p).1) p 700 1 ⟨idM m.length,idM m.length,idM m.length⟩ (whI 1)
 ⟨arM s.1.exp s.2 p,scM (arM s.1.phi s.2 p) h p⟩
def zwy (q:Int) (x:MPr):MPr:=⟨(muM x.exp x.exp q).1,(adM x.phi (muM x.exp x.phi q).1 q).1⟩
def ztc (q:Int):Nat→MPr→MPr
 |0,x=>x
 |n+1,x=>ztc q n (zwy q x)
def zc5 (a:Mx) (t:Iv) (p:Int):Option MPr:=
 let q:=min (p+40) 512
 let n:=nmM (scM a t q) q
 if n.2=false∨0<qi n.1 (zd6 256)then none else
  let half:=qw t (-hvS n.1)
  let x:=ztc q (hvS n.1).toNat (zt1 (scM a half q) half q)
  let y:MPr:=⟨rdM x.exp p,rdM x.phi p⟩
  if(knM y.exp&&knM y.phi)=true then some y else none
def zjr (a:Mx) (t:Iv) (p:Int):Bool:=vmB a&&decide (a.length=hdL a)&&kB t&&pcB p&& !(a.any fun r=>r.any fun x=>x.all)
def zk1 (a:Mx) (t:Iv) (p:Int):Mx×Int:=if zjr a t p=true then(match zc5 a t p with|some x=>(x.exp,0)|none=>([],13))else([],1)
def zpg (a:Mx) (t:Iv) (p:Int):Mx×Int:=if zjr a t p=true then(match zc5 a t p with|some x=>(x.phi,0)|none=>([],13))else([],1)
def apM (a:Mx) (x:List Iv) (p:Int):List Iv:=a.map fun r=>dtM p r x
def bvB (l:List Iv):Bool:=decide (1≤l.length∧l.length≤8)&& !l.any fun x=>x.all|| !viB x
def zpz (a:Mx) (b x:List Iv) (t:Iv) (p:Int):List Iv×Int:=
 if(zjr a t p&&bvB b&&bvB x&&decide (b.length=a.length)&&decide (x.length=a.length))=true then
  match zc5 a t p with
  |some y=>let out:=List.zipWith (fun u v=>zas u v p) (apM y.exp x p) (apM y.phi b p);if bvB out=true then(out,0)else([],13)
  |none=>([],13)
 else([],1)
end Go.Proofs.YtgehdbenidimlaaGreatDoor
