/-
  Matrices of intervals, exponential functions of matrices: plain functions; the series ends.
-/
import Derived.Test.YtgehdbenidimlaaGreatDoorQXe
import Derived.Test.YtgehdbenidimlaaGreatDoorQXa
import Derived.Test.YtgehdbenidimlaaGreatDoorQYl
set_option linter.unusedVariables false
set_option linter.unusedSimpArgs false
namespace Go.Proofs.YtgehdbenidimlaaGreatDoor
open Go Go.Sx
set_option maxHeartbeats 2000000
abbrev Mx:=List (List Iv)
def hdL (m:Mx):Nat:=(m.headD []).length
def vmB (m:Mx):Bool:=(decide (1<=m.length/\m.length<=8)&&decide (1<=hdL m/\hdL m<=8))&& !(m.any fun r=>decide (r.length≠hdL m)||r.any fun x=> !viB x)
def yw (f:Nat->Nat->Iv->Iv) (m:Mx):Mx:=m.mapIdx fun i r=>r.mapIdx fun j x=>f i j x
def atM (m:Mx) (i j:Nat):Iv:=((m[i]?.getD [])[j]?).getD zI
def idM (n:Nat):Mx:=if n<1\/8<n then []else(List.range n).map fun i=>(List.range n).map fun j=>whI (if i=j then 1 else 0)
def scM (a:Mx) (x:Iv) (p:Int):Mx:=if(vmB a&&viB x&&pcB p)=true then yw (fun _ _ y=>yb x y p) a else []
def adM (a b:Mx) (p:Int):Mx×Int:=
 if(vmB a&&vmB b)=false then([],1)else if pcB p=false then([],2)else if a.length≠b.length\/hdL a≠hdL b then([],3)else(yw (fun i j x=>yy x (atM b i j) p) a,0)
def dtG (p:Int):List Iv->List Iv->Iv->Iv
 |r::rs,c::cs,o=>dtG p rs cs (yy o (yb r c p) p)
 | _,_,o=>o
def dtM (p:Int):List Iv->List Iv->Iv
 |r::rs,c::cs=>dtG p rs cs (yb r c p)
 | _,_=>zI
def zkd (b:Mx) (j:Nat):List Iv:=b.map fun r=>(r[j]?).getD zI
def muM (a b:Mx) (p:Int):Mx×Int:=
 if(vmB a&&vmB b)=false then([],1)else if pcB p=false then([],2)else if hdL a≠b.length then([],3)else(a.map fun r=>(List.range (hdL b)).map fun j=>dtM p r (zkd b j),0)
def zfh (p:Int):List Iv->Dy->Option Dy
 | [],s=>some s
 |x::r,s=>if kB x=true/\(zai s (zct x) p.toNat true).2=0 then zfh p r (zai s (zct x) p.toNat true).1 else none
def nmG (p:Int):Mx->Dy->Option Dy
 | [],m=>some m
 |r::rs,m=>match zfh p r d0 with
  |none=>none
  |some s=>nmG p rs (if 0<qa s m then s else m)
def nmM (a:Mx) (p:Int):Dy×Bool:=if(vmB a&&pcB p)=true then(match nmG p a d0 with|some d=>(d,true)|none=>(d0,false))else(d0,false)
def arM (m:Mx) (e:Iv) (p:Int):Mx:=m.map fun r=>r.map fun y=>yy y (zax (zcl e) e) p
def knM (m:Mx):Bool:= !(m.any fun r=>r.any fun x=>x.all)&&decide (0<m.length)
def rdM (m:Mx) (p:Int):Mx:=m.map fun r=>r.map fun x=>kw x p
def rsI (u:Iv) (p:Int):Nat->Iv
 |0=>whI 1
 |k+1=>yb (yb (rsI u p k) u p) (zj3 (whI 1) (whI ((k+1:Nat):Int)) p) p
def zki (x:Iv) (p:Int):Bool:=x.all||decide (wz x.hi=0)||decide (qb x.hi< -p-8)
structure MSt where
 term:Mx
 exp:Mx
 phi:Mx
theorem zti {k:Nat} (h:8<=k):(0:Rat)<=(k:Rat)⁻¹ /\(k:Rat)⁻¹ <=pw (-3):=by
 have hk:(8:Rat)<=(k:Rat):=by
  have:=(Rat.natCast_le_natCast (a:=8) (b:=k)).2 h;simpa using this
 have h0:(0:Rat)<(k:Rat):=by grind
 have hi:(0:Rat)<(k:Rat)⁻¹ :=Rat.inv_pos.2 h0;have hm:=Rat.mul_inv_cancel (k:Rat) (by grind);have h8:pw (-3)*8=1:=by
  rw[show(8:Rat)=pw 3 from(by rw[show pw 3=((2^3:Nat):Rat)from jg 3];rfl),←pwA];unfold pw;simp
 refine⟨Rat.le_of_lt hi,?_⟩;have h1:(k:Rat)⁻¹ *8<=(k:Rat)⁻¹ *(k:Rat):=Rat.mul_le_mul_of_nonneg_left hk (Rat.le_of_lt hi);have h2:(k:Rat)⁻¹ *(k:Rat)=1:=by rw[Rat.mul_comm];exact hm
 grind
theorem bI_by {k:Nat} (h:8<=k) (h2:k<=1000000) {p:Int} (hp:pcB p=true):bI (pw (-3)) (zj3 (whI 1) (whI (k:Int)) p):=by
 have kn:=zeo (n:=(k:Int)) (by omega);have k1:=zeo (n:=1) (by decide);have e:dv (whI (k:Int)).lo =(k:Rat):=(ji (k:Int)).trans (Rat.intCast_natCast k);have e':dv (whI (k:Int)).hi =(k:Rat):=(ji (k:Int)).trans (Rat.intCast_natCast k);have o:dv (whI 1).lo =1:=(ji 1).trans (by simp);have o':dv (whI 1).hi =1:=(ji 1).trans (by simp);have hk0:(0:Rat)<(k:Rat):=by
  have:=(Rat.natCast_le_natCast (a:=8) (b:=k)).2 h;have h8:(8:Rat)<=(k:Rat):=by simpa using this
  grind
 have hs:0<dv (whI (k:Int)).lo \/dv (whI (k:Int)).hi <0:= .inl (by rw[e];exact hk0);refine⟨zj2 (.inl k1) (.inl kn) hp,?_⟩
 cases ha:(zj3 (whI 1) (whI (k:Int)) p).all with
 |true=>exact .inl rfl
 |false=>
  right;rw[zj1 k1 kn hs hp]at ha⊢;obtain⟨i1,i2⟩:=zti h;have hq: -pw (-3)<=1/(k:Rat)/\1/(k:Rat)<=pw (-3):=by
   rw[Rat.div_def,Rat.one_mul];have:=zb3 (-3);constructor<;>grind
  refine zqk (zpb k1 kn hs (vn hp)) (pwF (by decide) (by decide)) ?_ ha;unfold zln;rw[e,e',o,o'];exact⟨hq,hq,hq,hq⟩
theorem zx5 {u:Iv} {p:Int} (hp:pcB p=true) (hu:bI (pw 2) u): ∀k:Nat,k<=8->bI (pw (2*(k:Int))) (rsI u p k)
 |0,_=>zy5
 |k+1,hk=>by
  have ih:=zx5 hp hu k (by omega);have e1:pw (2*(k:Int))*pw 2=pw (2*((k+1:Nat):Int)):=by rw[←pwA];congr 1<;>omega
  have h1:=zma ih hu hp (by rw[e1];exact pwF (by omega) (by omega));rw[e1]at h1;have h2:=qby zy5 (n:=((k+1:Nat):Int)) (by omega) (by omega) hp (pwF (by decide) (by decide));have e2:pw (2*((k+1:Nat):Int))*pw 0=pw (2*((k+1:Nat):Int)):=by rw[←pwA];congr 1<;>omega
  have h3:=zma h1 h2 hp (by rw[e2];exact pwF (by omega) (by omega));rw[e2]at h3;exact h3
theorem zx4 {u:Iv} {p:Int} (hp:pcB p=true) (hu:bI (pw 2) u): ∀k:Nat,k<=2000->bI (pw (16-(k:Int))) (rsI u p (8+k))
 |0,_=>zx5 hp hu 8 (by omega)
 |k+1,hk=>by
  have ih:=zx4 hp hu k (by omega);have e1:pw (16-(k:Int))*pw 2=pw (18-(k:Int)):=by rw[←pwA];congr 1<;>omega
  have h1:=zma ih hu hp (by rw[e1];exact pwF (by omega) (by omega));rw[e1]at h1;have h2:=bI_by (k:=8+k+1) (by omega) (by omega) hp;have e2:pw (18-(k:Int))*pw (-3)=pw (16-((k+1:Nat):Int)):=by rw[←pwA];congr 1<;>omega
  have h3:=zma h1 h2 hp (by rw[e2];exact pwF (by omega) (by omega));rw[e2]at h3;exact h3
theorem qde {x:Iv} {p t:Int} (hx:bI (pw t) x) (h:zki x p=false): -p-9<=t:=by
 unfold zki at h;simp only[Bool.or_eq_false_iff,decide_eq_false_iff_not]at h;obtain⟨⟨h1,h2⟩,h3⟩:=h;have k:=(un hx.1).1 h1;obtain⟨_,a3,a4⟩:=hx.ends k;have hn:nm x.hi≠0:=fun c=>h2 (by unfold wz;rw[if_pos c])
 unfold qb at h3;rw[if_neg hn]at h3;have ht:=uo (n:=nm x.hi) (e:=x.hi.e) (t:=(bl (nm x.hi):Int)+x.hi.e-1) (by omega) hn;have h4:vN (nm x.hi) x.hi.e<=pw t:=by
  unfold dv at a3 a4;split at a4
  ·grind
  ·exact a4
 have:=za5.1 (Rat.le_trans ht h4);omega
theorem zzv {u:Iv} {p:Int} (hp:pcB p=true) (hu:bI (pw 2) u): ∃k:Nat,1<=k/\k<=700/\zki (rsI u p k) p=true:=by
 obtain⟨q,rfl,hq⟩:=ux.1 hp;refine⟨8+(q+30),by omega,by omega,?_⟩
 cases h:zki (rsI u q (8+(q+30))) q with
 |true=>rfl
 |false=>
  have:=qde (zx4 hp hu (q+30) (by omega)) h;omega
structure VM (n k:Nat) (m:Mx):Prop where
 n1:1<=n/\n<=8
 k1:1<=k/\k<=8
 len:m.length=n
 row: ∀r∈m,r.length=k
 el: ∀r∈m,∀x∈r,VI x
theorem VM.hd {n k:Nat} {m:Mx} (h:VM n k m):hdL m=k:=by
 have h1:=h.n1;have h2:=h.len;have h3:=h.row;unfold hdL
 cases m with
 |nil=>simp at h2;omega
 |cons r m=>exact h3 r (by simp)
def RM (m:Mx):Prop:= ∀r∈m,∀x∈r,RI x
theorem VM.ri {n k:Nat} {m:Mx} (h:VM n k m):RM m:=fun r hr x hx=>(h.el r hr x hx).ri
theorem zep {m:Mx} (h:RM m):vmB m=true<-> ∃n k,VM n k m:=by
 unfold vmB;simp only[Bool.and_eq_true,decide_eq_true_eq,Bool.not_eq_true',List.any_eq_false,Bool.or_eq_true,not_or,ne_eq,Decidable.not_not];constructor
 ·rintro⟨⟨h1,h2⟩,h3⟩;exact⟨m.length,hdL m,h1,h2,rfl,fun r hr=>(h3 r hr).1,fun r hr x hx=>by
   have h4:=(h3 r hr).2;simp only[List.any_eq_true,Bool.not_eq_true',not_exists,not_and,Bool.not_eq_false]at h4;exact(wl (h r hr x hx)).1 (h4 x hx)⟩
 ·rintro⟨n,k,v⟩;refine⟨⟨by rw[v.len];exact v.n1,by rw[v.hd];exact v.k1⟩,fun r hr=>⟨by rw[v.hd];exact v.row r hr,?_⟩⟩;simp only[List.any_eq_true,Bool.not_eq_true',not_exists,not_and,Bool.not_eq_false];exact fun x hx=>(wl (h r hr x hx)).2 (v.el r hr x hx)
theorem VM.ok {n k:Nat} {m:Mx} (h:VM n k m):vmB m=true:=(zep h.ri).2 ⟨n,k,h⟩
theorem ja {α β:Type} {f:Nat->α->β} {l:List α} {y:β} (h:y∈l.mapIdx f): ∃i x,l[i]? =some x/\x∈l/\y=f i x:=by
 obtain⟨i,hi⟩:=List.getElem?_of_mem h;rw[List.getElem?_mapIdx,Option.map_eq_some_iff]at hi;obtain⟨x,hx,rfl⟩:=hi;exact⟨i,x,hx,List.mem_of_getElem? hx,rfl⟩
theorem zt2 {n k:Nat} {m:Mx} (h:VM n k m) {f:Nat->Nat->Iv->Iv} (hf: ∀i j x,VI x->i<n->j<k->VI (f i j x)):VM n k (yw f m):=by
 refine⟨h.n1,h.k1,by unfold yw;rw[List.length_mapIdx];exact h.len,fun r hr=>?_,fun r hr x hx=>?_⟩
 ·obtain⟨i,r0,_,hr0,rfl⟩:=ja hr;rw[List.length_mapIdx];exact h.row r0 hr0
 ·obtain⟨i,r0,hi,hr0,rfl⟩:=ja hr;obtain⟨j,x0,hj,hx0,rfl⟩:=ja hx;refine hf i j x0 (h.el r0 hr0 x0 hx0) ?_ ?_
  ·have:=(List.getElem?_eq_some_iff.1 hi).1;rw[h.len]at this;exact this
  ·have:=(List.getElem?_eq_some_iff.1 hj).1;rw[h.row r0 hr0]at this;exact this
theorem uh {n k:Nat} {m:Mx} (h:VM n k m) {i j:Nat} (hi:i<n) (hj:j<k):VI (atM m i j):=by
 unfold atM;have hi:i<m.length:=by rw[h.len];exact hi
 rw[List.getElem?_eq_getElem hi];have hm:=List.getElem_mem hi;have hj:j<m[i].length :=by rw[h.row _ hm];exact hj
 simp only[Option.getD_some];rw[List.getElem?_eq_getElem hj];exact h.el _ hm _ (List.getElem_mem hj)
theorem zcw {n:Int} (h: -4611686018427387904<=n/\n<=4611686018427387904):VI (whI n):= .inl (zeo h)
theorem zle {n:Nat} (h:1<=n/\n<=8):VM n n (idM n):=by
 unfold idM;rw[if_neg (by omega)];refine⟨h,h,by simp,fun r hr=>?_,fun r hr x hx=>?_⟩
 ·obtain⟨i,_,rfl⟩:=List.mem_map.1 hr;simp
 ·obtain⟨i,_,rfl⟩:=List.mem_map.1 hr;obtain⟨j,_,rfl⟩:=List.mem_map.1 hx;split<;>exact zcw (by decide)
theorem zam {n k:Nat} {a:Mx} (h:VM n k a) {x:Iv} (hx:VI x) {p:Int} (hp:pcB p=true):VM n k (scM a x p):=by
 unfold scM;rw[if_pos (by rw[h.ok,(wl hx.ri).2 hx,hp];rfl)];exact zt2 h fun i j y hy _ _=>ww hx hy hp
theorem zem {n k:Nat} {a b:Mx} (ha:VM n k a) (hb:VM n k b) {p:Int} (hp:pcB p=true):(adM a b p).2=0/\VM n k (adM a b p).1:=by
 unfold adM;rw[if_neg (by rw[ha.ok,hb.ok];simp),if_neg (by rw[hp];simp),if_neg (by rw[ha.len,hb.len,ha.hd,hb.hd];simp)];exact⟨rfl,zt2 ha fun i j y hy hi hj=>ziq hy (uh hb hi hj) hp⟩
theorem zy0 {p:Int} (hp:pcB p=true): ∀(r c:List Iv) (o:Iv),(∀x∈r,VI x)->(∀x∈c,VI x)->VI o->VI (dtG p r c o)
 | [],_,o,_,_,ho=>ho
 | _::_,[],o,_,_,ho=>ho
 |x::r,y::c,o,hr,hc,ho=>zy0 hp r c _ (fun z hz=>hr z (List.mem_cons_of_mem _ hz)) (fun z hz=>hc z (List.mem_cons_of_mem _ hz)) (ziq ho (ww (hr x (by simp)) (hc y (by simp)) hp) hp)
theorem qbg {p:Int} (hp:pcB p=true) {r c:List Iv} (hr: ∀x∈r,VI x) (hc: ∀x∈c,VI x):VI (dtM p r c):=by
 unfold dtM;split
 ·rename_i x r y c;exact zy0 hp r c _ (fun z hz=>hr z (List.mem_cons_of_mem _ hz)) (fun z hz=>hc z (List.mem_cons_of_mem _ hz)) (ww (hr x (by simp)) (hc y (by simp)) hp)
 ·exact zI_VI
theorem qfj {n k:Nat} {b:Mx} (h:VM n k b) {j:Nat} (hj:j<k): ∀x∈zkd b j,VI x:=fun x hx=>by
 obtain⟨r,hr,rfl⟩:=List.mem_map.1 hx;have hj:j<r.length:=by rw[h.row r hr];exact hj
 rw[List.getElem?_eq_getElem hj];exact h.el r hr _ (List.getElem_mem hj)
theorem zea {n k l:Nat} {a b:Mx} (ha:VM n k a) (hb:VM k l b) {p:Int} (hp:pcB p=true):(muM a b p).2=0/\VM n l (muM a b p).1:=by
 unfold muM;rw[if_neg (by rw[ha.ok,hb.ok];simp),if_neg (by rw[hp];simp),if_neg (by rw[ha.hd,hb.len];simp)];refine⟨rfl,ha.n1,hb.k1,by simp[ha.len],fun r hr=>?_,fun r hr x hx=>?_⟩
 ·obtain⟨r0,_,rfl⟩:=List.mem_map.1 hr;simp[hb.hd]
 ·obtain⟨r0,hr0,rfl⟩:=List.mem_map.1 hr;obtain⟨j,hj,rfl⟩:=List.mem_map.1 hx;have hj:j<l:=by have:=List.mem_range.1 hj;rw[hb.hd]at this;exact this
  exact qbg hp (ha.el r0 hr0) (qfj hb hj)
theorem zvp {x:Iv} (hx:VI x) (p:Int):VI (kw x p):=by
 unfold kw;split
 ·rename_i c;have k:=(qn hx.ri).1 c.1;exact qac (uj k.lo (vn c.2)) (uj k.hi (vn c.2)) (zj8 (zb1 _ _ _ (vn c.2)) (zb1 _ _ _ (vn c.2))) k.dle
 ·exact .inr rfl
theorem zsx {n k:Nat} {m:Mx} (h:VM n k m) {f:Iv->Iv} (hf: ∀x,VI x->VI (f x)):VM n k (m.map fun r=>r.map f):=by
 refine⟨h.n1,h.k1,by simp[h.len],fun r hr=>?_,fun r hr x hx=>?_⟩
 ·obtain⟨r0,hr0,rfl⟩:=List.mem_map.1 hr;simp[h.row r0 hr0]
 ·obtain⟨r0,hr0,rfl⟩:=List.mem_map.1 hr;obtain⟨y,hy,rfl⟩:=List.mem_map.1 hx;exact hf y (h.el r0 hr0 y hy)
theorem zmw {n k:Nat} {m:Mx} (h:VM n k m) (p:Int):VM n k (rdM m p):=zsx h fun x hx=>zvp hx p
theorem zur {n k:Nat} {m:Mx} (h:VM n k m) {e:Iv} (he:VI e) {p:Int} (hp:pcB p=true):VM n k (arM m e p):=zsx h fun x hx=>ziq hx (zjr (zk0 he).ri he.ri) hp
theorem ze9 {k:Nat} (h:1<=k) (h2:k<=1000000) {p:Int} (hp:pcB p=true):VI (zj3 (whI 1) (whI (k:Int)) p):=zj2 (zcw (by decide)) (zcw (by omega)) hp
theorem qad {u:Iv} (hu:VI u) {p:Int} (hp:pcB p=true): ∀k:Nat,k<=100000->VI (rsI u p k)
 |0,_=>zcw (by decide)
 |k+1,hk=>ww (ww (qad hu hp k (by omega)) hu hp) (ze9 (by omega) (by omega) hp) hp
theorem zsy {x:Iv} (k:KI x):0<=dv (zct x)/\(∀a:Rat,dv x.lo<=a->a<=dv x.hi-> -dv (zct x)<=a/\a<=dv (zct x)):=by
 obtain⟨h1,h2,h3⟩:=zuu k Rat.le_refl k.dle;refine⟨Rat.le_trans h1 (Rat.le_trans h2 h3),fun a ha hb=>?_⟩;obtain⟨_,_,h4⟩:=zuu k ha hb;unfold qp at h4;split at h4<;>constructor<;>grind
theorem qbx {x:Iv} (k:KI x):bI (dv (zct x)) x:=by
 obtain⟨_,h⟩:=zsy k;exact⟨.inl k,.inr ⟨(h _ Rat.le_refl k.dle).1,(h _ k.dle Rat.le_refl).2⟩⟩
theorem zc5 {x:Iv} (hx:VI x) (j:Int):VI (zy x j):=by
 rcases hx with k|rfl
 ·exact(zph (qbx k) j).1
 ·exact .inr rfl
theorem zi9 {p:Int} (hp:pcB p=true): ∀(r:List Iv) (s S:Dy),(∀x∈r,VI x)->VD s->0<=dv s->zfh p r s=some S->VD S/\dv s<=dv S/\ ∀x∈r,KI x/\dv (zct x)<=dv S
 | [],s,S,_,hs,_,h=>by cases h;exact⟨hs,Rat.le_refl,fun x hx=>by cases hx⟩
 |x::r,s,S,hx,hs,h0,h=>by
  unfold zfh at h;split at h
  ·rename_i c;have k:=(qn (hx x (by simp)).ri).1 c.1;have R1:=(zbm hs (zir k) (vn hp)).2.1 c.2;obtain⟨m0,_⟩:=zsy k;have h1:dv s+dv (zct x)<=dv (zai s (zct x) p.toNat true).1:=R1.1;obtain⟨a1,a2,a3⟩:=zi9 hp r _ S (fun y hy=>hx y (List.mem_cons_of_mem _ hy)) (zey _ _ _ _ (vn hp)) (by grind) h;refine⟨a1,by grind,fun y hy=>?_⟩;rcases List.mem_cons.1 hy with rfl|hy
   ·exact⟨k,by grind⟩
   ·exact a3 y hy
  ·cases h
theorem zyt {p:Nat} (hp:8<=p) {c:Nat} (hc:c<=256):inF p (vN c (-1)):=by
 refine⟨c,-1,rfl,Nat.le_trans hc (Nat.le_trans (by decide:256<=2^8) (Nat.pow_le_pow_right (by decide) hp)),by decide,?_⟩;have h1:vN c (-1)<=pw 8:=by
  unfold vN;have h2:(c:Rat)<=pw 8:=by
   rw[show pw 8=((2^8:Nat):Rat)from jg 8];exact Rat.natCast_le_natCast.2 hc
  have h3:pw (-1)<=pw 0:=za5.2 (by decide);have h4:=zbr (Rat.natCast_nonneg (a:=c)) h2 (zb3 (-1)) h3;rw[←pwA]at h4;exact h4
 exact zr1 h1 (zsd (by decide))
theorem zqv (c:Nat):vN (c+1) (-1)=vN c (-1)+pw (-1):=by
 unfold vN;rw[show((c+1:Nat):Rat)=(c:Rat)+1 from Rat.natCast_add c 1];grind
theorem zx7 {p:Int} (hp:pcB p=true): ∀(r:List Iv) (s S:Dy) (c:Nat),(∀x∈r,bI (pw (-1)) x)->VD s->dv s<=vN c (-1)->c+r.length<=200->zfh p r s=some S->dv S<=vN (c+r.length) (-1)
 | [],s,S,c,_,_,h1,_,h=>by cases h;exact h1
 |x::r,s,S,c,hx,hs,h1,hc,h=>by
  unfold zfh at h;split at h
  ·rename_i e;have hb:=hx x (by simp);have k:=(qn hb.1.ri).1 e.1;have hm:=(zsz hb k).2.1;have hF:=zyt (p:=p.toNat) (vn hp).1 (c:=c+1) (by simp at hc;omega);have R1:=(zbm hs (zir k) (vn hp)).2.2 (vN (c+1) (-1)) (.inl hF) (by show dv s+dv (zct x)<=_;rw[zqv];grind);have:=zx7 hp r _ S (c+1) (fun y hy=>hx y (List.mem_cons_of_mem _ hy)) (zey _ _ _ _ (vn hp)) R1.2 (by simp at hc;omega) h;rw[show c+(x::r).length =c+1+r.length by simp;omega];exact this
  ·cases h
theorem zjf {p:Int} (hp:pcB p=true): ∀(m:Mx) (D0 D:Dy),(∀r∈m,∀x∈r,VI x)->VD D0->nmG p m D0=some D->VD D/\dv D0<=dv D/\ ∀r∈m,∃s,zfh p r d0=some s/\dv s<=dv D
 | [],D0,D,_,h0,h=>by cases h;exact⟨h0,Rat.le_refl,fun r hr=>by cases hr⟩
 |r::m,D0,D,hv,h0,h=>by
  unfold nmG at h;split at h
  ·cases h
  ·rename_i s hs;have hs1:=zi9 hp r d0 s (hv r (by simp)) qc (by rw[xc];exact Rat.le_refl) hs;have hcm:=zbk s D0;obtain⟨a1,a2,a3⟩:=zjf hp m _ D (fun r hr=>hv r (List.mem_cons_of_mem _ hr)) (by split;exact hs1.1;exact h0) h;have h1:dv s<=dv D/\dv D0<=dv D:=by
    split at a2
    ·rename_i c;have:=hcm.2.1.1 c;exact⟨a2,Rat.le_trans (Rat.le_of_lt this) a2⟩
    ·rename_i c;have:dv s<=dv D0:=Rat.not_lt.1 fun c2=>c (hcm.2.1.2 c2)
     exact⟨Rat.le_trans this a2,a2⟩
   refine⟨a1,h1.2,fun r' hr'=>?_⟩;rcases List.mem_cons.1 hr' with rfl|hr'
   ·exact⟨s,hs,h1.1⟩
   ·exact a3 r' hr'
theorem zv3 {p:Int} (hp:pcB p=true) {k:Nat} (hk:k<=8): ∀(m:Mx) (D0 D:Dy),(∀r∈m,r.length=k/\ ∀x∈r,bI (pw (-1)) x)->dv D0<=vN k (-1)->nmG p m D0=some D->dv D<=vN k (-1)
 | [],D0,D,_,h0,h=>by cases h;exact h0
 |r::m,D0,D,hv,h0,h=>by
  unfold nmG at h;split at h
  ·cases h
  ·rename_i s hs;obtain⟨hl,hb⟩:=hv r (by simp);have h1:=zx7 hp r d0 s 0 hb qc (by rw[xc];exact zc0 _ _) (by omega) hs;rw[Nat.zero_add,hl]at h1;refine zv3 hp hk m _ D (fun r hr=>hv r (List.mem_cons_of_mem _ hr)) ?_ h;split
   ·exact h1
   ·exact h0
theorem zjh {a:Mx} {p:Int} (h: ∀r∈a,∀x∈r,VI x):VD (nmM a p).1/\0<=dv (nmM a p).1:=by
 unfold nmM;split
 ·rename_i c;rw[Bool.and_eq_true]at c;split
  ·rename_i d hd;obtain⟨a1,a2,_⟩:=zjf c.2 a d0 d h qc hd;rw[xc]at a2;exact⟨a1,a2⟩
  ·exact⟨qc,by rw[xc];exact Rat.le_refl⟩
 ·exact⟨qc,by rw[xc];exact Rat.le_refl⟩
def hvS (N:Dy):Int:=max 0 (qb N+1)
theorem zwd {f:Iv->Iv} {m:Mx} {r:List Iv} {x:Iv} (hr:r∈m) (hx:x∈r): ∃r'∈yw (fun _ _ y=>f y) m,f x∈r':=by
 obtain⟨i,hi⟩:=List.getElem?_of_mem hr;obtain⟨j,hj⟩:=List.getElem?_of_mem hx;refine⟨r.mapIdx fun _ y=>f y,List.mem_of_getElem? (i:=i) (by unfold yw;rw[List.getElem?_mapIdx,hi];rfl),List.mem_of_getElem? (i:=j) (by rw[List.getElem?_mapIdx,hj];rfl)⟩
theorem znj {n k:Nat} {a:Mx} (ha:VM n k a) {t:Iv} (kt:KI t) {q:Int} (hq:pcB q=true) {N:Dy} (hN:nmM (scM a t q) q=(N,true)): ∀r∈a,∀y∈r,bI (pw (-1)) (yb (zy t (-hvS N)) y q):=by
 have hsc:scM a t q=yw (fun _ _ y=>yb t y q) a:=by
  unfold scM;rw[if_pos (by rw[ha.ok,(wl kt.ri).2 (.inl kt),hq];rfl)]
 have vs:=zam ha (.inl kt) hq;have key: ∀r∈a,∀y∈r,KI (yb t y q)/\dv (zct (yb t y q))<=dv N:=fun r hr y hy=>by
  unfold nmM at hN;rw[if_pos (by rw[vs.ok,hq];rfl)]at hN;split at hN
  ·rename_i d hd;cases hN
   obtain⟨a1,a2,a3⟩:=zjf hq _ d0 N vs.el qc hd;obtain⟨r',hr',hx'⟩:=zwd (f:=fun y=>yb t y q) hr hy;rw[←hsc]at hr';obtain⟨s,hs,hle⟩:=a3 r' hr';obtain⟨_,_,b3⟩:=zi9 hq r' d0 s (vs.el r' hr') qc (by rw[xc];exact Rat.le_refl) hs;exact⟨(b3 _ hx').1,Rat.le_trans (b3 _ hx').2 hle⟩
  ·cases hN
 have hNv:=zjh (p:=q) vs.el;rw[hN]at hNv;intro r hr y hy;obtain⟨km,hm⟩:=key r hr y hy;have vy:=ha.el r hr y hy;have vh:=zc5 (.inl kt:VI t) (-hvS N);refine⟨ww vh vy hq,?_⟩
 cases hal:(yb (zy t (-hvS N)) y q).all with
 |true=>exact .inl rfl
 |false=>
  right;by_cases hk:KI (zy t (-hvS N))/\KI y
  ·have hsa:(zy t (-hvS N)).all =false:=hk.1.all;have e:zy t (-hvS N)=kp (vj t.lo (-hvS N)) (vj t.hi (-hvS N)):=by unfold zy;rw[if_pos ((qn kt.ri).2 kt)]
   rw[e]at hsa;obtain⟨o1,o2⟩:=yi.1 hsa;have e1:dv (zy t (-hvS N)).lo =dv t.lo*pw (-hvS N):=by rw[e,za8 hsa];exact zbo o1
   have e2:dv (zy t (-hvS N)).hi =dv t.hi*pw (-hvS N):=by rw[e,za8 hsa];exact zbo o2
   have hNp:dv N*pw (-hvS N)<=pw (-1):=by
    by_cases h0:nm N=0
    ·rw[zg7 h0,Rat.zero_mul];exact zb3 _
    ·have h1:=(zyz h0).2;have h2:=ve h1 (zb3 (-hvS N));rw[←pwA]at h2;exact Rat.le_trans h2 (za5.2 (by unfold hvS;omega))
   have prod: ∀u v:Rat,inI u t->inI v y-> -pw (-1)<=(u*pw (-hvS N))*v/\(u*pw (-hvS N))*v<=pw (-1):=fun u v hu hv=>by
    have hin:=zev (.inl kt) vy hq hu hv;rcases hin with c|⟨c1,c2⟩
    ·rw[km.all]at c;cases c
    ·obtain⟨d1,d2⟩:=(zsy km).2 _ c1 c2;have hp:=zb3 (-hvS N);have f1:=ve (show u*v<=dv N from Rat.le_trans d2 hm) hp;have f2:=ve (show-(dv N)<=u*v by grind) hp;constructor<;>grind
   have tl:inI (dv t.lo) t:= .inr ⟨Rat.le_refl,kt.dle⟩;have th:inI (dv t.hi) t:= .inr ⟨kt.dle,Rat.le_refl⟩;have yl:inI (dv y.lo) y:= .inr ⟨Rat.le_refl,hk.2.dle⟩;have yh:inI (dv y.hi) y:= .inr ⟨hk.2.dle,Rat.le_refl⟩;rw[zk3 hk.1 hk.2 hq]at hal⊢;refine zqk (zk4 hk.1 hk.2 (vn hq)) (pwF (by decide) (by decide)) ?_ hal;unfold zln;rw[e1,e2];exact⟨prod _ _ tl yl,prod _ _ tl yh,prod _ _ th yl,prod _ _ th yh⟩
  ·rw[zwa vh.ri vy.ri hk]at hal;cases hal
theorem u_bd {n k:Nat} {a:Mx} (ha:VM n k a) {t:Iv} (kt:KI t) {q:Int} (hq:pcB q=true) {N:Dy} (hN:nmM (scM a t q) q=(N,true)):bI (pw 2) (zk (nmM (scM a (zy t (-hvS N)) q) q).1):=by
 have vh:=zc5 (.inl kt:VI t) (-hvS N);have vs:=zam ha vh hq;have hb:=znj ha kt hq hN;have hsc:scM a (zy t (-hvS N)) q=yw (fun _ _ y=>yb (zy t (-hvS N)) y q) a:=by
  unfold scM;rw[if_pos (by rw[ha.ok,(wl vh.ri).2 vh,hq];rfl)]
 have hrow: ∀r∈scM a (zy t (-hvS N)) q,r.length=k/\ ∀x∈r,bI (pw (-1)) x:=fun r hr=>⟨vs.row r hr,fun x hx=>by
  rw[hsc]at hr;obtain⟨i,r0,_,hr0,rfl⟩:=ja hr;obtain⟨j,y,_,hy,rfl⟩:=ja hx;exact hb r0 hr0 y hy⟩
 obtain⟨w1,w2⟩:=zjh (p:=q) vs.el;have h4:dv (nmM (scM a (zy t (-hvS N)) q) q).1<=pw 2:=by
  have hk4:vN k (-1)<=pw 2:=by
   have h1:vN k (-1)<=vN 8 (-1):=by
    unfold vN;exact ve (Rat.natCast_le_natCast.2 ha.k1.2) (zb3 _)
   have h2:vN 8 (-1)=pw 2:=by
    unfold vN;rw[show((8:Nat):Rat)=pw 3 from(by rw[show pw 3=((2^3:Nat):Rat)from jg 3]),←pwA];rfl
   rw[h2]at h1;exact h1
  unfold nmM;split
  ·split
   ·rename_i d hd;exact Rat.le_trans (zv3 hq ha.k1.2 _ d0 d hrow (by rw[xc];exact zc0 _ _) hd) hk4
   ·rw[xc];exact zb3 _
  ·rw[xc];exact zb3 _
 refine⟨.inl (zbn w1),.inr ⟨?_,h4⟩⟩;have:=zb3 2;show-pw 2<=dv (nmM (scM a (zy t (-hvS N)) q) q).1;grind
def byI (k:Nat) (p:Int):Iv:=zj3 (whI 1) (whI (k:Int)) p
def zd2 (m:Mx) (p:Int) (k:Nat) (s:MSt):MSt:=
 let t:=scM (muM s.term m p).1 (byI k p) p
 ⟨t,(adM s.exp t p).1,(adM s.phi (scM t (byI (k+1) p) p) p).1⟩
def zu0 (u:Iv) (p:Int) (k:Nat) (r:Iv):Iv:=yb (yb r u p) (byI k p) p
def xj (m:Mx) (u:Iv) (p:Int):Nat->Nat->MSt->Iv->MSt×Iv
 |0,_,s,r=>(s,r)
 |n+1,k,s,r=>if zki (zu0 u p k r) p=true then(zd2 m p k s,zu0 u p k r)else xj m u p n (k+1) (zd2 m p k s) (zu0 u p k r)
structure MPr where
 exp:Mx
 phi:Mx
def zmo (m:Mx) (h:Iv) (p:Int):MPr:=
 let s:=xj m (zk (nmM m p).1) p 700 1 ⟨idM m.length,idM m.length,idM m.length⟩ (whI 1)
 ⟨arM s.1.exp s.2 p,scM (arM s.1.phi s.2 p) h p⟩
def zqf (q:Int) (x:MPr):MPr:=⟨(muM x.exp x.exp q).1,(adM x.phi (muM x.exp x.phi q).1 q).1⟩
def znm (q:Int):Nat->MPr->MPr
 |0,x=>x
 |n+1,x=>znm q n (zqf q x)
def zcs (a:Mx) (t:Iv) (p:Int):Option MPr:=
 let q:=min (p+40) 512
 let n:=nmM (scM a t q) q
 if n.2=false\/0<qa n.1 (zb4 256)then none else
  let half:=zy t (-hvS n.1)
  let x:=znm q (hvS n.1).toNat (zmo (scM a half q) half q)
  let y:MPr:=⟨rdM x.exp p,rdM x.phi p⟩
  if(knM y.exp&&knM y.phi)=true then some y else none
def zhh (a:Mx) (t:Iv) (p:Int):Bool:=vmB a&&decide (a.length=hdL a)&&kB t&&pcB p&& !(a.any fun r=>r.any fun x=>x.all)
def zqp (a:Mx) (t:Iv) (p:Int):Mx×Int:=if zhh a t p=true then(match zcs a t p with|some x=>(x.exp,0)|none=>([],13))else([],1)
def zye (a:Mx) (t:Iv) (p:Int):Mx×Int:=if zhh a t p=true then(match zcs a t p with|some x=>(x.phi,0)|none=>([],13))else([],1)
def apM (a:Mx) (x:List Iv) (p:Int):List Iv:=a.map fun r=>dtM p r x
def bvB (l:List Iv):Bool:=decide (1<=l.length/\l.length<=8)&& !l.any fun x=>x.all|| !viB x
def zyn (a:Mx) (b x:List Iv) (t:Iv) (p:Int):List Iv×Int:=
 if(zhh a t p&&bvB b&&bvB x&&decide (b.length=a.length)&&decide (x.length=a.length))=true then
  match zcs a t p with
  |some y=>let out:=List.zipWith (fun u v=>yy u v p) (apM y.exp x p) (apM y.phi b p);if bvB out=true then(out,0)else([],13)
  |none=>([],13)
 else([],1)
structure kI (B:Rat) (x:Iv):Prop where
 k:KI x
 lo: -B<=dv x.lo
 hi:dv x.hi<=B
theorem kI.b {B:Rat} {x:Iv} (h:kI B x):bI B x:=⟨.inl h.k,.inr ⟨h.lo,h.hi⟩⟩
theorem zth {B:Rat} {x:Iv} (h:bI B x) (ha:x.all=false):kI B x:=by
 have k:=(un h.1).1 ha;rcases h.2 with c|c
 ·rw[ha]at c;cases c
 ·exact⟨k,c.1,c.2⟩
theorem kI.mono {B C:Rat} {x:Iv} (h:kI B x) (hb:B<=C):kI C x:=⟨h.k,by have:=h.lo;grind,by have:=h.hi;grind⟩
theorem kI.nn {B:Rat} {x:Iv} (h:kI B x):0<=B:=by
 have h1:=h.lo;have h2:=h.hi;have h3:=h.k.dle;grind
theorem qb8 {p:Nat} {op:Rat->Rat->Rat} {dn up:Dy->Dy->Dy×Int} {x y:Iv} (f:F4 p op dn up x y) {b:Rat} (hb:inF p b) (h:zln op x y (fun z=> -b<=z/\z<=b)):(jf dn up x y).all =false:=by
 obtain⟨a1,a2,a3,a4⟩:=h;have hn:Fp p (-b):= .inr (by rw[Rat.neg_neg];exact hb);have hp:Fp p b:= .inl hb;have c1:=f.rt1;have c2:=f.rt2;have c3:=f.rt3;have c4:=f.rt4;exact zw3 ⟨(c1.1.2 (-b) hn a1.1).1,(c2.1.2 (-b) hn a2.1).1,(c3.1.2 (-b) hn a3.1).1,(c4.1.2 (-b) hn a4.1).1⟩
  ⟨(c1.2.2 b hp a1.2).1,(c2.2.2 b hp a2.2).1,(c3.2.2 b hp a3.2).1,(c4.2.2 b hp a4.2).1⟩
theorem zgn {B C:Rat} {x y:Iv} (hx:kI B x) (hy:kI C y) {p:Int} (hp:pcB p=true) (hF:inF p.toNat (B*C)):kI (B*C) (yb x y p):=by
 refine zth (zma hx.b hy.b hp hF) ?_;obtain⟨⟨a1,a2⟩,⟨a3,a4⟩⟩:=hx.b.ends hx.k;obtain⟨⟨b1,b2⟩,⟨b3,b4⟩⟩:=hy.b.ends hy.k;rw[zk3 hx.k hy.k hp];exact qb8 (zk4 hx.k hy.k (vn hp)) hF ⟨ku a1 a2 b1 b2,ku a1 a2 b3 b4,ku a3 a4 b1 b2,ku a3 a4 b3 b4⟩
theorem qa1 {B:Rat} {x:Iv} (hx:kI B x) {n:Int} (h1:1<=n) (h2:n<=4611686018427387904) {c:Rat} (hc:(n:Rat)⁻¹ <=c) {p:Int} (hp:pcB p=true) (hF:inF p.toNat (B*c)):kI (B*c) (zj3 x (whI n) p):=by
 have kn:=zeo (n:=n) (by omega);have hn:=zh0 h1;have e:dv (whI n).lo =(n:Rat):=ji n;have e':dv (whI n).hi =(n:Rat):=ji n;have hs:0<dv (whI n).lo \/dv (whI n).hi <0:= .inl (by rw[e];grind);obtain⟨⟨a1,a2⟩,⟨a3,a4⟩⟩:=hx.b.ends hx.k;have i0:0<(n:Rat)⁻¹ :=Rat.inv_pos.2 (by grind);have q: ∀a:Rat,-B<=a->a<=B-> -(B*c)<=a/(n:Rat)/\a/(n:Rat)<=B*c:=fun a c1 c2=>by
  rw[Rat.div_def];exact ku c1 c2 (by grind) hc
 have hq:zln (fun u v=>u/v) x (whI n) (fun z=> -(B*c)<=z/\z<=B*c):=by
  unfold zln;rw[e,e'];exact⟨q _ a1 a2,q _ a1 a2,q _ a3 a4,q _ a3 a4⟩
 have f:=zpb hx.k kn hs (vn hp);have ha:=qb8 f hF hq;have hb:=zqk f hF hq ha;have hv:=zj2 (.inl hx.k) (.inl kn) (y:=whI n) (x:=x) hp;rw[zj1 hx.k kn hs hp]at hv⊢;exact⟨(un hv).1 ha,hb.1,hb.2⟩
theorem zla {B C D:Rat} {x y:Iv} (hx:kI B x) (hy:kI C y) (hD:B+C<=D) {p:Int} (hp:pcB p=true) (hF:inF p.toNat D):kI D (yy x y p):=by
 have hv:=ziq (.inl hx.k) (.inl hy.k) (x:=x) (y:=y) hp;rw[zpk hx.k hy.k hp]at hv⊢;have R1:=zbm hx.k.lo hy.k.lo (vn hp);have R2:=zbm hx.k.hi hy.k.hi (vn hp);have q1:=hx.lo;have q2:=hy.lo;have q3:=hx.hi;have q4:=hy.hi;have r1:=R1.1.2 (-D) (.inr (by rw[Rat.neg_neg];exact hF)) (by grind);have r2:=R2.2.2 D (.inl hF) (by grind);have ha:=yi.2 ⟨r1.1,r2.1⟩;rw[za8 ha]at hv⊢;exact⟨(un hv).1 rfl,r1.2,r2.2⟩
theorem zwq {B:Rat} {x:Iv} (hx:kI B x) {p:Int} (hp:pcB p=true) (hF:inF p.toNat B):kI B (kw x p):=by
 refine zth (zxe hx.b hF) ?_;obtain⟨⟨a1,a2⟩,⟨a3,a4⟩⟩:=hx.b.ends hx.k;unfold kw;rw[if_pos ⟨(qn hx.k.ri).2 hx.k,hp⟩];have R1:=uj hx.k.lo (vn hp);have R2:=uj hx.k.hi (vn hp);exact yi.2 ⟨(R1.1.2 (-B) (.inr (by rw[Rat.neg_neg];exact hF)) a1).1,(R2.2.2 B (.inl hF) a4).1⟩
def sQ (f:Nat->Rat):Nat->Rat
 |0=>f 0
 |k+1=>sQ f k+f (k+1)
theorem zd7 {f g:Nat->Rat}: ∀ {k:Nat},(∀i,i<=k->f i<=g i)->sQ f k<=sQ g k
 |0,h=>h 0 (Nat.le_refl _)
 |k+1,h=>by
  have h1:=zd7 (k:=k) fun i hi=>h i (by omega)
  have h2:=h (k+1) (Nat.le_refl _);show sQ f k+f (k+1)<=sQ g k+g (k+1);grind
theorem yc {f g:Nat->Rat}: ∀ {k:Nat},(∀i,i<=k->f i=g i)->sQ f k=sQ g k
 |0,h=>h 0 (Nat.le_refl _)
 |k+1,h=>by
  have h1:=yc (k:=k) fun i hi=>h i (by omega)
  have h2:=h (k+1) (Nat.le_refl _);show sQ f k+f (k+1)=sQ g k+g (k+1);rw[h1,h2]
theorem zru {f:Nat->Rat}: ∀ {k:Nat},(∀i,i<=k->0<=f i)->0<=sQ f k
 |0,h=>h 0 (Nat.le_refl _)
 |k+1,h=>by
  have h1:=zru (k:=k) fun i hi=>h i (by omega)
  have h2:=h (k+1) (Nat.le_refl _);show 0<=sQ f k+f (k+1);grind
theorem zoc {f g:Nat->Rat}: ∀ {k:Nat},sQ (fun i=>f i+g i) k=sQ f k+sQ g k
 |0=>rfl
 |k+1=>by
  show sQ (fun i=>f i+g i) k+(f (k+1)+g (k+1))=(sQ f k+f (k+1))+(sQ g k+g (k+1));rw[zoc];grind
theorem zob {f g:Nat->Rat}: ∀ {k:Nat},sQ (fun i=>f i-g i) k=sQ f k-sQ g k
 |0=>rfl
 |k+1=>by
  show sQ (fun i=>f i-g i) k+(f (k+1)-g (k+1))=(sQ f k+f (k+1))-(sQ g k+g (k+1));rw[zob];grind
theorem jc {c:Rat} {f:Nat->Rat}: ∀ {k:Nat},sQ (fun i=>c*f i) k=c*sQ f k
 |0=>rfl
 |k+1=>by
  show sQ (fun i=>c*f i) k+c*f (k+1)=c*(sQ f k+f (k+1));rw[jc];grind
theorem zch {f:Nat->Nat->Rat} {l:Nat}: ∀ {k:Nat},sQ (fun i=>sQ (fun j=>f i j) l) k=sQ (fun j=>sQ (fun i=>f i j) k) l
 |0=>rfl
 |k+1=>by
  show sQ (fun i=>sQ (fun j=>f i j) l) k+sQ (fun j=>f (k+1) j) l=sQ (fun j=>sQ (fun i=>f i j) k+f (k+1) j) l;rw[zch,zoc]
theorem zci {a b:Rat}:qp a<=b<-> -b<=a/\a<=b:=by
 unfold qp;split<;>constructor<;>(try rintro⟨h1,h2⟩)<;>(try intro h1)<;>grind
theorem za3 (a:Rat): -qp a<=a/\a<=qp a:=zci.1 Rat.le_refl
theorem zc8 (a b:Rat):qp (a+b)<=qp a+qp b:=by
 have h1:=za3 a;have h2:=za3 b;rw[zci];constructor<;>grind
theorem zbp (a:Rat):qp (-a)=qp a:=by
 unfold qp;split<;>split<;>grind
theorem zoe (a b:Rat):qp (a-b)<=qp a+qp b:=by
 have h1:=za3 a;have h2:=za3 b;rw[zci];constructor<;>grind
theorem jr {a:Rat} (h:0<=a):qp a=a:=by unfold qp;split<;>grind
theorem zya:qp 1=1:=jr (by decide)
theorem zko:qp 0=0:=jr (by decide)
theorem zcc {a b:Rat}:qp (a*b)=qp a*qp b:=by
 by_cases ha:0<=a<;>by_cases hb:0<=b
 ·rw[jr ha,jr hb,jr (Rat.mul_nonneg ha hb)]
 ·have h:=Rat.mul_nonneg ha (show 0<= -b by grind);rw[jr ha,←zbp b,jr (show 0<= -b by grind),←zbp,show-(a*b)=a* -b by grind,jr h]
 ·have h:=Rat.mul_nonneg (show 0<= -a by grind) hb;rw[jr hb,←zbp a,jr (show 0<= -a by grind),←zbp,show-(a*b)= -a*b by grind,jr h]
 ·have h:=Rat.mul_nonneg (show 0<= -a by grind) (show 0<= -b by grind);rw[←zbp a,←zbp b,jr (show 0<= -a by grind),jr (show 0<= -b by grind),show a*b= -a* -b by grind,jr h]
theorem zod {f:Nat->Rat}: ∀ {k:Nat},qp (sQ f k)<=sQ (fun i=>qp (f i)) k
 |0=>Rat.le_refl
 |k+1=>by
  have h:=zod (f:=f) (k:=k);have h2:=zc8 (sQ f k) (f (k+1));show qp (sQ f k+f (k+1))<=sQ (fun i=>qp (f i)) k+qp (f (k+1));grind
theorem zz6 {f:Nat->Rat}: ∀ {k:Nat},(∀i,i<=k->0<=f i)-> ∀j,j<=k->f j<=sQ f k
 |0,_,j,hj=>by obtain rfl:j=0:=by omega
               exact Rat.le_refl
 |k+1,h,j,hj=>by
  have h1:=zru (k:=k) fun i hi=>h i (by omega)
  have h2:=h (k+1) (Nat.le_refl _);show f j<=sQ f k+f (k+1);by_cases e:j=k+1
  ·subst e;grind
  ·have:=zz6 (k:=k) (fun i hi=>h i (by omega)) j (by omega);grind
theorem qdi {f:Nat->Rat} (h: ∀i,0<=f i) (k:Nat): ∀d:Nat,sQ f k<=sQ f (k+d)
 |0=>Rat.le_refl
 |d+1=>by
  have h1:=qdi h k d;have h2:=h (k+d+1);show sQ f k<=sQ f (k+d)+f (k+d+1);grind
theorem zx2 {f:Nat->Rat} (h: ∀i,0<=f i) {k n:Nat} (hk:k<=n):sQ f k<=sQ f n:=by
 obtain⟨d,rfl⟩:=Nat.exists_eq_add_of_le hk;exact qdi h k d
theorem qdk {f g:Nat->Rat} (h: ∀i,qp (f i)<=g i) (k:Nat): ∀d:Nat,qp (sQ f (k+d)-sQ f k)<=sQ g (k+d)-sQ g k
 |0=>by rw[Nat.add_zero,Rat.sub_self,Rat.sub_self,zko];exact Rat.le_refl
 |d+1=>by
  have h1:=qdk h k d;have h2:=h (k+d+1);have h3:=zc8 (sQ f (k+d)-sQ f k) (f (k+d+1));show qp (sQ f (k+d)+f (k+d+1)-sQ f k)<=sQ g (k+d)+g (k+d+1)-sQ g k;rw[show sQ f (k+d)+f (k+d+1)-sQ f k=sQ f (k+d)-sQ f k+f (k+d+1) by grind];grind
theorem qdj {f g:Nat->Rat} (h: ∀i,qp (f i)<=g i) {k n:Nat} (hk:k<=n):qp (sQ f n-sQ f k)<=sQ g n-sQ g k:=by
 obtain⟨d,rfl⟩:=Nat.exists_eq_add_of_le hk;exact qdk h k d
def Nul (s:Nat->Rat):Prop:= ∀e:Rat,0<e-> ∃N:Nat,∀n,N<=n->qp (s n)<=e
def Bnd (s:Nat->Rat):Prop:= ∃B:Rat,0<=B/\ ∀n,qp (s n)<=B
theorem zfw {e:Rat} (h:0<e):0<e/2/\e/2+e/2=e:=by constructor<;>grind
theorem Nul.cg {s t:Nat->Rat} (hs:Nul s) (h: ∀n,s n=t n):Nul t:=by rw[show t=s from funext fun n=>(h n).symm];exact hs
theorem zgf {e B:Rat} (he:0<e) (hB:0<=B):0<e/(B+1)/\B*(e/(B+1))<=e:=by
 have h1:(0:Rat)<(B+1)⁻¹ :=Rat.inv_pos.2 (by grind);have h2:=Rat.mul_inv_cancel (B+1) (by grind);rw[Rat.div_def];have h3:0<e*(B+1)⁻¹ :=Rat.mul_pos he h1;have h4:B*(e*(B+1)⁻¹)=e*((B+1)*(B+1)⁻¹)-e*(B+1)⁻¹ :=by grind
 exact⟨h3,by rw[h4,h2];grind⟩
theorem Nul.zero:Nul fun _=>0:=fun e he=>⟨0,fun n _=>by rw[zko];grind⟩
theorem Bnd.const (c:Rat):Bnd fun _=>c:=⟨qp c,qe c,fun _=>Rat.le_refl⟩
theorem Bnd.add {s t:Nat->Rat} (hs:Bnd s) (ht:Bnd t):Bnd fun n=>s n+t n:=by
 obtain⟨B,h1,h2⟩:=hs;obtain⟨C,h3,h4⟩:=ht;refine⟨B+C,by grind,fun n=>?_⟩;have:=zc8 (s n) (t n);have:=h2 n;have:=h4 n;grind
structure Smb (α:Nat->Rat):Prop where
 nn: ∀i,0<=α i
 tl: ∀e:Rat,0<e-> ∃N:Nat,∀n,N<=n->sQ α n-sQ α N<=e
theorem Smb.sc {α:Nat->Rat} (h:Smb α) {C:Rat} (hC:0<=C):Smb fun i=>C*α i:=by
 refine⟨fun i=>Rat.mul_nonneg hC (h.nn i),fun e he=>?_⟩;obtain⟨q1,q2⟩:=zgf he hC;obtain⟨N,hN⟩:=h.tl _ q1;refine⟨N,fun n hn=>?_⟩;have h1:=Rat.mul_le_mul_of_nonneg_left (hN n hn) hC;rw[jc,jc];grind
theorem Smb.bnd {α:Nat->Rat} (h:Smb α): ∃A:Rat,0<=A/\ ∀n,sQ α n<=A:=by
 obtain⟨N,hN⟩:=h.tl 1 (by decide);have h0:=zru (k:=N) fun i _=>h.nn i
 refine⟨sQ α N+1,by grind,fun n=>?_⟩;rcases Nat.le_total N n with c|c
 ·have:=hN n c;grind
 ·have:=zx2 h.nn c;grind
theorem Smb.tl2 {α:Nat->Rat} (h:Smb α) {e:Rat} (he:0<e): ∃N:Nat,∀m n,N<=m->m<=n->sQ α n-sQ α m<=e:=by
 obtain⟨N,hN⟩:=h.tl e he;refine⟨N,fun m n hm hn=>?_⟩;have h1:=hN n (by omega);have h2:=zx2 h.nn hm;grind
theorem Smb.of {α f:Nat->Rat} (h:Smb α) (hf: ∀i,qp (f i)<=α i):Bnd (sQ f):=by
 obtain⟨A,h0,hA⟩:=h.bnd;refine⟨A,h0,fun n=>Rat.le_trans zod (Rat.le_trans (zd7 fun i _=>hf i) (hA n))⟩
theorem qdl {g:Nat->Rat} {i:Nat}: ∀ {n:Nat},i<=n->sQ (fun k=>if i<=k then g (k-i)else 0) n=sQ g (n-i)
 |0,h=>by
  obtain rfl:i=0:=by omega
  rfl
 |n+1,h=>by
  show sQ (fun k=>if i<=k then g (k-i)else 0) n+(if i<=n+1 then g (n+1-i)else 0)=_;rw[if_pos h];by_cases e:i=n+1
  ·subst e;have hz: ∀k,k<=n->(if n+1<=k then g (k-(n+1))else 0)=(fun _=>(0:Rat)) k:=fun k hk=>by rw[if_neg (by omega)]
   rw[yc hz,Nat.sub_self];have h0: ∀m,sQ (fun _=>(0:Rat)) m=0:=fun m=>by
    induction m with
    |zero=>rfl
    |succ m ih=>show sQ (fun _=>(0:Rat)) m+0=0;rw[ih,Rat.add_zero]
   rw[h0];show 0+g 0=g 0;grind
  ·rw[qdl (by omega),show n+1-i=(n-i)+1 by omega];rfl
def trQ (f:Nat->Nat->Rat) (n:Nat):Rat:=sQ (fun k=>sQ (fun i=>f i (k-i)) k) n
theorem zz5 {f:Nat->Rat} {k:Nat}: ∀ {n:Nat},k<=n->sQ (fun i=>if i<=k then f i else 0) n=sQ f k
 |0,h=>by obtain rfl:k=0:=by omega
          rfl
 |n+1,h=>by
  show sQ (fun i=>if i<=k then f i else 0) n+(if n+1<=k then f (n+1)else 0)=_;by_cases e:k=n+1
  ·subst e;rw[if_pos (Nat.le_refl _),yc (g:=f) fun i hi=>if_pos (by omega)];rfl
  ·rw[if_neg (by omega),zz5 (by omega)];grind
theorem qc5 (f:Nat->Nat->Rat) (n:Nat):trQ f n=sQ (fun i=>sQ (f i) (n-i)) n:=by
 unfold trQ;have h1:sQ (fun k=>sQ (fun i=>f i (k-i)) k) n=sQ (fun k=>sQ (fun i=>if i<=k then f i (k-i)else 0) n) n:=yc fun k hk=>(zz5 hk).symm
 rw[h1,zch (f:=fun k i=>if i<=k then f i (k-i)else 0)];exact yc fun i hi=>qdl hi
theorem qfm {f:Nat->Nat->Rat} {α β:Nat->Rat} (ha:Smb α) (hb:Smb β) (hf: ∀i j,qp (f i j)<=α i*β j):Nul fun n=>sQ (fun i=>sQ (f i) n) n-trQ f n:=fun e he=>by
 obtain⟨A,hA,hA'⟩:=ha.bnd;obtain⟨B,hB,hB'⟩:=hb.bnd;obtain⟨q1,q2⟩:=zgf he (show 0<=A+B by grind);generalize e/(A+B+1)=d at*;obtain⟨N1,hN1⟩:=ha.tl2 q1;obtain⟨N2,hN2⟩:=hb.tl2 q1;refine⟨N1+N2,fun n hn=>?_⟩;show qp (sQ (fun i=>sQ (f i) n) n-trQ f n)<=e;rw[qc5,←zob];refine Rat.le_trans zod ?_;have h1: ∀i,i<=n->qp (sQ (f i) n-sQ (f i) (n-i))<=α i*(sQ β n-sQ β (n-i)):=fun i hi=>by
  have:=qdj (f:=f i) (g:=fun j=>α i*β j) (hf i) (show n-i<=n by omega);rw[jc,jc]at this;grind
 refine Rat.le_trans (zd7 h1) ?_;have h2: ∀i,i<=n->α i*(sQ β n-sQ β (n-i))<=d*α i+B*(if i<=n-N2 then 0 else α i):=fun i hi=>by
  have h0:=ha.nn i;by_cases c:i<=n-N2
  ·rw[if_pos c];have h3:=hN2 (n-i) n (by omega) (by omega);have:=Rat.mul_le_mul_of_nonneg_left h3 h0;grind
  ·rw[if_neg c];have h3:=hB' n;have h4:=zru (k:=n-i) fun j _=>hb.nn j
   have:=Rat.mul_le_mul_of_nonneg_left (show sQ β n-sQ β (n-i)<=B by grind) h0;have:=Rat.mul_nonneg (Rat.le_of_lt q1) h0;grind
 refine Rat.le_trans (zd7 h2) ?_;rw[zoc,jc,jc];have h5:sQ (fun i=>if i<=n-N2 then 0 else α i) n=sQ α n-sQ α (n-N2):=by
  rw[←zz5 (f:=α) (k:=n-N2) (n:=n) (by omega),←zob];refine yc fun i _=>?_
  split<;>grind
 rw[h5];have h6:=hN1 (n-N2) n (by omega) (by omega);have h7:=Rat.mul_le_mul_of_nonneg_left h6 hB;have h8:=Rat.mul_le_mul_of_nonneg_left (hA' n) (Rat.le_of_lt q1);grind
theorem arch (q:Rat): ∃n:Nat,q<=(n:Rat):=by
 refine⟨(q.floor+1).toNat,?_⟩;have h1:=Rat.lt_floor_add_one q;have h2:((q.floor+1:Int):Rat)<=(((q.floor+1).toNat :Int):Rat):=Rat.intCast_le_intCast.2 (by omega);rw[Rat.intCast_natCast]at h2;grind
def rQ (u:Rat):Nat->Rat
 |0=>1
 |j+1=>rQ u j*u*(1/((j+1:Nat):Rat))
theorem zlc (j:Nat):(0:Rat)<=1/((j+1:Nat):Rat)/\(1:Rat)/((j+1:Nat):Rat)<=1:=by
 have h:(1:Rat)<=((j+1:Nat):Rat):=by
  have:=(Rat.natCast_le_natCast (a:=1) (b:=j+1)).2 (by omega);simpa using this
 have h3:(0:Rat)<((j+1:Nat):Rat)⁻¹ :=Rat.inv_pos.2 (by grind);have h4:=Rat.mul_inv_cancel ((j+1:Nat):Rat) (by grind);have h5:=Rat.mul_le_mul_of_nonneg_right h (Rat.le_of_lt h3);rw[Rat.div_def,Rat.one_mul];exact⟨Rat.le_of_lt h3,by grind⟩
theorem rQ_s (u:Rat) (j:Nat):((j+1:Nat):Rat)*rQ u (j+1)=u*rQ u j:=by
 have h0:(0:Rat)<((j+1:Nat):Rat):=Rat.natCast_pos.2 (by omega);have h4:=Rat.mul_inv_cancel ((j+1:Nat):Rat) (by grind);rw[show rQ u (j+1)=rQ u j*u*(1/((j+1:Nat):Rat))from rfl,Rat.div_def,Rat.one_mul];generalize ((j+1:Nat):Rat)=c at*;generalize rQ u j=q;grind
theorem zkr {u:Rat} (h:0<=u): ∀j,0<=rQ u j
 |0=>by unfold rQ;decide
 |j+1=>Rat.mul_nonneg (Rat.mul_nonneg (zkr h j) h) (zlc j).1
theorem zr6 (u:Rat): ∀j,qp (rQ u j)=rQ (qp u) j
 |0=>zya
 |j+1=>by
  unfold rQ;rw[zcc,zcc,zr6 u j,jr (zlc j).1]
theorem zmy {u:Rat} (h:0<=u) {K:Nat} (hu:u*2<=((K+1:Nat):Rat)) {j:Nat} (hj:K<=j):rQ u (j+1)*2<=rQ u j:=by
 have h1:((K+1:Nat):Rat)<=((j+1:Nat):Rat):=Rat.natCast_le_natCast.2 (by omega);have h0:(0:Rat)<((j+1:Nat):Rat):=Rat.natCast_pos.2 (by omega);have hm:=Rat.mul_inv_cancel ((j+1:Nat):Rat) (by grind);have hi:(0:Rat)<=((j+1:Nat):Rat)⁻¹ :=Rat.le_of_lt (Rat.inv_pos.2 h0);have h2:(u*2)*((j+1:Nat):Rat)⁻¹ <=1:=by
  have:=Rat.mul_le_mul_of_nonneg_right (Rat.le_trans hu h1) hi;rw[hm]at this;exact this
 have h3:=Rat.mul_le_mul_of_nonneg_left h2 (zkr h j);rw[show rQ u (j+1)=rQ u j*u*(1/((j+1:Nat):Rat))from rfl,Rat.div_def,Rat.one_mul];generalize ((j+1:Nat):Rat)⁻¹ =c at*;generalize rQ u j=q at*;grind
theorem zr4 {u:Rat} (h:0<=u) {K:Nat} (hu:u*2<=((K+1:Nat):Rat)): ∀d:Nat,sQ (rQ u) (K+d)-sQ (rQ u) K<=rQ u K-rQ u (K+d)
 |0=>by rw[Nat.add_zero,Rat.sub_self,Rat.sub_self];exact Rat.le_refl
 |d+1=>by
  have h1:=zr4 h hu d;have h2:=zmy h hu (j:=K+d) (by omega);show sQ (rQ u) (K+d)+rQ u (K+d+1)-sQ (rQ u) K<=rQ u K-rQ u (K+d+1);grind
theorem zyb {u:Rat} (h:0<=u) {K:Nat} (hu:u*2<=((K+1:Nat):Rat)): ∀d:Nat,rQ u (K+d)*((d+1:Nat):Rat)<=rQ u K
 |0=>by
  rw[show((0+1:Nat):Rat)=1 from rfl];simp
 |d+1=>by
  have h1:=zyb h hu d;have h2:=zmy h hu (j:=K+d) (by omega);have h3:((d+1+1:Nat):Rat)<=2*((d+1:Nat):Rat):=by
   have:=(Rat.natCast_le_natCast (a:=d+1+1) (b:=2*(d+1))).2 (by omega);rw[Rat.natCast_mul]at this;exact this
  have h4:=Rat.mul_le_mul_of_nonneg_left h3 (zkr h (K+d+1));have h5:=Rat.mul_le_mul_of_nonneg_right h2 (zsq (d+1));show rQ u (K+d+1)*((d+1+1:Nat):Rat)<=rQ u K;grind
theorem zvt {u:Rat}: ∃K:Nat,u*2<=((K+1:Nat):Rat):=by
 obtain⟨n,hn⟩:=arch (u*2);refine⟨n,Rat.le_trans hn (Rat.natCast_le_natCast.2 (by omega))⟩
theorem zof {u:Rat} (h:0<=u) {e:Rat} (he:0<e): ∃N:Nat,u*2<=((N+1:Nat):Rat)/\ ∀n,N<=n->rQ u n<=e:=by
 obtain⟨K,hK⟩:=zvt (u:=u);obtain⟨m,hm⟩:=arch (rQ u K/e);have hB:rQ u K<=e*(m:Rat):=by
  have:=Rat.mul_le_mul_of_nonneg_left hm (Rat.le_of_lt he);have h2:=Rat.mul_inv_cancel e (by grind);rw[Rat.div_def,show e*(rQ u K*e⁻¹)=rQ u K*(e*e⁻¹) by grind,h2,Rat.mul_one]at this;exact this
 have hK':u*2<=((K+m+1:Nat):Rat):=Rat.le_trans hK (Rat.natCast_le_natCast.2 (by omega));refine⟨K+m,hK',fun n hn=>?_⟩;obtain⟨d,rfl⟩:=Nat.exists_eq_add_of_le hn;have h1:=zyb h hK (m+d);rw[←Nat.add_assoc]at h1;have h2:((m:Nat):Rat)<=((m+d+1:Nat):Rat):=Rat.natCast_le_natCast.2 (by omega);have h3:=Rat.mul_le_mul_of_nonneg_left h2 (Rat.le_of_lt he);have h4:rQ u (K+m+d)*((m+d+1:Nat):Rat)<=e*((m+d+1:Nat):Rat):=by grind
 exact Rat.le_of_mul_le_mul_right h4 (Rat.natCast_pos.2 (by omega))
theorem zr7 {u:Rat} (h:0<=u):Smb (rQ u):=by
 refine⟨zkr h,fun e he=>?_⟩;obtain⟨N,h1,h2⟩:=zof h he;refine⟨N,fun n hn=>?_⟩;obtain⟨d,rfl⟩:=Nat.exists_eq_add_of_le hn;have h3:=zr4 h h1 d;have h4:=zkr h (N+d);have h5:=h2 N (Nat.le_refl _);grind
theorem zfe {f:Nat->Rat}: ∀ {k:Nat},sQ f (k+1)=f 0+sQ (fun i=>f (i+1)) k
 |0=>rfl
 |k+1=>by
  show sQ f (k+1)+f (k+1+1)=f 0+(sQ (fun i=>f (i+1)) k+f (k+1+1));rw[zfe];grind
theorem zr5 (x y:Rat): ∀k:Nat,sQ (fun i=>rQ x i*rQ y (k-i)) k=rQ (x+y) k
 |0=>by exact Rat.one_mul 1
 |k+1=>by
  have ih:=zr5 x y k;have h0:(0:Rat)<((k+1:Nat):Rat):=Rat.natCast_pos.2 (by omega);have hs:=rQ_s (x+y) k;have key:((k+1:Nat):Rat)*sQ (fun i=>rQ x i*rQ y (k+1-i)) (k+1)=(x+y)*sQ (fun i=>rQ x i*rQ y (k-i)) k:=by
   rw[←jc];have e1:sQ (fun i=>((k+1:Nat):Rat)*(rQ x i*rQ y (k+1-i))) (k+1)=sQ (fun i=>(i:Rat)*(rQ x i*rQ y (k+1-i))+((k+1-i:Nat):Rat)*(rQ x i*rQ y (k+1-i))) (k+1):=yc fun i hi=>by
    have:((k+1:Nat):Rat)=(i:Rat)+((k+1-i:Nat):Rat):=by rw[←Rat.natCast_add];congr 1;omega
    rw[this];grind
   rw[e1,zoc];have e2:sQ (fun i=>(i:Rat)*(rQ x i*rQ y (k+1-i))) (k+1)=x*sQ (fun i=>rQ x i*rQ y (k-i)) k:=by
    rw[zfe,←jc];have:sQ (fun i=>((i+1:Nat):Rat)*(rQ x (i+1)*rQ y (k+1-(i+1)))) k=sQ (fun i=>x*(rQ x i*rQ y (k-i))) k:=yc fun i hi=>by
     have h1:=rQ_s x i;rw[show k+1-(i+1)=k-i by omega];grind
    rw[this];rw[show((0:Nat):Rat)=0 from rfl,Rat.zero_mul,Rat.zero_add]
   have e3:sQ (fun i=>((k+1-i:Nat):Rat)*(rQ x i*rQ y (k+1-i))) (k+1)=y*sQ (fun i=>rQ x i*rQ y (k-i)) k:=by
    show sQ (fun i=>((k+1-i:Nat):Rat)*(rQ x i*rQ y (k+1-i))) k+((k+1-(k+1):Nat):Rat)*(rQ x (k+1)*rQ y (k+1-(k+1)))=_;rw[Nat.sub_self,show((0:Nat):Rat)=0 from rfl,Rat.zero_mul,Rat.add_zero,←jc];exact yc fun i hi=>by
     have h1:=rQ_s y (k-i);rw[show k+1-i=k-i+1 by omega];grind
   rw[e2,e3];grind
  rw[ih,←hs]at key;have:=Rat.le_refl (a:=((k+1:Nat):Rat)*sQ (fun i=>rQ x i*rQ y (k+1-i)) (k+1));refine zja (Rat.le_of_mul_le_mul_right (c:=((k+1:Nat):Rat)) ?_ h0) (Rat.le_of_mul_le_mul_right (c:=((k+1:Nat):Rat)) ?_ h0)<;>grind
def lI (s:Nat->Rat) (x:Iv):Prop:= ∀e:Rat,0<e-> ∃N:Nat,∀n,N<=n-> ∃q,inI q x/\qp (s n-q)<=e
theorem qek {s:Nat->Rat} {x:Iv} (N:Nat) (h: ∀n,N<=n->inI (s n) x):lI s x:=fun e he=>⟨N,fun n hn=>⟨s n,h n hn,by rw[Rat.sub_self,zko];grind⟩⟩
theorem qem {q:Rat} {x:Iv} (h:inI q x):lI (fun _=>q) x:=qek 0 fun _ _=>h
theorem lI.nul {s t:Nat->Rat} {x:Iv} (h:lI s x) (hn:Nul fun n=>s n-t n):lI t x:=fun e he=>by
 obtain⟨h1,h2⟩:=zfw he;obtain⟨N,hN⟩:=h _ h1;obtain⟨M,hM⟩:=hn _ h1;refine⟨N+M,fun n hk=>?_⟩;obtain⟨q,hq,hd⟩:=hN n (by omega);have h3:=hM n (by omega);refine⟨q,hq,?_⟩;have h4:=zoe (s n-q) (s n-t n);rw[show s n-q-(s n-t n)=t n-q by grind]at h4;grind
theorem zyq {s t:Nat->Rat} {x y:Iv} (hx:VI x) (hy:VI y) {p:Int} (hp:pcB p=true) (hs:lI s x) (ht:lI t y):lI (fun n=>s n+t n) (yy x y p):=fun e he=>by
 obtain⟨h1,h2⟩:=zfw he;obtain⟨N,hN⟩:=hs _ h1;obtain⟨M,hM⟩:=ht _ h1;refine⟨N+M,fun n hk=>?_⟩;obtain⟨q,hq,hd⟩:=hN n (by omega);obtain⟨r,hr,hc⟩:=hM n (by omega);refine⟨q+r,zmb hx hy hp hq hr,?_⟩;have h4:=zc8 (s n-q) (t n-r);rw[show s n-q+(t n-r)=s n+t n-(q+r) by grind]at h4;grind
theorem zyp {s t:Nat->Rat} {x y:Iv} (hx:VI x) (hy:VI y) {p:Int} (hp:pcB p=true) (hs:lI s x) (ht:lI t y) (bs:Bnd s) (bt:Bnd t):lI (fun n=>s n*t n) (yb x y p):=fun e he=>by
 obtain⟨B,hB,hB'⟩:=bs;obtain⟨C,hC,hC'⟩:=bt;obtain⟨d,d0,d1,d2⟩: ∃d:Rat,0<d/\d<=1/\(B+C+1)*d<=e:=by
  obtain⟨q1,q2⟩:=zgf he (show 0<=B+C+1 by grind);rcases Rat.le_total (a:=e/(B+C+1+1)) (b:=1)with c|c
  ·exact⟨_,q1,c,q2⟩
  ·refine⟨1,by decide,Rat.le_refl,?_⟩;have:=Rat.mul_le_mul_of_nonneg_left c (show 0<=B+C+1 by grind);grind
 obtain⟨N,hN⟩:=hs d d0;obtain⟨M,hM⟩:=ht d d0;refine⟨N+M,fun n hk=>?_⟩;obtain⟨q,hq,hd⟩:=hN n (by omega);obtain⟨r,hr,hc⟩:=hM n (by omega);refine⟨q*r,zev hx hy hp hq hr,?_⟩;have e1:s n*t n-q*r=(s n-q)*t n+q*(t n-r):=by grind
 have h3:=zc8 ((s n-q)*t n) (q*(t n-r));rw[zcc,zcc]at h3;have hq1:qp q<=B+1:=by
  have h4:=zoe (s n) (s n-q);rw[show s n-(s n-q)=q by grind]at h4;have:=hB' n;grind
 have h5:=zbr (qe (s n-q)) hd (qe (t n)) (hC' n);have h6:=zbr (qe q) hq1 (qe (t n-r)) hc;rw[e1];grind
theorem lI_id {s:Nat->Rat} {x y:Iv} (hi: ∀q,inI q x->inI q y) (h:lI s x):lI s y:=fun e he=>by
 obtain⟨N,hN⟩:=h e he;refine⟨N,fun n hn=>?_⟩;obtain⟨q,hq,hd⟩:=hN n hn;exact⟨q,hi q hq,hd⟩
theorem zwl {s:Nat->Rat} {x:Iv} (h:lI s x) (ha:x.all=false) {e:Rat} (he:0<e): ∃N:Nat,∀n,N<=n->dv x.lo-e<=s n/\s n<=dv x.hi+e:=by
 obtain⟨N,hN⟩:=h e he;refine⟨N,fun n hn=>?_⟩;obtain⟨q,hq,hd⟩:=hN n hn;rcases hq with c|⟨h1,h2⟩
 ·rw[ha]at c;cases c
 have h3:=za3 (s n-q);constructor<;>grind
theorem zs9 {a b:Rat} (h: ∀e:Rat,0<e->a<=b+e):a<=b:=by
 rcases Rat.le_total (a:=a) (b:=b)with c|c
 ·exact c
 ·by_cases k:0<a-b
  ·have:=h ((a-b)/2) (zfw k).1;grind
  ·grind
theorem ztb {s:Nat->Rat} {x y:Iv} (hx:lI s x) (hy:lI s y) (kx:x.all=false) (ky:y.all=false):dv x.lo<=dv y.hi:=zs9 fun e he=>by
 obtain⟨h1,h2⟩:=zfw he;obtain⟨N,hN⟩:=zwl hx kx h1;obtain⟨M,hM⟩:=zwl hy ky h1;have a:=(hN (N+M) (by omega)).1;have b:=(hM (N+M) (by omega)).2;grind
theorem zuo {n k:Nat} {m:Mx} (h:VM n k m) {i j:Nat} (hi:i<n) (hj:j<k): ∃r,m[i]? =some r/\r∈m/\r.length=k/\r[j]? =some (atM m i j):=by
 have hi:i<m.length:=by rw[h.len];exact hi
 have hm:=List.getElem_mem hi;have hl:=h.row _ hm;refine⟨m[i],List.getElem?_eq_getElem hi,hm,hl,?_⟩;have hj:j<m[i].length :=by rw[hl];exact hj
 unfold atM;rw[List.getElem?_eq_getElem hi,Option.getD_some,List.getElem?_eq_getElem hj];rfl
theorem zb7 {m:Mx} {i j:Nat} {r:List Iv} {x:Iv} (h:m[i]? =some r) (hx:r[j]? =some x):atM m i j=x:=by
 unfold atM;rw[h,Option.getD_some,hx];rfl
theorem zup {n k:Nat} {m:Mx} (h:VM n k m) {f:Nat->Nat->Iv->Iv} {i j:Nat} (hi:i<n) (hj:j<k):atM (yw f m) i j=f i j (atM m i j):=by
 obtain⟨r,h1,_,_,h4⟩:=zuo h hi hj;refine zb7 (r:=r.mapIdx fun j x=>f i j x) ?_ ?_
 ·unfold yw;rw[List.getElem?_mapIdx,h1];rfl
 ·rw[List.getElem?_mapIdx,h4];rfl
theorem zun {n k:Nat} {m:Mx} (h:VM n k m) {f:Iv->Iv} {i j:Nat} (hi:i<n) (hj:j<k):atM (m.map fun r=>r.map f) i j=f (atM m i j):=by
 obtain⟨r,h1,_,_,h4⟩:=zuo h hi hj;refine zb7 (r:=r.map f) ?_ ?_
 ·rw[List.getElem?_map,h1];rfl
 ·rw[List.getElem?_map,h4];rfl
theorem qb0 {n k:Nat} {m:Mx} (h:VM n k m) {p:Int} {i j:Nat} (hi:i<n) (hj:j<k):atM (rdM m p) i j=kw (atM m i j) p:=zun h hi hj
theorem qb1 {n k:Nat} {m:Mx} (h:VM n k m) {e:Iv} {p:Int} {i j:Nat} (hi:i<n) (hj:j<k):atM (arM m e p) i j=yy (atM m i j) (zax (zcl e) e) p:=zun h hi hj
theorem zxh {n:Nat} (h:1<=n/\n<=8) {i j:Nat} (hi:i<n) (hj:j<n):atM (idM n) i j=whI (if i=j then 1 else 0):=by
 refine zb7 (r:=(List.range n).map fun j=>whI (if i=j then 1 else 0)) ?_ ?_
 ·unfold idM;rw[if_neg (by omega),List.getElem?_map,List.getElem?_range hi];rfl
 ·rw[List.getElem?_map,List.getElem?_range hj];rfl
theorem zxf {n k:Nat} {a:Mx} (h:VM n k a) {x:Iv} (hx:VI x) {p:Int} (hp:pcB p=true) {i j:Nat} (hi:i<n) (hj:j<k):atM (scM a x p) i j=yb x (atM a i j) p:=by
 unfold scM;rw[if_pos (by rw[h.ok,(wl hx.ri).2 hx,hp];rfl)];exact zup h hi hj
theorem zuq {n k:Nat} {a b:Mx} (ha:VM n k a) (hb:VM n k b) {p:Int} (hp:pcB p=true) {i j:Nat} (hi:i<n) (hj:j<k):atM (adM a b p).1 i j=yy (atM a i j) (atM b i j) p:=by
 unfold adM;rw[if_neg (by rw[ha.ok,hb.ok];simp),if_neg (by rw[hp];simp),if_neg (by rw[ha.len,hb.len,ha.hd,hb.hd];simp)];exact zup ha hi hj
def dtF (p:Int) (f g:Nat->Iv):Nat->Iv
 |0=>yb (f 0) (g 0) p
 |k+1=>yy (dtF p f g k) (yb (f (k+1)) (g (k+1)) p) p
theorem qfc {p:Int} {f g:Nat->Iv}: ∀(rs cs:List Iv) (d:Nat),rs.length=cs.length->(∀i x,rs[i]? =some x->x=f (d+1+i))->(∀i x,cs[i]? =some x->x=g (d+1+i))->dtG p rs cs (dtF p f g d)=dtF p f g (d+rs.length)
 | [],[],d,_,_,_=>rfl
 | [],_::_,_,h,_,_=>by simp at h
 | _::_,[],_,h,_,_=>by simp at h
 |x::rs,y::cs,d,hl,hr,hc=>by
  have e1:x=f (d+1):=hr 0 x rfl;have e2:y=g (d+1):=hc 0 y rfl;subst e1;subst e2;show dtG p rs cs (dtF p f g (d+1))=_;rw[qfc rs cs (d+1) (by simpa using hl) (fun i x h=>by rw[hr (i+1) x h];congr 1;omega) (fun i x h=>by rw[hc (i+1) x h];congr 1;omega)]
  congr 1
  simp;omega
theorem dtM_F {p:Int} {f g:Nat->Iv} {k:Nat} {r c:List Iv} (hr:r.length=k+1) (hc:c.length=k+1) (h1: ∀i x,r[i]? =some x->x=f i) (h2: ∀i x,c[i]? =some x->x=g i):dtM p r c=dtF p f g k:=by
 match r,c,hr,hc with
 |x::rs,y::cs,hr,hc=>
  have e1:x=f 0:=h1 0 x rfl;have e2:y=g 0:=h2 0 y rfl;subst e1;subst e2;have:=qfc (p:=p) (f:=f) (g:=g) rs cs 0 (by simp at hr hc;omega) (fun i x h=>by rw[h1 (i+1) x h];congr 1;omega) (fun i x h=>by rw[h2 (i+1) x h];congr 1;omega);have hk:rs.length=k:=by simpa using hr
  rw[hk,Nat.zero_add]at this;exact this
theorem zum {n k l:Nat} {a b:Mx} (ha:VM n (k+1) a) (hb:VM (k+1) l b) {p:Int} (hp:pcB p=true) {i j:Nat} (hi:i<n) (hj:j<l):atM (muM a b p).1 i j=dtF p (fun r=>atM a i r) (fun r=>atM b r j) k:=by
 unfold muM;rw[if_neg (by rw[ha.ok,hb.ok];simp),if_neg (by rw[hp];simp),if_neg (by rw[ha.hd,hb.len];simp)];have hr: ∃r,a[i]? =some r/\r∈a:=⟨a[i]'(by rw[ha.len];exact hi),List.getElem?_eq_getElem (by rw[ha.len];exact hi),List.getElem_mem _⟩;obtain⟨r,hr,hm⟩:=hr;have hl:=ha.row r hm;refine zb7 (r:=(List.range (hdL b)).map fun j=>dtM p r (zkd b j)) (by rw[List.getElem?_map,hr];rfl) ?_;rw[hb.hd,List.getElem?_map,List.getElem?_range hj];simp only[Option.map_some,Option.some.injEq];refine dtM_F hl (by unfold zkd;rw[List.length_map,hb.len]) (fun q x hx=>(zb7 hr hx).symm) fun q x hx=>?_
 unfold zkd at hx;rw[List.getElem?_map,Option.map_eq_some_iff]at hx;obtain⟨s,hs,rfl⟩:=hx;have hsl:=hb.row s (List.mem_of_getElem? hs);have hj2:j<s.length:=by rw[hsl];exact hj
 rw[List.getElem?_eq_getElem hj2];exact(zb7 hs (List.getElem?_eq_getElem hj2)).symm
theorem qbf {p:Int} (hp:pcB p=true) {f g:Nat->Iv} {a b:Nat->Rat}: ∀k:Nat,(∀i,i<=k->VI (f i)/\inI (a i) (f i))->(∀i,i<=k->VI (g i)/\inI (b i) (g i))->VI (dtF p f g k)/\inI (sQ (fun i=>a i*b i) k) (dtF p f g k)
 |0,hf,hg=>⟨ww (hf 0 (Nat.le_refl _)).1 (hg 0 (Nat.le_refl _)).1 hp,zev (hf 0 (Nat.le_refl _)).1 (hg 0 (Nat.le_refl _)).1 hp (hf 0 (Nat.le_refl _)).2 (hg 0 (Nat.le_refl _)).2⟩
 |k+1,hf,hg=>by
  obtain⟨h1,h2⟩:=qbf hp k (fun i hi=>hf i (by omega)) (fun i hi=>hg i (by omega));have f1:=hf (k+1) (Nat.le_refl _);have g1:=hg (k+1) (Nat.le_refl _);have hm:=ww f1.1 g1.1 hp;exact⟨ziq h1 hm hp,zmb h1 hm hp h2 (zev f1.1 g1.1 hp f1.2 g1.2)⟩
structure inM (n k:Nat) (A:Nat->Nat->Rat) (m:Mx):Prop where
 v:VM n k m
 i: ∀i j,i<n->j<k->inI (A i j) (atM m i j)
def dlt (i j:Nat):Rat:=if i=j then 1 else 0
def mQ (k:Nat) (A B:Nat->Nat->Rat):Nat->Nat->Rat:=fun i j=>sQ (fun r=>A i r*B r j) k
theorem zhu (n:Int):inI (n:Rat) (whI n):= .inr (by
 have e:dv (whI n).lo =(n:Rat):=ji n;have e':dv (whI n).hi =(n:Rat):=ji n;rw[e,e'];exact⟨Rat.le_refl,Rat.le_refl⟩)
theorem id_in {n:Nat} (h:1<=n/\n<=8):inM n n dlt (idM n):=by
 refine⟨zle h,fun i j hi hj=>?_⟩;rw[zxh h hi hj];unfold dlt;have:=zhu (if i=j then 1 else 0);split<;>simp_all
theorem zvn {n k:Nat} {A:Nat->Nat->Rat} {a:Mx} (h:inM n k A a) {x:Iv} (hx:VI x) {c:Rat} (hc:inI c x) {p:Int} (hp:pcB p=true):inM n k (fun i j=>c*A i j) (scM a x p):=by
 refine⟨zam h.v hx hp,fun i j hi hj=>?_⟩;rw[zxf h.v hx hp hi hj];exact zev hx (uh h.v hi hj) hp hc (h.i i j hi hj)
theorem qf1 {n k:Nat} {A B:Nat->Nat->Rat} {a b:Mx} (ha:inM n k A a) (hb:inM n k B b) {p:Int} (hp:pcB p=true):inM n k (fun i j=>A i j+B i j) (adM a b p).1:=by
 refine⟨(zem ha.v hb.v hp).2,fun i j hi hj=>?_⟩;rw[zuq ha.v hb.v hp hi hj];exact zmb (uh ha.v hi hj) (uh hb.v hi hj) hp (ha.i i j hi hj) (hb.i i j hi hj)
theorem mu_in {n k l:Nat} {A B:Nat->Nat->Rat} {a b:Mx} (ha:inM n (k+1) A a) (hb:inM (k+1) l B b) {p:Int} (hp:pcB p=true):inM n l (mQ k A B) (muM a b p).1:=by
 refine⟨(zea ha.v hb.v hp).2,fun i j hi hj=>?_⟩;rw[zum ha.v hb.v hp hi hj];exact(qbf hp k (fun r hr=>⟨uh ha.v hi (by omega),ha.i i r hi (by omega)⟩) fun r hr=>⟨uh hb.v (by omega) hj,hb.i r j (by omega) hj⟩).2
theorem zr0 {x:Iv} (hx:VI x) {p:Int} {q:Rat} (hq:inI q x):inI q (kw x p):=by
 unfold kw;split
 ·rename_i c;have k:=(qn hx.ri).1 c.1;rcases hq with hq|hq
  ·rw[k.all]at hq;cases hq
  exact qdn (uj k.lo (vn c.2)) (uj k.hi (vn c.2)) hq.1 hq.2
 ·exact zzi _
def nQ (k:Nat) (A:Nat->Nat->Rat) (U:Rat):Prop:= ∀i,i<=k->sQ (fun r=>qp (A i r)) k<=U
theorem zv8 {k:Nat} {A:Nat->Nat->Rat} {U:Rat} (h:nQ k A U) {i j:Nat} (hi:i<=k) (hj:j<=k):qp (A i j)<=U:=
 Rat.le_trans (zz6 (f:=fun r=>qp (A i r)) (fun _ _=>qe _) j hj) (h i hi)
theorem zm5 {k:Nat} {A:Nat->Nat->Rat} {U:Rat} (h:nQ k A U):0<=U:=Rat.le_trans (qe _) (zv8 h (Nat.zero_le k) (Nat.zero_le k))
theorem zyi {k:Nat} {A B:Nat->Nat->Rat} {U V:Rat} (ha:nQ k A U) (hb:nQ k B V):nQ k (mQ k A B) (U*V):=fun i hi=>by
 have h1:sQ (fun j=>qp (mQ k A B i j)) k<=sQ (fun j=>sQ (fun r=>qp (A i r)*qp (B r j)) k) k:=zd7 fun j _=>by
  have:=zod (f:=fun r=>A i r*B r j) (k:=k);simp only[zcc]at this;exact this
 have h2:sQ (fun j=>sQ (fun r=>qp (A i r)*qp (B r j)) k) k=sQ (fun r=>qp (A i r)*sQ (fun j=>qp (B r j)) k) k:=by
  rw[zch (f:=fun j r=>qp (A i r)*qp (B r j))];simp only[jc]
 have h3:sQ (fun r=>qp (A i r)*sQ (fun j=>qp (B r j)) k) k<=sQ (fun r=>V*qp (A i r)) k:=zd7 fun r hr=>by
  have:=Rat.mul_le_mul_of_nonneg_left (hb r hr) (qe (A i r));grind
 rw[jc]at h3;have h4:=Rat.mul_le_mul_of_nonneg_left (ha i hi) (zm5 hb);rw[h2]at h1;grind
theorem nQ_sc {k:Nat} {A:Nat->Nat->Rat} {U c:Rat} (ha:nQ k A U) (hc:0<=c):nQ k (fun i j=>c*A i j) (c*U):=fun i hi=>by
 have e:(fun r=>qp (c*A i r))=fun r=>c*qp (A i r):=by
  funext r
  rw[zcc]
  congr 1
  unfold qp;split<;>grind
 rw[e,jc];exact Rat.mul_le_mul_of_nonneg_left (ha i hi) hc
theorem zt4 (i j:Nat):qp (dlt i j)=if i=j then 1 else 0:=by
 unfold dlt;by_cases h:i=j
 ·simp only[if_pos h];exact zya
 ·simp only[if_neg h];exact zko
theorem zx3 {i:Nat}: ∀ {k:Nat},sQ (fun r=>qp (dlt i r)) k=if i<=k then 1 else 0
 |0=>by
  show qp (dlt i 0)=_;rw[zt4];by_cases h:i=0
  ·rw[if_pos h,if_pos (by omega)]
  ·rw[if_neg h,if_neg (by omega)]
 |k+1=>by
  show sQ (fun r=>qp (dlt i r)) k+qp (dlt i (k+1))=_;rw[zx3,zt4];by_cases h:i=k+1
  ·rw[if_neg (by omega),if_pos h,if_pos (by omega)];grind
  ·by_cases h2:i<=k
   ·rw[if_pos h2,if_neg h,if_pos (by omega)];grind
   ·rw[if_neg h2,if_neg h,if_neg (by omega)];grind
theorem zyj {k:Nat}:nQ k dlt 1:=fun i hi=>by rw[zx3,if_pos hi];exact Rat.le_refl
def tQ (k:Nat) (A:Nat->Nat->Rat):Nat->Nat->Nat->Rat
 |0=>dlt
 |j+1=>fun a b=>(1/((j+1:Nat):Rat))*mQ k (tQ k A j) A a b
def eQ (k:Nat) (A:Nat->Nat->Rat):Nat->Nat->Nat->Rat
 |0=>dlt
 |j+1=>fun a b=>eQ k A j a b+tQ k A (j+1) a b
def fQ (k:Nat) (A:Nat->Nat->Rat):Nat->Nat->Nat->Rat
 |0=>dlt
 |j+1=>fun a b=>fQ k A j a b+(1/((j+2:Nat):Rat))*tQ k A (j+1) a b
theorem nQ_t {k:Nat} {A:Nat->Nat->Rat} {U:Rat} (h:nQ k A U): ∀j,nQ k (tQ k A j) (rQ U j)
 |0=>zyj
 |j+1=>by
  have:=nQ_sc (zyi (nQ_t h j) h) (zlc j).1;rw[show rQ U (j+1)=1/((j+1:Nat):Rat)*(rQ U j*U)from(Rat.mul_comm _ _)];exact this
theorem zyy {k:Nat} {A:Nat->Nat->Rat} {U:Rat} (h:nQ k A U) {K:Nat} (hu:U*2<=((K+1:Nat):Rat)) {a b:Nat} (ha:a<=k) (hb:b<=k): ∀d:Nat,
 (qp (eQ k A (K+d) a b-eQ k A K a b)<=rQ U K-rQ U (K+d))/\(qp (fQ k A (K+d) a b-fQ k A K a b)<=rQ U K-rQ U (K+d))
 |0=>by
  constructor<;>
  ·rw[Nat.add_zero,Rat.sub_self,Rat.sub_self,zko];exact Rat.le_refl
 |d+1=>by
  obtain⟨h1,h2⟩:=zyy h hu ha hb d;have ht:=zv8 (nQ_t h (K+d+1)) ha hb;have hr:=zmy (zm5 h) hu (j:=K+d) (by omega);have hi:=zlc (K+d+1);have hr0:=zkr (zm5 h) (K+d+1);have e1:eQ k A (K+(d+1)) a b=eQ k A (K+d) a b+tQ k A (K+d+1) a b:=rfl;have e2:fQ k A (K+(d+1)) a b=fQ k A (K+d) a b+(1/((K+d+1+1:Nat):Rat))*tQ k A (K+d+1) a b:=rfl;have hc:qp ((1/((K+d+1+1:Nat):Rat))*tQ k A (K+d+1) a b)<=rQ U (K+d+1):=by
   rw[zcc];have e:qp (1/((K+d+1+1:Nat):Rat))=1/((K+d+1+1:Nat):Rat):=by have:=hi.1;unfold qp;split<;>grind
   rw[e];have:=Rat.mul_le_mul_of_nonneg_right hi.2 (qe (tQ k A (K+d+1) a b));grind
  rw[e1,e2,show K+(d+1)=K+d+1 from rfl];generalize (1/((K+d+1+1:Nat):Rat))*tQ k A (K+d+1) a b=y at*;generalize tQ k A (K+d+1) a b=x at*;generalize rQ U (K+d+1)=r1 at*;generalize rQ U (K+d)=r0 at*;generalize eQ k A (K+d) a b=z at*;generalize fQ k A (K+d) a b=w at*;unfold qp at*;constructor
  ·split at h1<;>split at ht<;>split<;>grind
  ·split at h2<;>split at hc<;>split<;>grind
theorem zwt {e:Iv} (he:VI e) {q:Rat} (h:e.all=true\/(-dv e.hi<=q/\q<=dv e.hi)):inI q (zax (zcl e) e):=by
 rcases he with k|rfl
 ·have hn:KI (zcl e):=by
   have:=zk0 (.inl k);rw[zh2 k]at this⊢;exact(un this).1 rfl
  rw[k.all]at h;rcases h with c|⟨h1,h2⟩
  ·cases c
  unfold zax;rw[if_pos ((zdo hn.ri k.ri).2 ⟨hn,k⟩),zh2 k];right;obtain⟨a1,a2,_⟩:=zgj (uk e.hi) e.lo;obtain⟨b1,b2,_⟩:=za6 (uk e.lo) e.hi;rw[zbh]at a1 b1;constructor
  ·show dv (zaf (uk e.hi) e.lo)<=q;grind
  ·show q<=dv (yg (uk e.lo) e.hi);grind
 ·unfold zax;rw[if_neg (by simp[kB,wI0])];exact zzi _
theorem qfy {n k:Nat} {A D:Nat->Nat->Rat} {m:Mx} (h:inM n k A m) {e:Iv} (he:VI e) (hD: ∀i j,i<n->j<k->e.all=true\/(-dv e.hi<=D i j/\D i j<=dv e.hi)) {p:Int} (hp:pcB p=true):inM n k (fun i j=>A i j+D i j) (arM m e p):=by
 refine⟨zur h.v he hp,fun i j hi hj=>?_⟩;rw[qb1 h.v hi hj];exact zmb (uh h.v hi hj) (zjr (zk0 he).ri he.ri) hp (h.i i j hi hj) (zwt he (hD i j hi hj))
theorem inM.cg {n k:Nat} {A B:Nat->Nat->Rat} {m:Mx} (h:inM n k A m) (e: ∀i j,i<n->j<k->A i j=B i j):inM n k B m:=⟨h.v,fun i j hi hj=>by rw[←e i j hi hj];exact h.i i j hi hj⟩
theorem qfp {j:Nat} (h:1<=j) (h2:j<=1000000) {p:Int} (hp:pcB p=true):inI (1/(j:Rat)) (byI j p):=by
 have:=zt5 (zcw (n:=1) (by decide)) (zcw (n:=(j:Int)) (by omega)) hp (zhu 1) (zhu (j:Int));rw[Rat.intCast_natCast]at this;simpa[byI]using this
structure sIn (k K:Nat) (A:Nat->Nat->Rat) (U:Rat) (s:MSt) (r:Iv):Prop where
 t:inM (k+1) (k+1) (tQ k A K) s.term
 e:inM (k+1) (k+1) (eQ k A K) s.exp
 f:inM (k+1) (k+1) (fQ k A K) s.phi
 r1:VI r
 r2:inI (rQ U K) r
theorem qdd {k K:Nat} {A:Nat->Nat->Rat} {U:Rat} {s:MSt} {r:Iv} (h:sIn k K A U s r) {m:Mx} (hm:inM (k+1) (k+1) A m) {u:Iv} (hu:VI u) (hU:inI U u) {p:Int} (hp:pcB p=true) (hK:K<=100000):
 sIn k (K+1) A U (zd2 m p (K+1) s) (zu0 u p (K+1) r):=by
 have b1:=ze9 (k:=K+1) (by omega) (by omega) hp;have b2:=ze9 (k:=K+2) (by omega) (by omega) hp;have c1:=qfp (j:=K+1) (by omega) (by omega) hp;have c2:=qfp (j:=K+2) (by omega) (by omega) hp;have ht:=zvn (mu_in h.t hm hp) b1 c1 hp;refine⟨ht,qf1 h.e ht hp,qf1 h.f (zvn ht b2 c2 hp) hp,ww (ww h.r1 hu hp) b1 hp,?_⟩;exact zev (ww h.r1 hu hp) b1 hp (zev h.r1 hu hp h.r2 hU) c1
theorem zx1 {k:Nat} {A:Nat->Nat->Rat} {U:Rat} {m:Mx} (hm:inM (k+1) (k+1) A m) {u:Iv} (hu:VI u) (hU:inI U u) {p:Int} (hp:pcB p=true): ∀(n K:Nat) (s:MSt) (r:Iv),K+n<=100000->sIn k K A U s r->
 ∃K',K+min n 1<=K'/\K'<=K+n/\sIn k K' A U (xj m u p n (K+1) s r).1 (xj m u p n (K+1) s r).2/\(K'=K+n\/zki (xj m u p n (K+1) s r).2 p=true)
 |0,K,s,r,_,h=>⟨K,by omega,by omega,h,.inl rfl⟩
 |n+1,K,s,r,hK,h=>by
  have hs:=qdd h hm hu hU hp (by omega);unfold xj;by_cases c:zki (zu0 u p (K+1) r) p=true
  ·rw[if_pos c];exact⟨K+1,by omega,by omega,hs,.inr c⟩
  ·rw[if_neg c];obtain⟨K',h1,h2,h3,h4⟩:=zx1 hm hu hU hp n (K+1) _ _ (by omega) hs;exact⟨K',by omega,by omega,h3,by rcases h4 with h4|h4;exact .inl (by omega);exact .inr h4⟩
def pQ (k:Nat) (A:Nat->Nat->Rat):Nat->Nat->Nat->Rat
 |0=>dlt
 |j+1=>mQ k (pQ k A j) A
theorem qfd (i:Nat):dlt i i=1:=if_pos rfl
theorem qfe {i j:Nat} (h:i≠j):dlt i j=0:=if_neg h
theorem zz7 {f:Nat->Rat} {j:Nat}: ∀ {k:Nat},sQ (fun r=>f r*dlt r j) k=if j<=k then f j else 0
 |0=>by
  show f 0*dlt 0 j=_;by_cases h:j=0
  ·subst h;rw[qfd,if_pos (Nat.le_refl _),Rat.mul_one]
  ·rw[qfe (fun c=>h c.symm),if_neg (by omega),Rat.mul_zero]
 |k+1=>by
  show sQ (fun r=>f r*dlt r j) k+f (k+1)*dlt (k+1) j=_;rw[zz7];by_cases h:j=k+1
  ·subst h;rw[qfd,if_neg (by omega),if_pos (Nat.le_refl _),Rat.mul_one,Rat.zero_add]
  ·rw[qfe (fun c=>h c.symm),Rat.mul_zero,Rat.add_zero];by_cases h2:j<=k
   ·rw[if_pos h2,if_pos (by omega)]
   ·rw[if_neg h2,if_neg (by omega)]
theorem qec {k:Nat} {A:Nat->Nat->Rat} {a b:Nat} (hb:b<=k):mQ k A dlt a b=A a b:=by
 unfold mQ;rw[zz7,if_pos hb]
theorem zwe {k:Nat} {A B C:Nat->Nat->Rat} {a b:Nat}:mQ k (mQ k A B) C a b=mQ k A (mQ k B C) a b:=by
 unfold mQ;have e1:(fun r=>sQ (fun q=>A a q*B q r) k*C r b)=fun r=>sQ (fun q=>A a q*(B q r*C r b)) k:=by
  funext r
  rw[Rat.mul_comm,←jc];exact yc fun q _=>by grind
 have e2:(fun q=>A a q*sQ (fun r=>B q r*C r b) k)=fun q=>sQ (fun r=>A a q*(B q r*C r b)) k:=by
  funext q;rw[jc]
 rw[e1,e2,zch]
theorem qed {k:Nat} {A A' B B':Nat->Nat->Rat} {a b:Nat} (h1: ∀r,r<=k->A a r=A' a r) (h2: ∀r,r<=k->B r b=B' r b):mQ k A B a b=mQ k A' B' a b:=yc fun r hr=>by rw[h1 r hr,h2 r hr]
theorem zsi {k:Nat} {A:Nat->Nat->Rat} {a:Nat} (i:Nat): ∀(j b:Nat),b<=k->mQ k (pQ k A i) (pQ k A j) a b=pQ k A (i+j) a b
 |0,b,hb=>qec hb
 |j+1,b,hb=>by
  show mQ k (pQ k A i) (mQ k (pQ k A j) A) a b=mQ k (pQ k A (i+j)) A a b;rw[←zwe];exact qed (fun r hr=>zsi i j r hr) fun r _=>rfl
theorem nQ_p {k:Nat} {A:Nat->Nat->Rat} {U:Rat} (h:nQ k A U): ∀j,nQ k (pQ k A j) (rpw U j)
 |0=>zyj
 |j+1=>by
  have:=zyi (nQ_p h j) h;rw[show rpw U (j+1)=rpw U j*U from rfl];exact this
theorem zry (U:Rat) (i:Nat): ∀j,rpw U (i+j)=rpw U i*rpw U j
 |0=>(Rat.mul_one _).symm
 |j+1=>by
  show rpw U (i+j)*U=rpw U i*(rpw U j*U);rw[zry U i j];grind
def gQ (c:Nat->Rat) (k:Nat) (A:Nat->Nat->Rat) (n:Nat):Nat->Nat->Rat:=fun a b=>sQ (fun i=>c i*pQ k A i a b) n
theorem zog (x U:Rat): ∀i,rQ x i*rpw U i=rQ (x*U) i
 |0=>by exact Rat.one_mul 1
 |i+1=>by
  have ih:=zog x U i;have e:rpw U (i+1)=rpw U i*U:=rfl;rw[e];unfold rQ;rw[←ih];grind
theorem qe1 {c:Nat->Rat} {k:Nat} {A:Nat->Nat->Rat} {U x C:Rat} (h:nQ k A U) (hc: ∀i,qp (c i)<=C*rQ x i) {a b:Nat} (ha:a<=k) (hb:b<=k) (i:Nat):qp (c i*pQ k A i a b)<=C*rQ (x*U) i:=by
 rw[zcc,←zog];have:=zbr (qe _) (hc i) (qe _) (zv8 (nQ_p h i) ha hb);grind
theorem zyv {c:Nat->Rat} {k:Nat} {A:Nat->Nat->Rat} {U x C:Rat} (h:nQ k A U) (hx:0<=x) (hC:0<=C) (hc: ∀i,qp (c i)<=C*rQ x i) {a b:Nat} (ha:a<=k) (hb:b<=k):Bnd fun n=>gQ c k A n a b:=
 ((zr7 (Rat.mul_nonneg hx (zm5 h))).sc hC).of fun i=>qe1 h hc ha hb i
theorem zyu {c d:Nat->Rat} {k:Nat} {A:Nat->Nat->Rat} {U x y C D:Rat} (h:nQ k A U) (hx:0<=x) (hy:0<=y) (hC:0<=C) (hD:0<=D) (hc: ∀i,qp (c i)<=C*rQ x i) (hd: ∀i,qp (d i)<=D*rQ y i) {a b:Nat} (ha:a<=k) (hb:b<=k):
 Nul fun n=>mQ k (gQ c k A n) (gQ d k A n) a b-gQ (fun q=>sQ (fun i=>c i*d (q-i)) q) k A n a b:=by
 have hU:=zm5 h;have hp: ∀i j,qp (c i*d j*pQ k A (i+j) a b)<=C*rQ (x*U) i*(D*rQ (y*U) j):=fun i j=>by
  have h1:=zv8 (nQ_p h (i+j)) ha hb;have e: ∀i,rpw U (i+j)=rpw U i*rpw U j:=fun i=>zry U i j
  rw[e]at h1;rw[zcc,zcc,←zog,←zog];have h2:=zbr (qe (c i)) (hc i) (qe (d j)) (hd j);have h3:=zbr (Rat.mul_nonneg (qe (c i)) (qe (d j))) h2 (qe _) h1;grind
 have h1:=qfm (f:=fun i j=>c i*d j*pQ k A (i+j) a b) ((zr7 (Rat.mul_nonneg hx hU)).sc hC) ((zr7 (Rat.mul_nonneg hy hU)).sc hD) hp;refine h1.cg fun n=>?_
 have e1:sQ (fun i=>sQ (fun j=>c i*d j*pQ k A (i+j) a b) n) n=mQ k (gQ c k A n) (gQ d k A n) a b:=by
  have e2:(fun i=>sQ (fun j=>c i*d j*pQ k A (i+j) a b) n)=fun i=>sQ (fun r=>(c i*pQ k A i a r)*gQ d k A n r b) k:=by
   funext i
   have e3:(fun r=>(c i*pQ k A i a r)*gQ d k A n r b)=fun r=>sQ (fun j=>c i*d j*(pQ k A i a r*pQ k A j r b)) n:=by
    funext r
    unfold gQ;rw[←jc];exact yc fun j _=>by grind
   rw[e3,zch];exact yc fun j _=>by
    rw[jc];have:=zsi (k:=k) (A:=A) (a:=a) i j b hb;unfold mQ at this;rw[this]
  rw[e2,zch];unfold mQ;exact yc fun r _=>by
   show sQ (fun i=>c i*pQ k A i a r*gQ d k A n r b) n=gQ c k A n a r*gQ d k A n r b;rw[Rat.mul_comm (gQ c k A n a r)];show _=gQ d k A n r b*sQ (fun i=>c i*pQ k A i a r) n;rw[←jc];exact yc fun i _=>by grind
 have e4:trQ (fun i j=>c i*d j*pQ k A (i+j) a b) n=gQ (fun q=>sQ (fun i=>c i*d (q-i)) q) k A n a b:=by
  unfold trQ gQ;exact yc fun q _=>by
   rw[Rat.mul_comm,←jc];exact yc fun i hi=>by
    show c i*d (q-i)*pQ k A (i+(q-i)) a b=pQ k A q a b*(c i*d (q-i));rw[show i+(q-i)=q by omega];grind
 rw[e1,e4]
def xQ (k:Nat) (A:Nat->Nat->Rat) (t:Rat) (n:Nat):Nat->Nat->Rat:=gQ (rQ t) k A n
def yQ (k:Nat) (A:Nat->Nat->Rat) (t:Rat) (n:Nat):Nat->Nat->Rat:=gQ (fun i=>rQ t (i+1)) k A n
theorem cx (t:Rat) (i:Nat):qp (rQ t i)<=1*rQ (qp t) i:=by rw[zr6,Rat.one_mul];exact Rat.le_refl
theorem rQ_1 {u:Rat} (hu:0<=u) (i:Nat):rQ u (i+1)<=u*rQ u i:=by
 have h1:=zlc i;have h2:=zkr hu i;have h3:=Rat.mul_le_mul_of_nonneg_left h1.2 (Rat.mul_nonneg h2 hu);rw[show rQ u (i+1)=rQ u i*u*(1/((i+1:Nat):Rat))from rfl];generalize 1/((i+1:Nat):Rat)=c at*;generalize rQ u i=q at*;grind
theorem cy (t:Rat) (i:Nat):qp (rQ t (i+1))<=qp t*rQ (qp t) i:=by rw[zr6];exact rQ_1 (qe t) i
section
variable {k:Nat} {A:Nat->Nat->Rat} {U:Rat} (h:nQ k A U) {a b:Nat} (ha:a<=k) (hb:b<=k)
include h ha hb
theorem zxo (t:Rat):Bnd fun n=>xQ k A t n a b:=zyv h (qe t) (by decide) (cx t) ha hb
theorem zxn (t:Rat):Bnd fun n=>yQ k A t n a b:=zyv h (qe t) (qe t) (cy t) ha hb
theorem zqt (s t:Rat):Nul fun n=>mQ k (xQ k A s n) (xQ k A t n) a b-xQ k A (s+t) n a b:=by
 refine(zyu h (qe s) (qe t) (by decide) (by decide) (cx s) (cx t) ha hb).cg fun n=>?_
 have:gQ (fun q=>sQ (fun i=>rQ s i*rQ t (q-i)) q) k A n a b=xQ k A (s+t) n a b:=yc fun q _=>by
  show sQ (fun i=>rQ s i*rQ t (q-i)) q*_=_;rw[zr5]
 rw[this];rfl
theorem qcu (t:Rat):Nul fun n=>yQ k A t n a b+mQ k (xQ k A t n) (yQ k A t n) a b-yQ k A (t+t) n a b:=by
 refine(zyu h (qe t) (qe t) (by decide) (qe t) (cx t) (cy t) ha hb).cg fun n=>?_
 have:gQ (fun q=>sQ (fun i=>rQ t i*rQ t (q-i+1)) q) k A n a b=yQ k A (t+t) n a b-yQ k A t n a b:=by
  unfold yQ gQ;rw[←zob];exact yc fun q _=>by
   have h1:=zr5 t t (q+1);have h2:sQ (fun i=>rQ t i*rQ t (q+1-i)) (q+1)=sQ (fun i=>rQ t i*rQ t (q-i+1)) q+rQ t (q+1):=by
    show sQ (fun i=>rQ t i*rQ t (q+1-i)) q+rQ t (q+1)*rQ t (q+1-(q+1))=_;rw[Nat.sub_self,show rQ t 0=1 from rfl,Rat.mul_one]
    congr 1
    exact yc fun i hi=>by rw[show q+1-i=q-i+1 by omega]
   rw[h2]at h1;grind
 rw[this];show mQ k (xQ k A t n) (yQ k A t n) a b-(yQ k A (t+t) n a b-yQ k A t n a b)=_;grind
theorem qct (t:Rat):Nul fun n=>dlt a b+mQ k A (yQ k A t n) a b-xQ k A t n a b:=by
 have e: ∀n,dlt a b+mQ k A (yQ k A t n) a b=xQ k A t (n+1) a b:=fun n=>by
  have e2:mQ k A (yQ k A t n) a b=sQ (fun i=>rQ t (i+1)*pQ k A (i+1) a b) n:=by
   unfold mQ yQ gQ;have:(fun r=>A a r*sQ (fun i=>rQ t (i+1)*pQ k A i r b) n)=fun r=>sQ (fun i=>rQ t (i+1)*(A a r*pQ k A i r b)) n:=by
    funext r
    rw[←jc];exact yc fun i _=>by grind
   rw[this,zch];exact yc fun i _=>by
    rw[jc]
    congr 1
    have h1:mQ k A (pQ k A i) a b=mQ k (pQ k A 1) (pQ k A i) a b:=qed (fun r hr=>by
     show A a r=mQ k dlt A a r;unfold mQ;have:(fun q=>dlt a q*A q r)=fun q=>A q r*dlt q a:=by
      funext q;unfold dlt
      by_cases c:a=q
      ·rw[if_pos c,if_pos c.symm];grind
      ·rw[if_neg c,if_neg fun e=>c e.symm];grind
     rw[this,zz7,if_pos ha]) fun r _=>rfl
    have h2:=zsi (k:=k) (A:=A) (a:=a) 1 i b hb;unfold mQ at h1;rw[h1];unfold mQ at h2;rw[h2,Nat.add_comm]
  rw[e2];unfold xQ gQ;rw[zfe];show dlt a b+_=(1:Rat)*dlt a b+_;rw[Rat.one_mul]
 have hn:Nul fun n=>xQ k A t (n+1) a b-xQ k A t n a b:=fun e he=>by
  have h0:=zm5 h;obtain⟨N,_,hN⟩:=zof (Rat.mul_nonneg (qe t) h0) he;refine⟨N,fun n hn=>?_⟩;have h1:=qe1 h (cx t) ha hb (n+1);have h2:=hN (n+1) (by omega);have e:xQ k A t (n+1) a b-xQ k A t n a b=rQ t (n+1)*pQ k A (n+1) a b:=by
   show xQ k A t n a b+rQ t (n+1)*pQ k A (n+1) a b-xQ k A t n a b=_;grind
  show qp (xQ k A t (n+1) a b-xQ k A t n a b)<=_;rw[e];grind
 exact hn.cg fun n=>by rw[e]
end
theorem zqs {k:Nat} {A:Nat->Nat->Rat} {a b:Nat}: ∀n,xQ k A 0 n a b=dlt a b
 |0=>by show(1:Rat)*dlt a b=_;rw[Rat.one_mul]
 |n+1=>by
  show xQ k A 0 n a b+rQ 0 (n+1)*_=_;rw[zqs n,show rQ 0 (n+1)=0 by unfold rQ;grind];grind
theorem zzn {k:Nat} {A:Nat->Nat->Rat} {h:Rat}: ∀(i a b:Nat),tQ k (fun i j=>h*A i j) i a b=rQ h i*pQ k A i a b
 |0,a,b=>by show dlt a b=1*dlt a b;rw[Rat.one_mul]
 |i+1,a,b=>by
  show(1/((i+1:Nat):Rat))*mQ k (tQ k (fun i j=>h*A i j) i) (fun i j=>h*A i j) a b=_;have:mQ k (tQ k (fun i j=>h*A i j) i) (fun i j=>h*A i j) a b=(rQ h i*h)*mQ k (pQ k A i) A a b:=by
   unfold mQ;rw[←jc];exact yc fun r _=>by rw[zzn i a r];grind
  rw[this];show _=rQ h i*h*(1/((i+1:Nat):Rat))*mQ k (pQ k A i) A a b;generalize 1/((i+1:Nat):Rat)=c;generalize rQ h i=q;grind
theorem eQ_x {k:Nat} {A:Nat->Nat->Rat} {h:Rat} {a b:Nat}: ∀n,eQ k (fun i j=>h*A i j) n a b=xQ k A h n a b
 |0=>by show dlt a b=1*dlt a b;rw[Rat.one_mul]
 |n+1=>by
  show eQ k (fun i j=>h*A i j) n a b+tQ k (fun i j=>h*A i j) (n+1) a b=xQ k A h n a b+rQ h (n+1)*pQ k A (n+1) a b;rw[eQ_x n,zzn]
theorem fQ_y {k:Nat} {A:Nat->Nat->Rat} {h:Rat} {a b:Nat}: ∀n,h*fQ k (fun i j=>h*A i j) n a b=yQ k A h n a b
 |0=>by
  show h*dlt a b=rQ h 1*dlt a b;have:rQ h 1=h:=by
   show(1:Rat)*h*(1/((0+1:Nat):Rat))=h;rw[show(1/((0+1:Nat):Rat))=1 from by rw[show((0+1:Nat):Rat)=1 from rfl];grind];grind
  rw[this]
 |n+1=>by
  show h*(fQ k (fun i j=>h*A i j) n a b+(1/((n+2:Nat):Rat))*tQ k (fun i j=>h*A i j) (n+1) a b)=yQ k A h n a b+rQ h (n+1+1)*pQ k A (n+1) a b;have ih:=fQ_y (k:=k) (A:=A) (h:=h) (a:=a) (b:=b) n;rw[zzn,show rQ h (n+1+1)=rQ h (n+1)*h*(1/((n+1+1:Nat):Rat))from rfl];grind
theorem zrz {p:Int} (hp:pcB p=true) {f:Nat->Rat}: ∀(r:List Iv) (s S:Dy) (d:Nat),(∀x∈r,VI x)->VD s->(∀i x,r[i]? =some x->inI (f (d+i)) x)->zfh p r s=some S->r≠ []->dv s+sQ (fun i=>qp (f (d+i))) (r.length-1)<=dv S
 | [],_,_,_,_,_,_,_,h=>absurd rfl h
 |x::r,s,S,d,hx,hs,hf,h,_=>by
  unfold zfh at h;split at h
  ·rename_i c;have k:=(qn (hx x (by simp)).ri).1 c.1;have R1:=((zbm hs (zir k) (vn hp)).2.1 c.2).1;have h1:dv s+dv (zct x)<=dv (zai s (zct x) p.toNat true).1:=R1;have h2:qp (f d)<=dv (zct x):=by
    have:=hf 0 x rfl;rcases this with e|⟨e1,e2⟩
    ·rw[k.all]at e;cases e
    ·exact(zuu k e1 e2).2.2
   cases r with
   |nil=>
    cases h
    show dv s+qp (f (d+0))<=_;rw[Nat.add_zero];grind
   |cons y r=>
    have ih:=zrz hp (f:=f) (y::r) _ S (d+1) (fun z hz=>hx z (List.mem_cons_of_mem _ hz)) (zey _ _ _ _ (vn hp)) (fun i z hz=>by
     have:=hf (i+1) z hz;rw[show d+1+i=d+(i+1) by omega];exact this) h (by simp)
    have e:sQ (fun i=>qp (f (d+i))) ((x::y::r).length -1)=qp (f d)+sQ (fun i=>qp (f (d+1+i))) ((y::r).length -1):=by
     show sQ (fun i=>qp (f (d+i))) (r.length+1)=qp (f d)+sQ (fun i=>qp (f (d+1+i))) r.length;rw[zfe];show qp (f (d+0))+_=_;rw[Nat.add_zero]
     congr 1
     exact yc fun i _=>by rw[show d+1+i=d+(i+1) by omega]
    rw[e];grind
  ·cases h
theorem nm_in {n k:Nat} {A:Nat->Nat->Rat} {m:Mx} (h:inM n (k+1) A m) (hn:k+1<=n) {p:Int} (hp:pcB p=true) {D:Dy} (hD:nmM m p=(D,true)):nQ k A (dv D):=fun i hi=>by
 unfold nmM at hD;rw[if_pos (by rw[h.v.ok,hp];rfl)]at hD;split at hD
 ·rename_i d hd;cases hD
  obtain⟨_,_,a3⟩:=zjf hp m d0 D h.v.el qc hd;obtain⟨r,hr,hm⟩: ∃r,m[i]? =some r/\r∈m:=⟨m[i]'(by rw[h.v.len];omega),List.getElem?_eq_getElem (by rw[h.v.len];omega),List.getElem_mem _⟩;obtain⟨s,hs,hle⟩:=a3 r hm;have hl:=h.v.row r hm;have:=zrz hp (f:=fun j=>A i j) r d0 s 0 (h.v.el r hm) qc (fun j x hx=>by
   have hj:=(List.getElem?_eq_some_iff.1 hx).1;have h1:=h.i i j (by omega) (by omega);rw[zb7 hr hx]at h1;rw[Nat.zero_add];exact h1) hs (by intro c;subst c;simp at hl)
  rw[xc,hl,Rat.zero_add]at this;simp only[Nat.zero_add]at this;exact Rat.le_trans this hle
 ·cases hD
theorem zx6 {p:Int} (hp:pcB p=true): ∀(r:List Iv) (s:Dy) (c:Nat),(∀x∈r,kI (pw (-1)) x)->VD s->dv s<=vN c (-1)->c+r.length<=200-> ∃S,zfh p r s=some S
 | [],s,c,_,_,_,_=>⟨s,rfl⟩
 |x::r,s,c,hx,hs,h1,hc=>by
  have hb:=hx x (by simp);have k:=hb.k;have hm:=(zsz hb.b k).2.1;have hF:=zyt (p:=p.toNat) (vn hp).1 (c:=c+1) (by simp at hc;omega);have R1:=(zbm hs (zir k) (vn hp)).2.2 (vN (c+1) (-1)) (.inl hF) (by show dv s+dv (zct x)<=_;rw[zqv];grind);obtain⟨S,hS⟩:=zx6 hp r _ (c+1) (fun y hy=>hx y (List.mem_cons_of_mem _ hy)) (zey _ _ _ _ (vn hp)) R1.2 (by simp at hc;omega);refine⟨S,?_⟩;unfold zfh;rw[if_pos ⟨(qn k.ri).2 k,R1.1⟩];exact hS
theorem qdv {n k:Nat} {m:Mx} (v:VM n k m) (h: ∀r∈m,∀x∈r,kI (pw (-1)) x) {p:Int} (hp:pcB p=true): ∃D,nmM m p=(D,true):=by
 have key: ∀(m:Mx) (D:Dy),(∀r∈m,∀x∈r,kI (pw (-1)) x)->(∀r∈m,r.length<=8)-> ∃E,nmG p m D=some E:=by
  intro m
  induction m with
  |nil=>exact fun D _ _=>⟨D,rfl⟩
  |cons r m ih=>
   intro D h hl;obtain⟨S,hS⟩:=zx6 hp r d0 0 (h r (by simp)) qc (by rw[xc];exact zc0 _ _) (by have:=hl r (by simp);omega);unfold nmG;rw[hS];exact ih _ (fun r hr=>h r (List.mem_cons_of_mem _ hr)) fun r hr=>hl r (List.mem_cons_of_mem _ hr)
 obtain⟨E,hE⟩:=key m d0 h fun r hr=>by rw[v.row r hr];exact v.k1.2
 exact⟨E,by unfold nmM;rw[if_pos (by rw[v.ok,hp];rfl),hE]⟩
theorem zhg {x y:Iv} (hx:VI x) (hy:VI y) {p:Int} (h:x.all=true\/y.all=true):(yy x y p).all =true:=by
 rw[qb2 hx.ri hy.ri fun c=>by rcases h with h|h;rw[c.1.all]at h;cases h;rw[c.2.all]at h;cases h];rfl
theorem zm6 {x y:Iv} (hx:VI x) (hy:VI y) {p:Int} (h:x.all=true\/y.all=true):(yb x y p).all =true:=by
 rw[zwa hx.ri hy.ri fun c=>by rcases h with h|h;rw[c.1.all]at h;cases h;rw[c.2.all]at h;cases h];rfl
theorem zt3 {p:Int} (hp:pcB p=true) {f g:Nat->Iv}: ∀(k i:Nat),(∀i,i<=k->VI (f i))->(∀i,i<=k->VI (g i))->i<=k->(f i).all =true\/(g i).all =true->(dtF p f g k).all =true
 |0,i,hf,hg,hi,h=>by
  obtain rfl:i=0:=by omega
  exact zm6 (hf 0 (Nat.le_refl _)) (hg 0 (Nat.le_refl _)) h
 |k+1,i,hf,hg,hi,h=>by
  have v1:=(qbf hp (f:=f) (g:=g) (a:=fun i=>dv (f i).lo) (b:=fun i=>dv (g i).lo) k (fun i hi=>⟨hf i (by omega),zp6 (hf i (by omega))⟩) fun i hi=>⟨hg i (by omega),zp6 (hg i (by omega))⟩).1;have v2:=ww (hf (k+1) (Nat.le_refl _)) (hg (k+1) (Nat.le_refl _)) hp;by_cases e:i=k+1
  ·subst e;exact zhg v1 v2 (.inr (zm6 (hf _ (Nat.le_refl _)) (hg _ (Nat.le_refl _)) h))
  ·exact zhg v1 v2 (.inl (zt3 hp k i (fun i hi=>hf i (by omega)) (fun i hi=>hg i (by omega)) (by omega) h))
theorem zvm {x:Iv} (hx:VI x) {j:Int} {q:Rat} (h:inI q x):inI (q*pw j) (zy x j):=by
 unfold zy;by_cases c:kB x=true
 ·rw[if_pos c];have k:=(qn hx.ri).1 c;rcases h with e|⟨h1,h2⟩
  ·rw[k.all]at e;cases e
  cases ha:(kp (vj x.lo j) (vj x.hi j)).all with
  |true=>exact .inl ha
  |false=>
   obtain⟨o1,o2⟩:=yi.1 ha;right;rw[za8 ha];have e1:=zbo o1;have e2:=zbo o2;show dv (vj x.lo j).1<=_/\_<=dv (vj x.hi j).1;rw[e1,e2];exact⟨ve h1 (zb3 j),ve h2 (zb3 j)⟩
 ·rw[if_neg c];exact zzi _
theorem qdf {k:Nat} {A:Nat->Nat->Rat} {a:Mx} (ha:inM (k+1) (k+1) A a) {hI:Iv} (vh:VI hI) {h:Rat} (hh:inI h hI) {q:Int} (hq:pcB q=true) {D:Dy} (hD:nmM (scM a hI q) q=(D,true)) (hu:dv D*2<=3):
 ∃K:Nat,∀N,K<=N->inM (k+1) (k+1) (xQ k A h N) (zmo (scM a hI q) hI q).exp /\inM (k+1) (k+1) (yQ k A h N) (zmo (scM a hI q) hI q).phi :=by
 have hm:=zvn ha vh hh hq;have hU:=nm_in hm (Nat.le_refl _) hq hD;have hDv:=zjh (a:=scM a hI q) (p:=q) hm.v.el;rw[hD]at hDv;have hui:VI (zk D):= .inl (zbn hDv.1);have hUi:inI (dv D) (zk D):= .inr ⟨Rat.le_refl,Rat.le_refl⟩;have hid:=id_in hm.v.n1;obtain⟨K,k1,k2,hs,hst⟩:=zx1 hm hui hUi hq 700 0 ⟨idM (k+1),idM (k+1),idM (k+1)⟩ (whI 1) (by omega) ⟨hid,hid,hid,zcw (by decide),zhu 1⟩;have e:zmo (scM a hI q) hI q=⟨arM (xj (scM a hI q) (zk D) q 700 1 ⟨idM (k+1),idM (k+1),idM (k+1)⟩ (whI 1)).1.exp (xj (scM a hI q) (zk D) q 700 1 ⟨idM (k+1),idM (k+1),idM (k+1)⟩ (whI 1)).2 q,scM (arM (xj (scM a hI q) (zk D) q 700 1 ⟨idM (k+1),idM (k+1),idM (k+1)⟩ (whI 1)).1.phi (xj (scM a hI q) (zk D) q 700 1 ⟨idM (k+1),idM (k+1),idM (k+1)⟩ (whI 1)).2 q) hI q⟩:=by
  unfold zmo;rw[hD,hm.v.len]
 rw[e];have hs:sIn k K (fun i j=>h*A i j) (dv D) (xj (scM a hI q) (zk D) q 700 1 ⟨idM (k+1),idM (k+1),idM (k+1)⟩ (whI 1)).1 (xj (scM a hI q) (zk D) q 700 1 ⟨idM (k+1),idM (k+1),idM (k+1)⟩ (whI 1)).2:=hs;have hst:K=0+700\/zki (xj (scM a hI q) (zk D) q 700 1 ⟨idM (k+1),idM (k+1),idM (k+1)⟩ (whI 1)).2 q=true:=hst;generalize xj (scM a hI q) (zk D) q 700 1 ⟨idM (k+1),idM (k+1),idM (k+1)⟩ (whI 1)=S at*;obtain⟨s,r⟩:=S;simp only at hs hst⊢;have hK1:1<=K:=by simp at k1;omega
 refine⟨K,fun N hN=>?_⟩;obtain⟨d,rfl⟩:=Nat.exists_eq_add_of_le hN;have hall: ∀i j,i<k+1->j<k+1->(r.all=true\/(-dv r.hi<=eQ k (fun i j=>h*A i j) (K+d) i j-eQ k (fun i j=>h*A i j) K i j/\eQ k (fun i j=>h*A i j) (K+d) i j-eQ k (fun i j=>h*A i j) K i j<=dv r.hi))/\
  (r.all=true\/(-dv r.hi<=fQ k (fun i j=>h*A i j) (K+d) i j-fQ k (fun i j=>h*A i j) K i j/\fQ k (fun i j=>h*A i j) (K+d) i j-fQ k (fun i j=>h*A i j) K i j<=dv r.hi)):=fun i j hi hj=>by
  cases hra:r.all with
  |true=>exact⟨.inl rfl,.inl rfl⟩
  |false=>
   have hr2:=hs.r2;rcases hr2 with c|⟨_,c⟩
   ·rw[hra]at c;cases c
   have hU2:dv D*2<=((K+1:Nat):Rat):=by
    by_cases hK2:2<=K
    ·have h3:((3:Nat):Rat)<=((K+1:Nat):Rat):=Rat.natCast_le_natCast.2 (by omega);exact Rat.le_trans hu h3
    ·obtain rfl:K=1:=by omega
     rcases hst with c2|c2
     ·omega
     ·have hU1:dv D<=dv r.hi:=by
       have e1:rQ (dv D) 1=dv D:=by
        show(1:Rat)*dv D*(1/((0+1:Nat):Rat))=dv D;rw[show(1/((0+1:Nat):Rat))=1 from by rw[show((0+1:Nat):Rat)=1 from rfl];grind];grind
       rw[e1]at c;exact c
      have hr1:dv r.hi<=1:=by
       unfold zki at c2;rw[hra]at c2;simp only[Bool.false_or,Bool.or_eq_true,decide_eq_true_eq]at c2;rcases c2 with c2|c2
       ·have:=(zi4 r.hi).2.2.1 c2;rw[this];decide
       ·by_cases hn:nm r.hi=0
        ·rw[zg7 hn];decide
        ·have h5:=(zyz hn).2;have hp8:8<=q:=by
          obtain⟨q',rfl,hq'⟩:=ux.1 hq;omega
         have h6:pw (qb r.hi)<=pw 0:=za5.2 (by omega);have h7:pw 0=1:=by rw[show(0:Int)=((0:Nat):Int)from rfl,jg];rfl
         rw[h7]at h6;exact Rat.le_trans h5 h6
      have:((1+1:Nat):Rat)=2:=rfl;rw[this];grind
   obtain⟨t1,t2⟩:=zyy hU hU2 (show i<=k by omega) (show j<=k by omega) d;have t3:=zkr (zm5 hU) (K+d);exact⟨.inr ⟨by have:=(zci.1 t1).1;grind,by have:=(zci.1 t1).2;grind⟩,.inr ⟨by have:=(zci.1 t2).1;grind,by have:=(zci.1 t2).2;grind⟩⟩
 have a1:=qfy hs.e (D:=fun i j=>eQ k (fun i j=>h*A i j) (K+d) i j-eQ k (fun i j=>h*A i j) K i j) hs.r1 (fun i j hi hj=>(hall i j hi hj).1) hq;have a2:=qfy hs.f (D:=fun i j=>fQ k (fun i j=>h*A i j) (K+d) i j-fQ k (fun i j=>h*A i j) K i j) hs.r1 (fun i j hi hj=>(hall i j hi hj).2) hq;refine⟨a1.cg fun i j _ _=>?_,(zvn a2 vh hh hq).cg fun i j _ _=>?_⟩
 ·show eQ k (fun i j=>h*A i j) K i j+(eQ k (fun i j=>h*A i j) (K+d) i j-eQ k (fun i j=>h*A i j) K i j)=_;rw[←eQ_x (h:=h) (A:=A) (K+d)];grind
 ·show h*(fQ k (fun i j=>h*A i j) K i j+(fQ k (fun i j=>h*A i j) (K+d) i j-fQ k (fun i j=>h*A i j) K i j))=_;rw[←fQ_y (h:=h) (A:=A) (K+d)];grind
structure liM (k:Nat) (S:Nat->Nat->Nat->Rat) (m:Mx):Prop where
 v:VM (k+1) (k+1) m
 l: ∀i j,i<=k->j<=k->lI (fun N=>S N i j) (atM m i j)
theorem zs1 {k:Nat} {S:Nat->Nat->Nat->Rat} {m:Mx} (v:VM (k+1) (k+1) m) {K:Nat} (h: ∀N,K<=N->inM (k+1) (k+1) (S N) m):liM k S m:=
 ⟨v,fun i j hi hj=>qek K fun N hN=>(h N hN).i i j (by omega) (by omega)⟩
theorem qel {p:Int} (hp:pcB p=true) {f g:Nat->Iv} {a b:Nat->Nat->Rat}: ∀k:Nat,(∀i,i<=k->VI (f i)/\lI (a i) (f i)/\Bnd (a i))->(∀i,i<=k->VI (g i)/\lI (b i) (g i)/\Bnd (b i))->
 VI (dtF p f g k)/\lI (fun N=>sQ (fun i=>a i N*b i N) k) (dtF p f g k)
 |0,hf,hg=>by
  obtain⟨f1,f2,f3⟩:=hf 0 (Nat.le_refl _);obtain⟨g1,g2,g3⟩:=hg 0 (Nat.le_refl _);exact⟨ww f1 g1 hp,zyp f1 g1 hp f2 g2 f3 g3⟩
 |k+1,hf,hg=>by
  obtain⟨h1,h2⟩:=qel hp k (fun i hi=>hf i (by omega)) (fun i hi=>hg i (by omega));obtain⟨f1,f2,f3⟩:=hf (k+1) (Nat.le_refl _);obtain⟨g1,g2,g3⟩:=hg (k+1) (Nat.le_refl _);exact⟨ziq h1 (ww f1 g1 hp) hp,zyq h1 (ww f1 g1 hp) hp h2 (zyp f1 g1 hp f2 g2 f3 g3)⟩
theorem zgi {k:Nat} {S T:Nat->Nat->Nat->Rat} {x y:Mx} (hx:liM k S x) (hy:liM k T y) (bs: ∀i j,i<=k->j<=k->Bnd fun N=>S N i j) (bt: ∀i j,i<=k->j<=k->Bnd fun N=>T N i j) {p:Int} (hp:pcB p=true):
 liM k (fun N=>mQ k (S N) (T N)) (muM x y p).1:=by
 refine⟨(zea hx.v hy.v hp).2,fun i j hi hj=>?_⟩;rw[zum hx.v hy.v hp (by omega) (by omega)];exact(qel hp (a:=fun r N=>S N i r) (b:=fun r N=>T N r j) k (fun r hr=>⟨uh hx.v (by omega) (by omega),hx.l i r hi hr,bs i r hi hr⟩) fun r hr=>⟨uh hy.v (by omega) (by omega),hy.l r j hr hj,bt r j hr hj⟩).2
theorem zs2 {k:Nat} {S T:Nat->Nat->Nat->Rat} {x y:Mx} (hx:liM k S x) (hy:liM k T y) {p:Int} (hp:pcB p=true):liM k (fun N i j=>S N i j+T N i j) (adM x y p).1:=by
 refine⟨(zem hx.v hy.v hp).2,fun i j hi hj=>?_⟩;rw[zuq hx.v hy.v hp (by omega) (by omega)];exact zyq (uh hx.v (by omega) (by omega)) (uh hy.v (by omega) (by omega)) hp (hx.l i j hi hj) (hy.l i j hi hj)
theorem liM.nul {k:Nat} {S T:Nat->Nat->Nat->Rat} {x:Mx} (hx:liM k S x) (h: ∀i j,i<=k->j<=k->Nul fun N=>S N i j-T N i j):liM k T x:=⟨hx.v,fun i j hi hj=>(hx.l i j hi hj).nul (h i j hi hj)⟩
theorem zyo {k:Nat} {S:Nat->Nat->Nat->Rat} {x:Mx} (hx:liM k S x) (p:Int):liM k S (rdM x p):=by
 refine⟨zmw hx.v p,fun i j hi hj=>?_⟩;rw[qb0 hx.v (by omega) (by omega)];exact lI_id (fun q hq=>zr0 (uh hx.v (by omega) (by omega)) hq) (hx.l i j hi hj)
theorem qfg {k:Nat} {A:Nat->Nat->Rat} {U:Rat} (hU:nQ k A U) {t:Rat} {x:MPr} (h1:liM k (xQ k A t) x.exp) (h2:liM k (yQ k A t) x.phi) {q:Int} (hq:pcB q=true):liM k (xQ k A (t+t)) (zqf q x).exp /\liM k (yQ k A (t+t)) (zqf q x).phi :=by
 have bx: ∀i j,i<=k->j<=k->Bnd fun N=>xQ k A t N i j:=fun i j hi hj=>zxo hU hi hj t
 have by': ∀i j,i<=k->j<=k->Bnd fun N=>yQ k A t N i j:=fun i j hi hj=>zxn hU hi hj t
 exact⟨(zgi h1 h1 bx bx hq).nul fun i j hi hj=>zqt hU hi hj t t,(zs2 h2 (zgi h1 h2 bx by' hq) hq).nul fun i j hi hj=>qcu hU hi hj t⟩
theorem zt8 {k:Nat} {A:Nat->Nat->Rat} {U:Rat} (hU:nQ k A U) {q:Int} (hq:pcB q=true): ∀(s:Nat) (t:Rat) (x:MPr),liM k (xQ k A t) x.exp->liM k (yQ k A t) x.phi->liM k (xQ k A (t*pw (s:Int))) (znm q s x).exp /\liM k (yQ k A (t*pw (s:Int))) (znm q s x).phi
 |0,t,x,h1,h2=>by
  have e:t*pw ((0:Nat):Int)=t:=by rw[jg];simp
  rw[e];exact⟨h1,h2⟩
 |s+1,t,x,h1,h2=>by
  obtain⟨d1,d2⟩:=qfg hU h1 h2 hq;have:=zt8 hU hq s (t+t) (zqf q x) d1 d2;have e:(t+t)*pw (s:Int)=t*pw ((s+1:Nat):Int):=by
   have:pw ((s+1:Nat):Int)=pw (s:Int)*2:=by
    have e1:pw 1=2:=by
     have:=jg 1;exact this
    rw[show((s+1:Nat):Int)=(s:Int)+1 from rfl,pwA,e1]
   rw[this];grind
  rw[e]at this;exact this
end Go.Proofs.YtgehdbenidimlaaGreatDoor
