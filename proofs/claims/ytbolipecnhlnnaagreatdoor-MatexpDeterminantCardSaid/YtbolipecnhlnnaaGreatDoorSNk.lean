/- matexp.both of a matrix of at most three rows that is not great is known. -/
import Derived.Test.YtbolipecnhlnnaaGreatDoorSNi
set_option linter.unusedVariables false
set_option linter.unusedSimpArgs false
open List renaming getElem?_eq_some_iff->q0,getElem?_of_mem->q1,mem_of_getElem?->q2,take_add_one->q3,getElem?_eq_none_iff->q4,any_eq_true->q5,mem_cons_of_mem->q8
open Rat renaming le_trans->q6,natCast_le_natCast->q7,le_refl->q9,natCast_nonneg->qA
namespace Go.Proofs.YtbolipecnhlnnaaGreatDoor
open Go Go.Sx
set_option maxRecDepth 100000
set_option maxHeartbeats 4000000
theorem zyz {p:Int} (hp:pcB p=true) (hp2:11<=p): ∀(r:List Iv) (s:Dy) (c:Nat),(∀x∈r,kI (pw 4) x)->VD s->dv s<=(c:Rat)->c+16*r.length<=2000-> ∃S,zft p r s=some S/\VD S/\dv S<=((c+16*r.length:Nat):Rat)
 | [],s,c,_,hs,h1,_=>⟨s,rfl,hs,by simpa using h1⟩
 |x::r,s,c,hx,hs,h1,hc=>by
  have hb:=hx x (by simp);have k:=hb.k;have hm:=(zph hb.b k).2.1;have e16:pw 4=((16:Nat):Rat):=vj 4;rw[e16]at hm;simp only[List.length_cons]at hc⊢;have hF:=qga (p:=p.toNat) (by omega) (c:=c+16) (by omega);have R1:=(zb6 hs (zaf k) (qs hp)).2.2 (((c+16:Nat)):Rat) (.inl hF) (by show dv s+dv (jk x)<=_;rw[Rat.natCast_add];grind);obtain⟨S,h2,h3,h4⟩:=zyz hp hp2 r _ (c+16) (fun q hq=>hx q (q8 _ hq)) (zfc _ _ _ _ (qs hp)) R1.2 (by omega);refine⟨S,?_,h3,by rw[show c+16*(r.length+1)=c+16+16*r.length by omega];exact h4⟩;unfold zft;rw[Z4 ⟨(qa k.ri).2 k,R1.1⟩];exact h2
theorem qfb {p:Int} (hp:pcB p=true) (hp2:11<=p): ∀(m:Mx) (D:Dy),(∀r∈m,r.length<=3/\ ∀x∈r,kI (pw 4) x)->dv D<=((48:Nat):Rat)-> ∃E,nmG p m D=some E/\dv E<=((48:Nat):Rat)
 | [],D,_,h=>⟨D,rfl,h⟩
 |l::m,D,h,hD=>by
  obtain⟨h1,h2⟩:=h l (by simp);obtain⟨S,e1,_,e2⟩:=zyz hp hp2 l d0 0 h2 qb (by rw[yz];exact qA) (by omega);have e3:dv S<=((48:Nat):Rat):=q6 e2 (q7.2 (by omega));unfold nmG;rw[e1];refine qfb hp hp2 m _ (fun l hl=>h l (q8 _ hl)) ?_;show dv (if 0<qf S D then S else D)<=_;split
  .exact e3
  .exact hD
theorem qa2 {k:Nat} (hk:k<=2) {a:Mx} (va:VM (k+1) (k+1) a) (hel: ∀r∈a,∀x∈r,kI (pw 20) x) {t:Iv} (kt:KI t) (hhalf: ∀s:Nat,s<=8->kI (pw 20) (zu t (-(s:Int)))) (hprod: ∀q,pcB q=true-> ∀r∈a,∀x∈r,kI (pw 4) (wu t x q)) {p:Int} (hp:pcB p=true):
 ∃w,zgc a t p=some w:=by
 have hp2:8<=p/\p<=512:=by
  obtain⟨q,rfl,hq⟩:=kp.1 hp;omega
 have hq:pcB (min (p+40) 512)=true:=by unfold pcB;simp;omega
 have hq2:11<=min (p+40) 512:=by omega
 generalize hqq:min (p+40) 512=q at*;have vsc0:=za2 va (.inl kt) hq;have hsc:scM a t q=xo (fun _ _ y=>wu t y q) a:=by
  unfold scM;rw[Z4 (by rw[va.ok,(jl kt.ri).2 (.inl kt),hq];rfl)]
 obtain⟨E,hE,hE48⟩:=qfb hq hq2 (scM a t q) d0 (fun r hr=>⟨by rw[vsc0.row r hr];omega,fun x hx=>by
  rw[hsc]at hr;obtain⟨i,r0,_,hr0,rfl⟩:=jp hr;obtain⟨j,x0,_,hx0,rfl⟩:=jp hx;exact hprod q hq r0 hr0 x0 hx0⟩) (by rw[yz];exact qA)
 have hN:nmM (scM a t q) q=(E,true):=by
  unfold nmM;rw[Z4 (by rw[vsc0.ok,hq];rfl),hE]
 have hN':nmM (scM a t (min (p+40) 512)) (min (p+40) 512)=(E,true):=by rw[hqq];exact hN
 have hnd:=zj4 (a:=scM a t q) (p:=q) vsc0.el;rw[hN]at hnd;have hnd2:0<=dv E:=hnd.2;have hE6:dv E<=pw 6:=by
  have:pw 6=((64:Nat):Rat):=vj 6;rw[this];exact q6 hE48 (q7.2 (by decide))
 have hcmp: ¬(0<qf E (za6 256)):=fun c=>by
  have:=(zb4 E (za6 256)).2.1.1 c;rw[ji]at this;have h8:((256:Int):Rat)=pw 8:=(vj 8).symm;rw[h8]at this;have:=xk.2 (show(6:Int)<=8 by decide);grind
 have htop:=qed hnd2 hE6 (by decide);rw[zkq hN',Z5 (by simp;omega),hqq];have hs0:((hvS E).toNat :Int)=hvS E:=by unfold hvS;omega
 have hs8:(hvS E).toNat <=8:=by unfold hvS;omega
 have hbd:=zn2 va kt hq hN;rw[<-hs0]at hbd;generalize (hvS E).toNat =s at*;have hh:=hhalf s hs8;have vh:VI (zu t (-(s:Int))):= .inl hh.k;have vsc:=za2 va vh hq;have hm:kM k (-1) (scM a (zu t (-(s:Int))) q):=by
  refine⟨vsc,fun i j hi hj=>?_⟩;rw[zx7 va vh hq hi hj];obtain⟨r,hr1,hr2,_,hr4⟩:=zvc va hi hj;refine ztz (hbd r hr2 _ (q2 hr4)) ?_;exact(zg2 hh (hel r hr2 _ (q2 hr4)) hq (by rw[<-pwA];exact pwF (by decide) (by decide))).k.all
 have hknown: ∀r∈scM a (zu t (-(s:Int))) q,∀w∈r,kI (pw (-1)) w:=fun r hr w hw=>by
  obtain⟨i,hi⟩:=q1 hr;obtain⟨j,hj⟩:=q1 hw;have hil:=(q0.1 hi).1;have hjl:=(q0.1 hj).1;rw[vsc.len]at hil;rw[vsc.row r hr]at hjl;have:=hm.e i j hil hjl;rw[zez hi hj]at this;exact this
 obtain⟨D,hD⟩:=qe8 vsc hknown hq;have hDle:dv D<=pw 1:=by
  have h1:nmG q (scM a (zu t (-(s:Int))) q) d0=some D:=by
   unfold nmM at hD;rw[Z4 (by rw[vsc.ok,hq];rfl)]at hD;split at hD
   .rename_i d hd;cases hD;exact hd
   .cases hD
  have h2:=zwv hq (k:=k+1) (by omega) _ d0 D (fun r hr=>⟨vsc.row r hr,fun w hw=>(hknown r hr w hw).b⟩) (by rw[yz];exact zda _ _) h1;have h3:vN (k+1) (-1)<=vN 4 (-1):=xg.2 (by omega);have h4:vN 4 (-1)=pw 1:=zcr 2 (-1);rw[h4]at h3;exact q6 h2 h3
 have hDv:=zj4 (a:=scM a (zu t (-(s:Int))) q) (p:=q) vsc.el;have hu:kI (pw 1) (zd (nmM (scM a (zu t (-(s:Int))) q) q).1):=by
  rw[hD]at hDv⊢;refine⟨zbc hDv.1,?_,hDle⟩;have:=yw 1;have h0:0<=dv D:=hDv.2;show-pw 1<=dv D;grind
 obtain⟨m1,m2⟩:=qf4 hk hm (H:=20) (by decide) hh hq hq2 hu;obtain⟨C,hC,w1,w2⟩:=zty hk hq s (20+12) _ (by decide) (by
  have:(2:Int)^s<=2^8:=by
   have:=Nat.pow_le_pow_right (show 0<2 by decide) hs8;have e:((2^s:Nat):Int)=(2:Int)^s:=by simp
   have e2:((2^8:Nat):Int)=(2:Int)^8:=by simp
   rw[<-e,<-e2];omega
  have:(20+12+3)*(2:Int)^s<=(20+12+3)*2^8:=Int.mul_le_mul_of_nonneg_left this (by decide);omega) m1 m2
 unfold qcy;simp only;rw[qf0 ⟨by omega,by omega⟩ w1 hp,qf0 ⟨by omega,by omega⟩ w2 hp];exact⟨_,rfl⟩
theorem qfd {d:Dy} (h:VD d) (h0:0<=dv d):d.neg=false:=by
 cases hn:d.neg with
 |false=>rfl
 |true=>
  rcases h.ok with ⟨_,h1,_⟩|⟨h1,_⟩
  .rw[hn]at h1;cases h1
  .have:0<vN (nm d) d.e:=zyl d.e (by omega);unfold dv at h0;rw[Z4 hn]at h0;grind
theorem zpd (a b:Dy):dv a<=dv (zin a b)/\dv b<=dv (zin a b)/\(zin a b=a\/zin a b=b):=zbs a b
theorem qhv {a b:Dy} (ha:VD a) (hb:VD b):VD (zin a b):=zob ha hb
theorem zvj {x:Iv} (k:KI x):VD (zc0 x):=qhv (zea k.lo) k.hi
theorem znq {x:Iv} (k:KI x):0<=dv (zc0 x)/\ -dv (zc0 x)<=dv x.lo/\dv x.lo<=dv (zc0 x)/\ -dv (zc0 x)<=dv x.hi/\dv x.hi<=dv (zc0 x):=by
 obtain⟨h1,h2,_⟩:=zpd (yk x.lo) x.hi;rw[zb2]at h1;have h3:=k.dle;have e:zc0 x=zin (yk x.lo) x.hi:=rfl;rw[e];generalize dv (zin (yk x.lo) x.hi)=M at*;refine⟨by grind,by grind,by grind,by grind,by grind⟩
def nrB (x:Iv):Bool:=decide (qf (zc0 x) (cnN false 1 20)<=0)
def zbv (x:Iv):Bool:=decide (3<x.lo.m.length)||decide (3<x.hi.m.length)||decide (x.lo.e< -80)||decide (x.hi.e< -80)|| !nrB x
def zfi (x:Iv):Nat:=nm (zc0 x)*2^((zc0 x).e +80).toNat
theorem zw9 {x:Iv} (h:zbv x=false):x.lo.m.length<=3/\x.hi.m.length<=3/\ -80<=x.lo.e/\ -80<=x.hi.e/\nrB x=true:=by
 unfold zbv at h;simp only[Bool.or_eq_false_iff,Z3,Bool.not_eq_false']at h;obtain⟨⟨⟨⟨h1,h2⟩,h3⟩,h4⟩,h5⟩:=h;exact⟨by omega,by omega,by omega,by omega,h5⟩
theorem qbo {x:Iv} (h:nrB x=true):dv (zc0 x)<=pw 20:=by
 unfold nrB at h;have h:=uh.1 (Z0 h);rw[zb3,Z5 (by simp),zkz]at h;exact h
theorem zdr {x:Iv} (k:KI x) (h:zbv x=false):zc0 x=cnN false (zfi x) (-80)/\zfi x<=2^100:=by
 obtain⟨_,_,h3,h4,h5⟩:=zw9 h;have h6:=qbo h5;have v:=zvj k;have n:=qfd v (znq k).1;have he: -80<=(zc0 x).e :=by
  rcases(zpd (yk x.lo) x.hi).2.2 with e|e
  .have e:zc0 x=yk x.lo:=e;rw[e];unfold yk;split
   .decide
   .exact h3
  .have e:zc0 x=x.hi:=e;rw[e];exact h4
 have hc:=v.canon;have hd:dv (zc0 x)=vN (zfi x) (-80):=by
  unfold dv zfi;rw[Z5 (by rw[n];simp),zc9]
  congr 1
  omega
 refine⟨?_,?_⟩
 .unfold zfi;rw[zhs,show(-80:Int)+(((zc0 x).e +80).toNat :Nat)=(zc0 x).e by omega];rw[n]at hc;exact hc
 .rw[hd]at h6;have:pw 20=vN (2^100) (-80):=by rw[zcr];rfl
  rw[this]at h6;exact xg.1 h6
def loL (l:List Iv):List Iv:=l.map fun x=>zd x.lo
def loM (m:Mx):Mx:=m.map loL
theorem qe2 (d:Dy):inI (dv d) (zd d):= .inr ⟨q9,q9⟩
theorem VD_c {n:Nat} {e:Int} (h:n<2^250) (he: -1000<=e/\e<=1000):VD (cnN false n e):=by
 have:=yr.2 h;exact zmq (zir (by omega) (by omega) (by omega))
theorem qfa {n:Nat} {e:Int} (h:n≠0):nm (cnN false n e)≠0:=by
 obtain⟨a,_,h1,h2,_⟩:=za9 h;rw[zy9,h2];omega
theorem sum_c {n m:Nat} {e:Int}:zji (cnN false n e) (cnN false m e)=cnN false (n+m) e:=by
 by_cases hn:n=0
 .subst hn;have:cnN false 0 e=d0:=rfl;rw[this,Nat.zero_add];unfold zji;rw[Z4 zj3]
 by_cases hm:m=0
 .subst hm;have h0:cnN false 0 e=d0:=rfl;rw[h0,Nat.add_zero];unfold zji;rw[Z5 (qfa hn),Z4 zj3]
 obtain⟨a,ha,ha1,ha2,_⟩:=za9 hn;obtain⟨b,hb,hb1,hb2,_⟩:=za9 hm;have e1:cnN false n e=⟨false,toL a,e+tz n⟩:=by unfold cnN;rw[Z5 hn,ha2]
 have e2:cnN false m e=⟨false,toL b,e+tz m⟩:=by unfold cnN;rw[Z5 hm,hb2]
 rw[e1,e2];unfold zji;rw[Z5 (by rw[yj];omega),Z5 (by rw[yj];omega),yj,yj,Z4 rfl];obtain⟨k,p,q,h1,h2,h3,h4,h5⟩: ∃k p q:Nat,tz n=p+k/\tz m=q+k/\min (e+(tz n:Int)) (e+(tz m:Int))=e+(k:Int)/\(e+(tz n:Int)-(e+(k:Int))).toNat =p/\(e+(tz m:Int)-(e+(k:Int))).toNat =q:=by
  refine⟨min (tz n) (tz m),tz n-min (tz n) (tz m),tz m-min (tz n) (tz m),by omega,by omega,by omega,by omega,by omega⟩
 have e3:n+m=(a*2^p+b*2^q)*2^k:=by
  conv=>lhs;rw[ha,hb]
  rw[h1,h2,Nat.add_mul,Nat.mul_assoc,Nat.mul_assoc,<-Nat.pow_add,<-Nat.pow_add]
 show cnN false (a*2^(e+(tz n:Int)-min (e+(tz n:Int)) (e+(tz m:Int))).toNat +b*2^(e+(tz m:Int)-min (e+(tz n:Int)) (e+(tz m:Int))).toNat) (min (e+(tz n:Int)) (e+(tz m:Int)))=_;rw[h3,h4,h5,e3,zhs]
theorem prd_c {n m:Nat} {e f:Int}:cnN ((cnN false n e).neg != (cnN false m f).neg) (nm (cnN false n e)*nm (cnN false m f)) ((cnN false n e).e +(cnN false m f).e)=cnN false (n*m) (e+f):=by
 by_cases hn:n=0
 .subst hn;have:cnN false 0 e=d0:=rfl;rw[this,zj3,Nat.zero_mul,Nat.zero_mul];rfl
 by_cases hm:m=0
 .subst hm;have:cnN false 0 f=d0:=rfl;rw[this,zj3,Nat.mul_zero,Nat.mul_zero];rfl
 obtain⟨a,ha,_,ha2,_⟩:=za9 hn;obtain⟨b,hb,_,hb2,_⟩:=za9 hm;have e1:cnN false n e=⟨false,toL a,e+tz n⟩:=by unfold cnN;rw[Z5 hn,ha2]
 have e2:cnN false m f=⟨false,toL b,f+tz m⟩:=by unfold cnN;rw[Z5 hm,hb2]
 rw[e1,e2,yj,yj];show cnN false (a*b) (e+tz n+(f+tz m))=_;have:n*m=a*b*2^(tz n+tz m):=by
  conv=>lhs;rw[ha,hb]
  rw[Nat.pow_add];generalize 2^tz n=p;generalize 2^tz m=q;grind
 rw[this,zhs]
 congr 1
 omega
def rwS (r:List Iv) (j:Nat):Nat:=((r.take j).map zfi).sum
theorem rwS_0 (r:List Iv):rwS r 0=0:=rfl
theorem qa9 {r:List Iv} {j:Nat} {x:Iv} (h:r[j]? =some x):rwS r (j+1)=rwS r j+zfi x:=by
 unfold rwS;rw[q3,h];simp
def szM (a:Mx) (i:Nat):Nat:=((a.take i).map fun r=>rwS r r.length).foldl max 0
theorem qao {a:Mx} {i:Nat} {r:List Iv} (h:a[i]? =some r):szM a (i+1)=max (szM a i) (rwS r r.length):=by
 unfold szM;rw[q3,h];simp
theorem zsk {r:List Iv} {B:Nat} (h: ∀x∈r,zfi x<=B): ∀j,rwS r j<=j*B
 |0=>by rw[rwS_0];exact Nat.zero_le _
 |j+1=>by
  have h1:=zsk h j;rw[Nat.succ_mul]
  cases hg:r[j]? with
  |none=>
   have e:rwS r (j+1)=rwS r j:=by unfold rwS;rw[q3,hg];simp
   rw[e];exact Nat.le_trans h1 (Nat.le_add_right _ _)
  |some x=>
   rw[qa9 hg];exact Nat.add_le_add h1 (h x (q2 hg))
theorem zsl {r:List Iv}: ∀(j:Nat) (i:Nat) (x:Iv),r[i]? =some x->i<j->zfi x<=rwS r j
 |0,_,_,_,h=>absurd h (by omega)
 |j+1,i,x,hx,h=>by
  cases hg:r[j]? with
  |none=>
   have h1:=(q0.1 hx).1;have h2:=q4.1 hg;have e:rwS r (j+1)=rwS r j:=by unfold rwS;rw[q3,hg];simp
   rw[e];exact zsl j i x hx (by omega)
  |some y=>
   rw[qa9 hg];by_cases c:i<j
   .have:=zsl j i x hx c;omega
   .have:i=j:=by omega
    subst this;rw[hx]at hg;cases hg
    omega
theorem zrv {a:Mx}: ∀(i:Nat) (k:Nat) (r:List Iv),a[k]? =some r->k<i->rwS r r.length<=szM a i
 |0,_,_,_,h=>absurd h (by omega)
 |i+1,k,r,hr,h=>by
  cases hg:a[i]? with
  |none=>
   have h1:=(q0.1 hr).1;have h2:=q4.1 hg;have e:szM a (i+1)=szM a i:=by unfold szM;rw[q3,hg];simp
   rw[e];exact zrv i k r hr (by omega)
  |some y=>
   rw[qao hg];by_cases c:k<i
   .have:=zrv i k r hr c;omega
   .have:k=i:=by omega
    subst this;rw[hr]at hg;cases hg
    omega
theorem zru {a:Mx} (h: ∀r∈a,r.length<=3/\ ∀x∈r,zfi x<=2^100): ∀i,szM a i<=3*2^100
 |0=>Nat.zero_le _
 |i+1=>by
  have:=zru h i
  cases hg:a[i]? with
  |none=>
   have e:szM a (i+1)=szM a i:=by unfold szM;rw[q3,hg];simp
   rw[e];omega
  |some r=>
   rw[qao hg];obtain⟨h1,h2⟩:=h r (q2 hg);have h3:=zsk h2 r.length;have:r.length*2^100<=3*2^100:=Nat.mul_le_mul_right _ h1;omega
theorem cmp_c {n m:Nat} {e:Int}:0<qf (cnN false n e) (cnN false m e)<->m<n:=by
 rw[(zb4 _ _).2.1,zb3,zb3,Z5 (by simp),Z5 (by simp),zmw]
def zm6 (a:Mx) (t:Iv) (ls:List (List Iv)):Bool:=
 decide (a.length<=3)&&(zh7 a t 24&&(!zbv t&&(!(a.any fun r=>r.any zbv)&&(ls.all (fun l=>bvB l&&(decide (l.length=a.length)&& !(l.any zbv)))&&decide (qf (cnN false (szM a a.length*zfi t) (-160)) (za6 16)<=0)))))
structure SmM (a:Mx) (t:Iv):Prop where
 n3:a.length<=3
 cas:zh7 a t 24=true
 lt:zbv t=false
 la: ∀r∈a,∀x∈r,zbv x=false
 sz:qf (cnN false (szM a a.length*zfi t) (-160)) (za6 16)<=0
theorem sm_ok {a:Mx} {t:Iv} {ls:List (List Iv)} (h:zm6 a t ls=true):SmM a t/\ ∀l∈ls,bvB l=true/\l.length=a.length/\ ∀x∈l,zbv x=false:=by
 unfold zm6 at h;simp only[Bool.and_eq_true,Z2,Bool.not_eq_true',List.all_eq_true]at h;obtain⟨h1,h2,h3,h4,h5,h6⟩:=h;refine⟨⟨h1,h2,h3,fun r hr x hx=>?_,h6⟩,fun l hl=>?_⟩
 .cases hb:zbv x with
  |false=>rfl
  |true=>
   have:(a.any fun r=>r.any zbv)=true:=q5.2 ⟨r,hr,q5.2 ⟨x,hx,hb⟩⟩;rw[h4]at this;cases this
 .obtain⟨g1,g2,g3⟩:=h5 l hl;refine⟨g1,g2,fun x hx=>?_⟩
  cases hb:zbv x with
  |false=>rfl
  |true=>
   have:l.any zbv=true:=q5.2 ⟨x,hx,hb⟩;rw[g3]at this;cases this
theorem sm_sz {a:Mx} {t:Iv} (h:SmM a t) (kt:KI t) {r:List Iv} (hr:r∈a) {x:Iv} (hx:x∈r) (kx:KI x):dv (zc0 x)*dv (zc0 t)<=pw 4:=by
 obtain⟨c1,c2⟩:=zdr kt h.lt;obtain⟨d1,d2⟩:=zdr kx (h.la r hr x hx);have hs:=uh.1 h.sz;rw[zb3,Z5 (by simp),ji]at hs;have h4:((16:Int):Rat)=pw 4:=(vj 4).symm;rw[h4]at hs;obtain⟨i,hi⟩:=q1 hr;obtain⟨j,hj⟩:=q1 hx;have g1:=zsl r.length j x hj (q0.1 hj).1;have g2:=zrv a.length i r hi (q0.1 hi).1;rw[c1,d1,zb3,zb3,Z5 (by simp),Z5 (by simp),zrj];refine q6 (xg.2 ?_) hs;exact Nat.mul_le_mul_right _ (Nat.le_trans g1 g2)
theorem qb3 {B C D:Rat} {x y:Iv} (hx:kI B x) (hy:kI C y) (hD:B*C<=D) {p:Int} (hp:pcB p=true) (hF:inF p.toNat D):kI D (wu x y p):=by
 obtain⟨⟨a1,a2⟩,⟨a3,a4⟩⟩:=hx.b.ends hx.k;obtain⟨⟨b1,b2⟩,⟨b3,b4⟩⟩:=hy.b.ends hy.k;have w: ∀z:Rat,-(B*C)<=z/\z<=B*C-> -D<=z/\z<=D:=fun z h=>by constructor<;>grind
 have hv:=wq (.inl hx.k:VI x) (.inl hy.k:VI y) hp;rw[zll hx.k hy.k hp]at hv⊢;have f:=zlm hx.k hy.k (qs hp);have hq:zkj (fun u v=>u*v) x y (fun z=> -D<=z/\z<=D):=⟨w _ (jw a1 a2 b1 b2),w _ (jw a1 a2 b3 b4),w _ (jw a3 a4 b1 b2),w _ (jw a3 a4 b3 b4)⟩;have ha:=qdd f hF hq;have hb:=zoc f hF hq ha;exact⟨(xf hv).1 ha,hb.1,hb.2⟩
def Cn (x y:Iv):Prop:= ∃d,(d=x.lo\/d=x.hi)/\y=zd d
structure crM (k:Nat) (a m:Mx):Prop where
 v:VM (k+1) (k+1) m
 c: ∀i j,i<=k->j<=k->Cn (atM a i j) (atM m i j)
theorem Cn_kI {x y:Iv} (k:KI x) (h:Cn x y):kI (dv (zc0 x)) y:=by
 obtain⟨d,hd,rfl⟩:=h;obtain⟨h0,h1,h2,h3,h4⟩:=znq k;rcases hd with rfl|rfl
 .exact⟨zbc k.lo,h1,h2⟩
 .exact⟨zbc k.hi,h3,h4⟩
theorem qg9 {k:Nat} {a m:Mx} (h:crM k a m):inM (k+1) (k+1) (fun i j=>dv (atM m i j).lo) m:=
 ⟨h.v,fun i j hi hj=>by
  obtain⟨d,_,e⟩:=h.c i j (by omega) (by omega);rw[e];exact .inr ⟨q9,q9⟩⟩
theorem zz2 {n k:Nat} {m:Mx} (v:VM n k m) {r:List Iv} (hr:r∈m) {x:Iv} (hx:x∈r): ∃i j,i<n/\j<k/\atM m i j=x:=by
 obtain⟨i,hi⟩:=q1 hr;obtain⟨j,hj⟩:=q1 hx;have hil:=(q0.1 hi).1;have hjl:=(q0.1 hj).1;rw[v.len]at hil;rw[v.row r hr]at hjl;exact⟨i,j,hil,hjl,zez hi hj⟩
theorem at_el {n k:Nat} {m:Mx} (v:VM n k m) {i j:Nat} (hi:i<n) (hj:j<k): ∃r∈m,atM m i j∈r:=by
 obtain⟨r,h1,h2,_,h4⟩:=zvc v hi hj;exact⟨r,h2,q2 h4⟩
theorem zwb {d:Dy} (v:VD d) (he: -80<=d.e) {B:Rat} (hb:kI B (zd d)) {s:Nat} (hs:s<=8):kI B (zu (zd d) (-(s:Int))):=by
 have hk:kB (zd d)=true:=(qa (zbc v).ri).2 (zbc v);have ho:(vn d (-(s:Int))).2=0:=by
  unfold vn;rw[Z5 (by unfold exB;simp;omega)];unfold ckN;rw[Z4];have h1:=v.bits;have h2:=v.exp;exact zir h1 (by omega) (by omega)
 have ha:(zu (zd d) (-(s:Int))).all =false:=by
  unfold zu;rw[Z4 hk];exact ye.2 ⟨ho,ho⟩
 have h2:=ztz (zkr hb.b (-(s:Int))) ha;refine h2.mono ?_;have h3:pw (-(s:Int))<=pw 0:=xk.2 (by omega);rw[zwn]at h3;have:=Rat.mul_le_mul_of_nonneg_left h3 hb.nn;grind
theorem qep {k:Nat} (hk:k<=2) {a m:Mx} {t:Iv} (va:VM (k+1) (k+1) a) (hs:SmM a t) (kt:KI t) (hel: ∀r∈a,∀x∈r,KI x) (hc:crM k a m) {d:Dy} (vd:VD d) (hd: -dv (zc0 t)<=dv d/\dv d<=dv (zc0 t)) (he: -80<=d.e) {p:Int} (hp:pcB p=true):
 ∃w,zgc m (zd d) p=some w:=by
 have kd:kI (dv (zc0 t)) (zd d):=⟨zbc vd,hd.1,hd.2⟩;have h20:=qbo (zw9 hs.lt).2.2.2.2;have hx: ∀r∈m,∀y∈r,∃B:Rat,kI B y/\B<=pw 20/\dv (zc0 t)*B<=pw 4:=fun r hr y hy=>by
  obtain⟨i,j,hi,hj,e⟩:=zz2 hc.v hr hy;obtain⟨r',hr',hx'⟩:=at_el va hi hj;have kx:=hel r' hr' _ hx';have c:=hc.c i j (by omega) (by omega);rw[e]at c;refine⟨dv (zc0 (atM a i j)),Cn_kI kx c,qbo (zw9 (hs.la r' hr' _ hx')).2.2.2.2,?_⟩;have:=sm_sz hs kt hr' hx' kx;rw[Rat.mul_comm];exact this
 refine qa2 hk hc.v (fun r hr y hy=>?_) kd.k (fun s h8=>(zwb vd he kd h8).mono h20) (fun q hq r hr y hy=>?_) hp
 .obtain⟨B,h1,h2,_⟩:=hx r hr y hy;exact h1.mono h2
 .obtain⟨B,h1,_,h3⟩:=hx r hr y hy;exact qb3 kd h1 h3 hq (pwF (by decide) (by decide))
