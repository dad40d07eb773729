/- matexp.both of a matrix of at most three rows that is not great is known. -/
import Derived.Test.YtbolipecnhlnnaaGreatDoorTNi
set_option linter.unusedVariables false
set_option linter.unusedSimpArgs false
open List renaming getElem?_eq_some_iff->q0,mem_of_getElem?->q1,take_add_one->q2,getElem?_of_mem->q3,getElem?_eq_none_iff->q4,any_eq_true->q5,mem_cons_of_mem->q8
open Rat renaming le_trans->q6,natCast_le_natCast->q7,natCast_nonneg->q9,le_refl->qA
namespace Go.Proofs.YtbolipecnhlnnaaGreatDoor
open Go Go.Sx
set_option maxRecDepth 100000
set_option maxHeartbeats 4000000
theorem zy5 {p:Int} (hp:pcB p=true) (hp2:11<=p): ∀(r:List Iv) (s:Dy) (c:Nat),(∀x∈r,kI (pw 4) x)->VD s->dv s<=(c:Rat)->c+16*r.length<=2000-> ∃S,zfr p r s=some S/\VD S/\dv S<=((c+16*r.length:Nat):Rat)
 | [],s,c,_,hs,h1,_=>⟨s,rfl,hs,by simpa using h1⟩
 |x::r,s,c,hx,hs,h1,hc=>by
  have hb:=hx x (by simp);have k:=hb.k;have hm:=(ztm hb.b k).2.1;have e16:pw 4=((16:Nat):Rat):=qv 4;rw[e16]at hm;simp only[List.length_cons]at hc⊢;have hF:=qgw (p:=p.toNat) (by omega) (c:=c+16) (by omega);have R1:=(zb0 hs (zi7 k) (vl hp)).2.2 (((c+16:Nat)):Rat) (.inl hF) (by show dv s+dv (zc3 x)<=_;rw[Rat.natCast_add];grind);obtain⟨S,h2,h3,h4⟩:=zy5 hp hp2 r _ (c+16) (fun q hq=>hx q (q8 _ hq)) (zd9 _ _ _ _ (vl hp)) R1.2 (by omega);refine⟨S,?_,h3,by rw[show c+16*(r.length+1)=c+16+16*r.length by omega];exact h4⟩;unfold zfr;rw[Z4 ⟨(qh k.ri).2 k,R1.1⟩];exact h2
theorem qfw {p:Int} (hp:pcB p=true) (hp2:11<=p): ∀(m:Mx) (D:Dy),(∀r∈m,r.length<=3/\ ∀x∈r,kI (pw 4) x)->dv D<=((48:Nat):Rat)-> ∃E,nmG p m D=some E/\dv E<=((48:Nat):Rat)
 | [],D,_,h=>⟨D,rfl,h⟩
 |l::m,D,h,hD=>by
  obtain⟨h1,h2⟩:=h l (by simp);obtain⟨S,e1,_,e2⟩:=zy5 hp hp2 l d0 0 h2 qa (by rw[xq];exact q9) (by omega);have e3:dv S<=((48:Nat):Rat):=q6 e2 (q7.2 (by omega));unfold nmG;rw[e1];refine qfw hp hp2 m _ (fun l hl=>h l (q8 _ hl)) ?_;show dv (if 0<qd S D then S else D)<=_;split
  .exact e3
  .exact hD
theorem qa9 {k:Nat} (hk:k<=2) {a:Mx} (va:VM (k+1) (k+1) a) (hel: ∀r∈a,∀x∈r,kI (pw 20) x) {t:Iv} (kt:KI t) (hhalf: ∀s:Nat,s<=8->kI (pw 20) (qb t (-(s:Int)))) (hprod: ∀q,pcB q=true-> ∀r∈a,∀x∈r,kI (pw 4) (jr t x q)) {p:Int} (hp:pcB p=true):
 ∃w,zkp a t p=some w:=by
 have hp2:8<=p/\p<=512:=by
  obtain⟨q,rfl,hq⟩:=uu.1 hp;omega
 have hq:pcB (min (p+40) 512)=true:=by unfold pcB;simp;omega
 have hq2:11<=min (p+40) 512:=by omega
 generalize hqq:min (p+40) 512=q at*;have vsc0:=za5 va (.inl kt) hq;have hsc:scM a t q=xk (fun _ _ y=>jr t y q) a:=by
  unfold scM;rw[Z4 (by rw[va.ok,(jf kt.ri).2 (.inl kt),hq];rfl)]
 obtain⟨E,hE,hE48⟩:=qfw hq hq2 (scM a t q) d0 (fun r hr=>⟨by rw[vsc0.row r hr];omega,fun x hx=>by
  rw[hsc]at hr;obtain⟨i,r0,_,hr0,rfl⟩:=jl hr;obtain⟨j,x0,_,hx0,rfl⟩:=jl hx;exact hprod q hq r0 hr0 x0 hx0⟩) (by rw[xq];exact q9)
 have hN:nmM (scM a t q) q=(E,true):=by
  unfold nmM;rw[Z4 (by rw[vsc0.ok,hq];rfl),hE]
 have hN':nmM (scM a t (min (p+40) 512)) (min (p+40) 512)=(E,true):=by rw[hqq];exact hN
 have hnd:=zjy (a:=scM a t q) (p:=q) vsc0.el;rw[hN]at hnd;have hnd2:0<=dv E:=hnd.2;have hE6:dv E<=pw 6:=by
  have:pw 6=((64:Nat):Rat):=qv 6;rw[this];exact q6 hE48 (q7.2 (by decide))
 have hcmp: ¬(0<qd E (ux 256)):=fun c=>by
  have:=(za2 E (ux 256)).2.1.1 c;rw[ji]at this;have h8:((256:Int):Rat)=pw 8:=(qv 8).symm;rw[h8]at this;have:=zal.2 (show(6:Int)<=8 by decide);grind
 have htop:=qet hnd2 hE6 (by decide);rw[zko hN',Z5 (by simp;omega),hqq];have hs0:((hvS E).toNat :Int)=hvS E:=by unfold hvS;omega
 have hs8:(hvS E).toNat <=8:=by unfold hvS;omega
 have hbd:=znx va kt hq hN;rw[<-hs0]at hbd;generalize (hvS E).toNat =s at*;have hh:=hhalf s hs8;have vh:VI (qb t (-(s:Int))):= .inl hh.k;have vsc:=za5 va vh hq;have hm:kM k (-1) (scM a (qb t (-(s:Int))) q):=by
  refine⟨vsc,fun i j hi hj=>?_⟩;rw[zx8 va vh hq hi hj];obtain⟨r,hr1,hr2,_,hr4⟩:=zya va hi hj;refine zt0 (hbd r hr2 _ (q1 hr4)) ?_;exact(zgy hh (hel r hr2 _ (q1 hr4)) hq (by rw[<-pwA];exact pwF (by decide) (by decide))).k.all
 have hknown: ∀r∈scM a (qb t (-(s:Int))) q,∀w∈r,kI (pw (-1)) w:=fun r hr w hw=>by
  obtain⟨i,hi⟩:=q3 hr;obtain⟨j,hj⟩:=q3 hw;have hil:=(q0.1 hi).1;have hjl:=(q0.1 hj).1;rw[vsc.len]at hil;rw[vsc.row r hr]at hjl;have:=hm.e i j hil hjl;rw[zfj hi hj]at this;exact this
 obtain⟨D,hD⟩:=qft vsc hknown hq;have hDle:dv D<=pw 1:=by
  have h1:nmG q (scM a (qb t (-(s:Int))) q) d0=some D:=by
   unfold nmM at hD;rw[Z4 (by rw[vsc.ok,hq];rfl)]at hD;split at hD
   .rename_i d hd;cases hD;exact hd
   .cases hD
  have h2:=zwv hq (k:=k+1) (by omega) _ d0 D (fun r hr=>⟨vsc.row r hr,fun w hw=>(hknown r hr w hw).b⟩) (by rw[xq];exact zbj _ _) h1;have h3:vN (k+1) (-1)<=vN 4 (-1):=yf.2 (by omega);have h4:vN 4 (-1)=pw 1:=zcl 2 (-1);rw[h4]at h3;exact q6 h2 h3
 have hDv:=zjy (a:=scM a (qb t (-(s:Int))) q) (p:=q) vsc.el;have hu:kI (pw 1) (zc (nmM (scM a (qb t (-(s:Int))) q) q).1):=by
  rw[hD]at hDv⊢;refine⟨zc2 hDv.1,?_,hDle⟩;have:=zcf 1;have h0:0<=dv D:=hDv.2;show-pw 1<=dv D;grind
 obtain⟨m1,m2⟩:=qgp hk hm (H:=20) (by decide) hh hq hq2 hu;obtain⟨C,hC,w1,w2⟩:=ztz hk hq s (20+12) _ (by decide) (by
  have:(2:Int)^s<=2^8:=by
   have:=Nat.pow_le_pow_right (show 0<2 by decide) hs8;have e:((2^s:Nat):Int)=(2:Int)^s:=by simp
   have e2:((2^8:Nat):Int)=(2:Int)^8:=by simp
   rw[<-e,<-e2];omega
  have:(20+12+3)*(2:Int)^s<=(20+12+3)*2^8:=Int.mul_le_mul_of_nonneg_left this (by decide);omega) m1 m2
 unfold qc9;simp only;rw[qgl ⟨by omega,by omega⟩ w1 hp,qgl ⟨by omega,by omega⟩ w2 hp];exact⟨_,rfl⟩
theorem qfy {d:Dy} (h:VD d) (h0:0<=dv d):d.neg=false:=by
 cases hn:d.neg with
 |false=>rfl
 |true=>
  rcases h.ok with ⟨_,h1,_⟩|⟨h1,_⟩
  .rw[hn]at h1;cases h1
  .have:0<vN (nm d) d.e:=zyn d.e (by omega);unfold dv at h0;rw[Z4 hn]at h0;grind
theorem zo3 (a b:Dy):dv a<=dv (zii a b)/\dv b<=dv (zii a b)/\(zii a b=a\/zii a b=b):=xg a b
theorem qh6 {a b:Dy} (ha:VD a) (hb:VD b):VD (zii a b):=zey ha hb
theorem zvg {x:Iv} (k:KI x):VD (zed x):=qh6 (zd8 k.lo) k.hi
theorem zj3 {x:Iv} (k:KI x):0<=dv (zed x)/\ -dv (zed x)<=dv x.lo/\dv x.lo<=dv (zed x)/\ -dv (zed x)<=dv x.hi/\dv x.hi<=dv (zed x):=by
 obtain⟨h1,h2,_⟩:=zo3 (yn x.lo) x.hi;rw[zcn]at h1;have h3:=k.dle;have e:zed x=zii (yn x.lo) x.hi:=rfl;rw[e];generalize dv (zii (yn x.lo) x.hi)=M at*;refine⟨by grind,by grind,by grind,by grind,by grind⟩
def nrB (x:Iv):Bool:=decide (qd (zed x) (cnN false 1 20)<=0)
def zbq (x:Iv):Bool:=decide (3<x.lo.m.length)||decide (3<x.hi.m.length)||decide (x.lo.e< -80)||decide (x.hi.e< -80)|| !nrB x
def zfe (x:Iv):Nat:=nm (zed x)*2^((zed x).e +80).toNat
theorem ztp {x:Iv} (h:zbq x=false):x.lo.m.length<=3/\x.hi.m.length<=3/\ -80<=x.lo.e/\ -80<=x.hi.e/\nrB x=true:=by
 unfold zbq at h;simp only[Bool.or_eq_false_iff,Z3,Bool.not_eq_false']at h;obtain⟨⟨⟨⟨h1,h2⟩,h3⟩,h4⟩,h5⟩:=h;exact⟨by omega,by omega,by omega,by omega,h5⟩
theorem qb0 {x:Iv} (h:nrB x=true):dv (zed x)<=pw 20:=by
 unfold nrB at h;have h:=ju.1 (Z0 h);rw[zbe,Z5 (by simp),zkx]at h;exact h
theorem zdr {x:Iv} (k:KI x) (h:zbq x=false):zed x=cnN false (zfe x) (-80)/\zfe x<=2^100:=by
 obtain⟨_,_,h3,h4,h5⟩:=ztp h;have h6:=qb0 h5;have v:=zvg k;have n:=qfy v (zj3 k).1;have he: -80<=(zed x).e :=by
  rcases(zo3 (yn x.lo) x.hi).2.2 with e|e
  .have e:zed x=yn x.lo:=e;rw[e];unfold yn;split
   .decide
   .exact h3
  .have e:zed x=x.hi:=e;rw[e];exact h4
 have hc:=v.canon;have hd:dv (zed x)=vN (zfe x) (-80):=by
  unfold dv zfe;rw[Z5 (by rw[n];simp),xv]
  congr 1
  omega
 refine⟨?_,?_⟩
 .unfold zfe;rw[zho,show(-80:Int)+(((zed x).e +80).toNat :Nat)=(zed x).e by omega];rw[n]at hc;exact hc
 .rw[hd]at h6;have:pw 20=vN (2^100) (-80):=by rw[zcl];rfl
  rw[this]at h6;exact yf.1 h6
theorem zwo (d:Dy):inI (dv d) (zc d):= .inr ⟨qA,qA⟩
theorem VD_c {n:Nat} {e:Int} (h:n<2^250) (he: -1000<=e/\e<=1000):VD (cnN false n e):=by
 have:=ww.2 h;exact zi8 (zil (by omega) (by omega) (by omega))
theorem qfv {n:Nat} {e:Int} (h:n≠0):nm (cnN false n e)≠0:=by
 obtain⟨a,_,h1,h2,_⟩:=zan h;rw[zze,h2];omega
theorem sum_c {n m:Nat} {e:Int}:zje (cnN false n e) (cnN false m e)=cnN false (n+m) e:=by
 by_cases hn:n=0
 .subst hn;have:cnN false 0 e=d0:=rfl;rw[this,Nat.zero_add];unfold zje;rw[Z4 zjx]
 by_cases hm:m=0
 .subst hm;have h0:cnN false 0 e=d0:=rfl;rw[h0,Nat.add_zero];unfold zje;rw[Z5 (qfv hn),Z4 zjx]
 obtain⟨a,ha,ha1,ha2,_⟩:=zan hn;obtain⟨b,hb,hb1,hb2,_⟩:=zan hm;have e1:cnN false n e=⟨false,toL a,e+tz n⟩:=by unfold cnN;rw[Z5 hn,ha2]
 have e2:cnN false m e=⟨false,toL b,e+tz m⟩:=by unfold cnN;rw[Z5 hm,hb2]
 rw[e1,e2];unfold zje;rw[Z5 (by rw[yj];omega),Z5 (by rw[yj];omega),yj,yj,Z4 rfl];obtain⟨k,p,q,h1,h2,h3,h4,h5⟩: ∃k p q:Nat,tz n=p+k/\tz m=q+k/\min (e+(tz n:Int)) (e+(tz m:Int))=e+(k:Int)/\(e+(tz n:Int)-(e+(k:Int))).toNat =p/\(e+(tz m:Int)-(e+(k:Int))).toNat =q:=by
  refine⟨min (tz n) (tz m),tz n-min (tz n) (tz m),tz m-min (tz n) (tz m),by omega,by omega,by omega,by omega,by omega⟩
 have e3:n+m=(a*2^p+b*2^q)*2^k:=by
  conv=>lhs;rw[ha,hb]
  rw[h1,h2,Nat.add_mul,Nat.mul_assoc,Nat.mul_assoc,<-Nat.pow_add,<-Nat.pow_add]
 show cnN false (a*2^(e+(tz n:Int)-min (e+(tz n:Int)) (e+(tz m:Int))).toNat +b*2^(e+(tz m:Int)-min (e+(tz n:Int)) (e+(tz m:Int))).toNat) (min (e+(tz n:Int)) (e+(tz m:Int)))=_;rw[h3,h4,h5,e3,zho]
theorem prd_c {n m:Nat} {e f:Int}:cnN ((cnN false n e).neg != (cnN false m f).neg) (nm (cnN false n e)*nm (cnN false m f)) ((cnN false n e).e +(cnN false m f).e)=cnN false (n*m) (e+f):=by
 by_cases hn:n=0
 .subst hn;have:cnN false 0 e=d0:=rfl;rw[this,zjx,Nat.zero_mul,Nat.zero_mul];rfl
 by_cases hm:m=0
 .subst hm;have:cnN false 0 f=d0:=rfl;rw[this,zjx,Nat.mul_zero,Nat.mul_zero];rfl
 obtain⟨a,ha,_,ha2,_⟩:=zan hn;obtain⟨b,hb,_,hb2,_⟩:=zan hm;have e1:cnN false n e=⟨false,toL a,e+tz n⟩:=by unfold cnN;rw[Z5 hn,ha2]
 have e2:cnN false m f=⟨false,toL b,f+tz m⟩:=by unfold cnN;rw[Z5 hm,hb2]
 rw[e1,e2,yj,yj];show cnN false (a*b) (e+tz n+(f+tz m))=_;have:n*m=a*b*2^(tz n+tz m):=by
  conv=>lhs;rw[ha,hb]
  rw[Nat.pow_add];generalize 2^tz n=p;generalize 2^tz m=q;grind
 rw[this,zho]
 congr 1
 omega
def rwS (r:List Iv) (j:Nat):Nat:=((r.take j).map zfe).sum
theorem rwS_0 (r:List Iv):rwS r 0=0:=rfl
theorem qbh {r:List Iv} {j:Nat} {x:Iv} (h:r[j]? =some x):rwS r (j+1)=rwS r j+zfe x:=by
 unfold rwS;rw[q2,h];simp
def szM (a:Mx) (i:Nat):Nat:=((a.take i).map fun r=>rwS r r.length).foldl max 0
theorem qau {a:Mx} {i:Nat} {r:List Iv} (h:a[i]? =some r):szM a (i+1)=max (szM a i) (rwS r r.length):=by
 unfold szM;rw[q2,h];simp
theorem zso {r:List Iv} {B:Nat} (h: ∀x∈r,zfe x<=B): ∀j,rwS r j<=j*B
 |0=>by rw[rwS_0];exact Nat.zero_le _
 |j+1=>by
  have h1:=zso h j;rw[Nat.succ_mul]
  cases hg:r[j]? with
  |none=>
   have e:rwS r (j+1)=rwS r j:=by unfold rwS;rw[q2,hg];simp
   rw[e];exact Nat.le_trans h1 (Nat.le_add_right _ _)
  |some x=>
   rw[qbh hg];exact Nat.add_le_add h1 (h x (q1 hg))
theorem zsp {r:List Iv}: ∀(j:Nat) (i:Nat) (x:Iv),r[i]? =some x->i<j->zfe x<=rwS r j
 |0,_,_,_,h=>absurd h (by omega)
 |j+1,i,x,hx,h=>by
  cases hg:r[j]? with
  |none=>
   have h1:=(q0.1 hx).1;have h2:=q4.1 hg;have e:rwS r (j+1)=rwS r j:=by unfold rwS;rw[q2,hg];simp
   rw[e];exact zsp j i x hx (by omega)
  |some y=>
   rw[qbh hg];by_cases c:i<j
   .have:=zsp j i x hx c;omega
   .have:i=j:=by omega
    subst this;rw[hx]at hg;cases hg
    omega
theorem zrx {a:Mx}: ∀(i:Nat) (k:Nat) (r:List Iv),a[k]? =some r->k<i->rwS r r.length<=szM a i
 |0,_,_,_,h=>absurd h (by omega)
 |i+1,k,r,hr,h=>by
  cases hg:a[i]? with
  |none=>
   have h1:=(q0.1 hr).1;have h2:=q4.1 hg;have e:szM a (i+1)=szM a i:=by unfold szM;rw[q2,hg];simp
   rw[e];exact zrx i k r hr (by omega)
  |some y=>
   rw[qau hg];by_cases c:k<i
   .have:=zrx i k r hr c;omega
   .have:k=i:=by omega
    subst this;rw[hr]at hg;cases hg
    omega
theorem zrw {a:Mx} (h: ∀r∈a,r.length<=3/\ ∀x∈r,zfe x<=2^100): ∀i,szM a i<=3*2^100
 |0=>Nat.zero_le _
 |i+1=>by
  have:=zrw h i
  cases hg:a[i]? with
  |none=>
   have e:szM a (i+1)=szM a i:=by unfold szM;rw[q2,hg];simp
   rw[e];omega
  |some r=>
   rw[qau hg];obtain⟨h1,h2⟩:=h r (q1 hg);have h3:=zso h2 r.length;have:r.length*2^100<=3*2^100:=Nat.mul_le_mul_right _ h1;omega
theorem cmp_c {n m:Nat} {e:Int}:0<qd (cnN false n e) (cnN false m e)<->m<n:=by
 rw[(za2 _ _).2.1,zbe,zbe,Z5 (by simp),Z5 (by simp),zmt]
def zm3 (a:Mx) (t:Iv) (ls:List (List Iv)):Bool:=
 decide (a.length<=3)&&(zi2 a t 24&&(!zbq t&&(!(a.any fun r=>r.any zbq)&&(ls.all (fun l=>bvB l&&(decide (l.length=a.length)&& !(l.any zbq)))&&decide (qd (cnN false (szM a a.length*zfe t) (-160)) (ux 16)<=0)))))
structure SmM (a:Mx) (t:Iv):Prop where
 n3:a.length<=3
 cas:zi2 a t 24=true
 lt:zbq t=false
 la: ∀r∈a,∀x∈r,zbq x=false
 sz:qd (cnN false (szM a a.length*zfe t) (-160)) (ux 16)<=0
theorem sm_ok {a:Mx} {t:Iv} {ls:List (List Iv)} (h:zm3 a t ls=true):SmM a t/\ ∀l∈ls,bvB l=true/\l.length=a.length/\ ∀x∈l,zbq x=false:=by
 unfold zm3 at h;simp only[Bool.and_eq_true,Z2,Bool.not_eq_true',List.all_eq_true]at h;obtain⟨h1,h2,h3,h4,h5,h6⟩:=h;refine⟨⟨h1,h2,h3,fun r hr x hx=>?_,h6⟩,fun l hl=>?_⟩
 .cases hb:zbq x with
  |false=>rfl
  |true=>
   have:(a.any fun r=>r.any zbq)=true:=q5.2 ⟨r,hr,q5.2 ⟨x,hx,hb⟩⟩;rw[h4]at this;cases this
 .obtain⟨g1,g2,g3⟩:=h5 l hl;refine⟨g1,g2,fun x hx=>?_⟩
  cases hb:zbq x with
  |false=>rfl
  |true=>
   have:l.any zbq=true:=q5.2 ⟨x,hx,hb⟩;rw[g3]at this;cases this
theorem qe7 {a:Mx} {t:Iv} (h:SmM a t) (kt:KI t) {r:List Iv} (hr:r∈a) {x:Iv} (hx:x∈r) (kx:KI x):dv (zed x)*dv (zed t)<=pw 4:=by
 obtain⟨c1,c2⟩:=zdr kt h.lt;obtain⟨d1,d2⟩:=zdr kx (h.la r hr x hx);have hs:=ju.1 h.sz;rw[zbe,Z5 (by simp),ji]at hs;have h4:((16:Int):Rat)=pw 4:=(qv 4).symm;rw[h4]at hs;obtain⟨i,hi⟩:=q3 hr;obtain⟨j,hj⟩:=q3 hx;have g1:=zsp r.length j x hj (q0.1 hj).1;have g2:=zrx a.length i r hi (q0.1 hi).1;rw[c1,d1,zbe,zbe,Z5 (by simp),Z5 (by simp),zrj];refine q6 (yf.2 ?_) hs;exact Nat.mul_le_mul_right _ (Nat.le_trans g1 g2)
theorem qcf {B C D:Rat} {x y:Iv} (hx:kI B x) (hy:kI C y) (hD:B*C<=D) {p:Int} (hp:pcB p=true) (hF:inF p.toNat D):kI D (jr x y p):=by
 obtain⟨⟨a1,a2⟩,⟨a3,a4⟩⟩:=hx.b.ends hx.k;obtain⟨⟨b1,b2⟩,⟨b3,b4⟩⟩:=hy.b.ends hy.k;have w: ∀z:Rat,-(B*C)<=z/\z<=B*C-> -D<=z/\z<=D:=fun z h=>by constructor<;>grind
 have hv:=wx (.inl hx.k:VI x) (.inl hy.k:VI y) hp;rw[zih hx.k hy.k hp]at hv⊢;have f:=zlm hx.k hy.k (vl hp);have hq:zl2 (fun u v=>u*v) x y (fun z=> -D<=z/\z<=D):=⟨w _ (ul a1 a2 b1 b2),w _ (ul a1 a2 b3 b4),w _ (ul a3 a4 b1 b2),w _ (ul a3 a4 b3 b4)⟩;have ha:=qdp f hF hq;have hb:=zq6 f hF hq ha;exact⟨(yt hv).1 ha,hb.1,hb.2⟩
theorem qia {k:Nat} (hk:k<=2) {a b:Mx} (va:VM (k+1) (k+1) a) (vb:VM (k+1) (k+1) b) (h: ∀i j,i<=k->j<=k->Mt (atM a i j) (atM b i j)):MtM a b:=by
 refine⟨by rw[va.len,vb.len],by rw[va.len];omega,fun i r r' hr hr'=>?_⟩;have hi:=(q0.1 hr).1;rw[va.len]at hi;have l1:=va.row r (q1 hr);have l2:=vb.row r' (q1 hr');refine⟨by rw[l1,l2],by rw[l1];omega,fun j w w' hw hw'=>?_⟩;have hj:=(q0.1 hw).1;rw[l1]at hj;have:=h i j (by omega) (by omega);rw[zfj hr hw,zfj hr' hw']at this;exact this
