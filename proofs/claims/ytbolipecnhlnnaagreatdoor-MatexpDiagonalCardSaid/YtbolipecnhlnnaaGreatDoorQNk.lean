/-
  matexp.both of a matrix of at most three rows that is not great is known.
-/
import Derived.Test.YtbolipecnhlnnaaGreatDoorQNi
import Derived.Test.YtbolipecnhlnnaaGreatDoorQRa
import Derived.Test.YtbolipecnhlnnaaGreatDoorQYl
import Derived.Test.YtbolipecnhlnnaaGreatDoorQMa
import Derived.Test.YtbolipecnhlnnaaGreatDoorQXa
set_option linter.unusedVariables false
set_option linter.unusedSimpArgs false
open List renaming getElem?_eq_some_iff->q2,mem_of_getElem?->q3,take_add_one->q4,getElem?_of_mem->q5,getElem?_eq_none_iff->q6,any_eq_true->q7,mem_cons_of_mem->qB
open Rat renaming le_trans->q9,natCast_le_natCast->qA,natCast_nonneg->qC,le_refl->qD
namespace Go.Proofs.YtbolipecnhlnnaaGreatDoor
open Go Go.Sx
set_option maxRecDepth 100000
set_option maxHeartbeats 4000000
theorem zyg {p:Int} (hp:pcB p=true) (hp2:11<=p): ∀(r:List Iv) (s:Dy) (c:Nat),(∀x∈r,kI (pw 4) x)->VD s->dv s<=(c:Rat)->c+16*r.length<=2000-> ∃S,zfl p r s=some S/\VD S/\dv S<=((c+16*r.length:Nat):Rat)
 | [],s,c,_,hs,h1,_=>⟨s,rfl,hs,by simpa using h1⟩
 |x::r,s,c,hx,hs,h1,hc=>by
  have hb:=hx x (by simp);have k:=hb.k;have hm:=(zo9 hb.b k).2.1;have e16:pw 4=((16:Nat):Rat):=wp 4;rw[e16]at hm;simp only[List.length_cons]at hc⊢;have hF:=qfm (p:=p.toNat) (by omega) (c:=c+16) (by omega);have R1:=(zby hs (xt k) (qu hp)).2.2 (((c+16:Nat)):Rat) (.inl hF) (by show dv s+dv (jd x)<=_;rw[Rat.natCast_add];grind);obtain⟨S,h2,h3,h4⟩:=zyg hp hp2 r _ (c+16) (fun q hq=>hx q (qB _ hq)) (ze5 _ _ _ _ (qu hp)) R1.2 (by omega);refine⟨S,?_,h3,by rw[show c+16*(r.length+1)=c+16+16*r.length by omega];exact h4⟩;unfold zfl;rw[if_pos ⟨(zy k.ri).2 k,R1.1⟩];exact h2
theorem qeq {p:Int} (hp:pcB p=true) (hp2:11<=p): ∀(m:Mx) (D:Dy),(∀r∈m,r.length<=3/\ ∀x∈r,kI (pw 4) x)->dv D<=((48:Nat):Rat)-> ∃E,nmG p m D=some E/\dv E<=((48:Nat):Rat)
 | [],D,_,h=>⟨D,rfl,h⟩
 |l::m,D,h,hD=>by
  obtain⟨h1,h2⟩:=h l (by simp);obtain⟨S,e1,_,e2⟩:=zyg hp hp2 l d0 0 h2 qc (by rw[ym];exact qC) (by omega);have e3:dv S<=((48:Nat):Rat):=q9 e2 (qA.2 (by omega));unfold nmG;rw[e1];refine qeq hp hp2 m _ (fun l hl=>h l (qB _ hl)) ?_;show dv (if 0<qe S D then S else D)<=_;split
  ·exact e3
  ·exact hD
theorem qah {k:Nat} (hk:k<=2) {a:Mx} (va:VM (k+1) (k+1) a) (hel: ∀r∈a,∀x∈r,kI (pw 20) x) {t:Iv} (kt:KI t) (hhalf: ∀s:Nat,s<=8->kI (pw 20) (zq t (-(s:Int)))) (hprod: ∀q,pcB q=true-> ∀r∈a,∀x∈r,kI (pw 4) (jh t x q)) {p:Int} (hp:pcB p=true):
 ∃w,zkh a t p=some w:=by
 have hp2:8<=p/\p<=512:=by
  obtain⟨q,rfl,hq⟩:=jz.1 hp;omega
 have hq:pcB (min (p+40) 512)=true:=by unfold pcB;simp;omega
 have hq2:11<=min (p+40) 512:=by omega
 generalize hqq:min (p+40) 512=q at*;have vsc0:=zar va (.inl kt) hq;have hsc:scM a t q=xc (fun _ _ y=>jh t y q) a:=by
  unfold scM;rw[if_pos (by rw[va.ok,(je kt.ri).2 (.inl kt),hq];rfl)]
 obtain⟨E,hE,hE48⟩:=qeq hq hq2 (scM a t q) d0 (fun r hr=>⟨by rw[vsc0.row r hr];omega,fun x hx=>by
  rw[hsc]at hr;obtain⟨i,r0,_,hr0,rfl⟩:=wz hr;obtain⟨j,x0,_,hx0,rfl⟩:=wz hx;exact hprod q hq r0 hr0 x0 hx0⟩) (by rw[ym];exact qC)
 have hN:nmM (scM a t q) q=(E,true):=by
  unfold nmM;rw[if_pos (by rw[vsc0.ok,hq];rfl),hE]
 have hN':nmM (scM a t (min (p+40) 512)) (min (p+40) 512)=(E,true):=by rw[hqq];exact hN
 have hnd:=zju (a:=scM a t q) (p:=q) vsc0.el;rw[hN]at hnd;have hnd2:0<=dv E:=hnd.2;have hE6:dv E<=pw 6:=by
  have:pw 6=((64:Nat):Rat):=wp 6;rw[this];exact q9 hE48 (qA.2 (by decide))
 have hcmp: ¬(0<qe E (za4 256)):=fun c=>by
  have:=(zbw E (za4 256)).2.1.1 c;rw[kv]at this;have h8:((256:Int):Rat)=pw 8:=(wp 8).symm;rw[h8]at this;have:=xx.2 (show(6:Int)<=8 by decide);grind
 have htop:=qdv hnd2 hE6 (by decide);rw[zkg hN',if_neg (by simp;omega),hqq];have hs0:((hvS E).toNat :Int)=hvS E:=by unfold hvS;omega
 have hs8:(hvS E).toNat <=8:=by unfold hvS;omega
 have hbd:=znt va kt hq hN;rw[←hs0]at hbd;generalize (hvS E).toNat =s at*;have hh:=hhalf s hs8;have vh:VI (zq t (-(s:Int))):= .inl hh.k;have vsc:=zar va vh hq;have hm:kM k (-1) (scM a (zq t (-(s:Int))) q):=by
  refine⟨vsc,fun i j hi hj=>?_⟩;rw[zxp va vh hq hi hj];obtain⟨r,hr1,hr2,_,hr4⟩:=zuw va hi hj;refine ztj (hbd r hr2 _ (q3 hr4)) ?_;exact(zgr hh (hel r hr2 _ (q3 hr4)) hq (by rw[←pwA];exact pwF (by decide) (by decide))).k.all
 have hknown: ∀r∈scM a (zq t (-(s:Int))) q,∀w∈r,kI (pw (-1)) w:=fun r hr w hw=>by
  obtain⟨i,hi⟩:=q5 hr;obtain⟨j,hj⟩:=q5 hw;have hil:=(q2.1 hi).1;have hjl:=(q2.1 hj).1;rw[vsc.len]at hil;rw[vsc.row r hr]at hjl;have:=hm.e i j hil hjl;rw[zes hi hj]at this;exact this
 obtain⟨D,hD⟩:=qen vsc hknown hq;have hDle:dv D<=pw 1:=by
  have h1:nmG q (scM a (zq t (-(s:Int))) q) d0=some D:=by
   unfold nmM at hD;rw[if_pos (by rw[vsc.ok,hq];rfl)]at hD;split at hD
   ·rename_i d hd;cases hD;exact hd
   ·cases hD
  have h2:=zwe hq (k:=k+1) (by omega) _ d0 D (fun r hr=>⟨vsc.row r hr,fun w hw=>(hknown r hr w hw).b⟩) (by rw[ym];exact zc4 _ _) h1;have h3:vN (k+1) (-1)<=vN 4 (-1):=yu.2 (by omega);have h4:vN 4 (-1)=pw 1:=zci 2 (-1);rw[h4]at h3;exact q9 h2 h3
 have hDv:=zju (a:=scM a (zq t (-(s:Int))) q) (p:=q) vsc.el;have hu:kI (pw 1) (zj (nmM (scM a (zq t (-(s:Int))) q) q).1):=by
  rw[hD]at hDv⊢;refine⟨zhq hDv.1,?_,hDle⟩;have:=za8 1;have h0:0<=dv D:=hDv.2;show-pw 1<=dv D;grind
 obtain⟨m1,m2⟩:=qfg hk hm (H:=20) (by decide) hh hq hq2 hu;obtain⟨C,hC,w1,w2⟩:=zti hk hq s (20+12) _ (by decide) (by
  have:(2:Int)^s<=2^8:=by
   have:=Nat.pow_le_pow_right (show 0<2 by decide) hs8;have e:((2^s:Nat):Int)=(2:Int)^s:=by simp
   have e2:((2^8:Nat):Int)=(2:Int)^8:=by simp
   rw[←e,←e2];omega
  have:(20+12+3)*(2:Int)^s<=(20+12+3)*2^8:=Int.mul_le_mul_of_nonneg_left this (by decide);omega) m1 m2
 unfold qce;simp only;rw[qfc ⟨by omega,by omega⟩ w1 hp,qfc ⟨by omega,by omega⟩ w2 hp];exact⟨_,rfl⟩
theorem qer {d:Dy} (h:VD d) (h0:0<=dv d):d.neg=false:=by
 cases hn:d.neg with
 |false=>rfl
 |true=>
  rcases h.ok with ⟨_,h1,_⟩|⟨h1,_⟩
  ·rw[hn]at h1;cases h1
  ·have:0<vN (nm d) d.e:=zx2 d.e (by omega);unfold dv at h0;rw[if_pos hn]at h0;grind
theorem zo4 (a b:Dy):dv a<=dv (zif a b)/\dv b<=dv (zif a b)/\(zif a b=a\/zif a b=b):=zbk a b
theorem qgy {a b:Dy} (ha:VD a) (hb:VD b):VD (zif a b):=zn3 ha hb
theorem zu3 {x:Iv} (k:KI x):VD (ze3 x):=qgy (zd4 k.lo) k.hi
theorem zs5 {x:Iv} (k:KI x):0<=dv (ze3 x)/\ -dv (ze3 x)<=dv x.lo/\dv x.lo<=dv (ze3 x)/\ -dv (ze3 x)<=dv x.hi/\dv x.hi<=dv (ze3 x):=by
 obtain⟨h1,h2,_⟩:=zo4 (uy x.lo) x.hi;rw[zck]at h1;have h3:=k.dle;have e:ze3 x=zif (uy x.lo) x.hi:=rfl;rw[e];generalize dv (zif (uy x.lo) x.hi)=M at*;refine⟨by grind,by grind,by grind,by grind,by grind⟩
def nrB (x:Iv):Bool:=decide (qe (ze3 x) (cnN false 1 20)<=0)
def zbo (x:Iv):Bool:=decide (3<x.lo.m.length)||decide (3<x.hi.m.length)||decide (x.lo.e< -80)||decide (x.hi.e< -80)|| !nrB x
def zfa (x:Iv):Nat:=nm (ze3 x)*2^((ze3 x).e +80).toNat
theorem qbb {x:Iv} (h:zbo x=false):x.lo.m.length<=3/\x.hi.m.length<=3/\ -80<=x.lo.e/\ -80<=x.hi.e/\nrB x=true:=by
 unfold zbo at h;simp only[Bool.or_eq_false_iff,decide_eq_false_iff_not,Bool.not_eq_false']at h;obtain⟨⟨⟨⟨h1,h2⟩,h3⟩,h4⟩,h5⟩:=h;exact⟨by omega,by omega,by omega,by omega,h5⟩
theorem qa4 {x:Iv} (h:nrB x=true):dv (ze3 x)<=pw 20:=by
 unfold nrB at h;have h:=kw.1 (of_decide_eq_true h);rw[zbv,if_neg (by simp),zkq]at h;exact h
theorem zdl {x:Iv} (k:KI x) (h:zbo x=false):ze3 x=cnN false (zfa x) (-80)/\zfa x<=2^100:=by
 obtain⟨_,_,h3,h4,h5⟩:=qbb h;have h6:=qa4 h5;have v:=zu3 k;have n:=qer v (zs5 k).1;have he: -80<=(ze3 x).e :=by
  rcases(zo4 (uy x.lo) x.hi).2.2 with e|e
  ·have e:ze3 x=uy x.lo:=e;rw[e];unfold uy;split
   ·decide
   ·exact h3
  ·have e:ze3 x=x.hi:=e;rw[e];exact h4
 have hc:=v.canon;have hd:dv (ze3 x)=vN (zfa x) (-80):=by
  unfold dv zfa;rw[if_neg (by rw[n];simp),zc3]
  congr 1
  omega
 refine⟨?_,?_⟩
 ·unfold zfa;rw[zhf,show(-80:Int)+(((ze3 x).e +80).toNat :Nat)=(ze3 x).e by omega];rw[n]at hc;exact hc
 ·rw[hd]at h6;have:pw 20=vN (2^100) (-80):=by rw[zci];rfl
  rw[this]at h6;exact yu.1 h6
theorem qej (d:Dy):inI (dv d) (zj d):= .inr ⟨qD,qD⟩
theorem VD_c {n:Nat} {e:Int} (h:n<2^250) (he: -1000<=e/\e<=1000):VD (cnN false n e):=by
 have:=yg.2 h;exact zmg (zii (by omega) (by omega) (by omega))
theorem qep {n:Nat} {e:Int} (h:n≠0):nm (cnN false n e)≠0:=by
 obtain⟨a,_,h1,h2,_⟩:=za0 h;rw[zyp,h2];omega
theorem sum_c {n m:Nat} {e:Int}:zja (cnN false n e) (cnN false m e)=cnN false (n+m) e:=by
 by_cases hn:n=0
 ·subst hn;have:cnN false 0 e=d0:=rfl;rw[this,Nat.zero_add];unfold zja;rw[if_pos zjt]
 by_cases hm:m=0
 ·subst hm;have h0:cnN false 0 e=d0:=rfl;rw[h0,Nat.add_zero];unfold zja;rw[if_neg (qep hn),if_pos zjt]
 obtain⟨a,ha,ha1,ha2,_⟩:=za0 hn;obtain⟨b,hb,hb1,hb2,_⟩:=za0 hm;have e1:cnN false n e=⟨false,toL a,e+tz n⟩:=by unfold cnN;rw[if_neg hn,ha2]
 have e2:cnN false m e=⟨false,toL b,e+tz m⟩:=by unfold cnN;rw[if_neg hm,hb2]
 rw[e1,e2];unfold zja;rw[if_neg (by rw[ux];omega),if_neg (by rw[ux];omega),ux,ux,if_pos rfl];obtain⟨k,p,q,h1,h2,h3,h4,h5⟩: ∃k p q:Nat,tz n=p+k/\tz m=q+k/\min (e+(tz n:Int)) (e+(tz m:Int))=e+(k:Int)/\(e+(tz n:Int)-(e+(k:Int))).toNat =p/\(e+(tz m:Int)-(e+(k:Int))).toNat =q:=by
  refine⟨min (tz n) (tz m),tz n-min (tz n) (tz m),tz m-min (tz n) (tz m),by omega,by omega,by omega,by omega,by omega⟩
 have e3:n+m=(a*2^p+b*2^q)*2^k:=by
  conv=>lhs;rw[ha,hb]
  rw[h1,h2,Nat.add_mul,Nat.mul_assoc,Nat.mul_assoc,←Nat.pow_add,←Nat.pow_add]
 show cnN false (a*2^(e+(tz n:Int)-min (e+(tz n:Int)) (e+(tz m:Int))).toNat +b*2^(e+(tz m:Int)-min (e+(tz n:Int)) (e+(tz m:Int))).toNat) (min (e+(tz n:Int)) (e+(tz m:Int)))=_;rw[h3,h4,h5,e3,zhf]
theorem prd_c {n m:Nat} {e f:Int}:cnN ((cnN false n e).neg != (cnN false m f).neg) (nm (cnN false n e)*nm (cnN false m f)) ((cnN false n e).e +(cnN false m f).e)=cnN false (n*m) (e+f):=by
 by_cases hn:n=0
 ·subst hn;have:cnN false 0 e=d0:=rfl;rw[this,zjt,Nat.zero_mul,Nat.zero_mul];rfl
 by_cases hm:m=0
 ·subst hm;have:cnN false 0 f=d0:=rfl;rw[this,zjt,Nat.mul_zero,Nat.mul_zero];rfl
 obtain⟨a,ha,_,ha2,_⟩:=za0 hn;obtain⟨b,hb,_,hb2,_⟩:=za0 hm;have e1:cnN false n e=⟨false,toL a,e+tz n⟩:=by unfold cnN;rw[if_neg hn,ha2]
 have e2:cnN false m f=⟨false,toL b,f+tz m⟩:=by unfold cnN;rw[if_neg hm,hb2]
 rw[e1,e2,ux,ux];show cnN false (a*b) (e+tz n+(f+tz m))=_;have:n*m=a*b*2^(tz n+tz m):=by
  conv=>lhs;rw[ha,hb]
  rw[Nat.pow_add];generalize 2^tz n=p;generalize 2^tz m=q;grind
 rw[this,zhf]
 congr 1
 omega
def rwS (r:List Iv) (j:Nat):Nat:=((r.take j).map zfa).sum
theorem rwS_0 (r:List Iv):rwS r 0=0:=rfl
theorem qap {r:List Iv} {j:Nat} {x:Iv} (h:r[j]? =some x):rwS r (j+1)=rwS r j+zfa x:=by
 unfold rwS;rw[q4,h];simp
def szM (a:Mx) (i:Nat):Nat:=((a.take i).map fun r=>rwS r r.length).foldl max 0
theorem zz3 {a:Mx} {i:Nat} {r:List Iv} (h:a[i]? =some r):szM a (i+1)=max (szM a i) (rwS r r.length):=by
 unfold szM;rw[q4,h];simp
theorem zsc {r:List Iv} {B:Nat} (h: ∀x∈r,zfa x<=B): ∀j,rwS r j<=j*B
 |0=>by rw[rwS_0];exact Nat.zero_le _
 |j+1=>by
  have h1:=zsc h j;rw[Nat.succ_mul]
  cases hg:r[j]? with
  |none=>
   have e:rwS r (j+1)=rwS r j:=by unfold rwS;rw[q4,hg];simp
   rw[e];exact Nat.le_trans h1 (Nat.le_add_right _ _)
  |some x=>
   rw[qap hg];exact Nat.add_le_add h1 (h x (q3 hg))
theorem zsd {r:List Iv}: ∀(j:Nat) (i:Nat) (x:Iv),r[i]? =some x->i<j->zfa x<=rwS r j
 |0,_,_,_,h=>absurd h (by omega)
 |j+1,i,x,hx,h=>by
  cases hg:r[j]? with
  |none=>
   have h1:=(q2.1 hx).1;have h2:=q6.1 hg;have e:rwS r (j+1)=rwS r j:=by unfold rwS;rw[q4,hg];simp
   rw[e];exact zsd j i x hx (by omega)
  |some y=>
   rw[qap hg];by_cases c:i<j
   ·have:=zsd j i x hx c;omega
   ·have:i=j:=by omega
    subst this;rw[hx]at hg;cases hg
    omega
theorem zrm {a:Mx}: ∀(i:Nat) (k:Nat) (r:List Iv),a[k]? =some r->k<i->rwS r r.length<=szM a i
 |0,_,_,_,h=>absurd h (by omega)
 |i+1,k,r,hr,h=>by
  cases hg:a[i]? with
  |none=>
   have h1:=(q2.1 hr).1;have h2:=q6.1 hg;have e:szM a (i+1)=szM a i:=by unfold szM;rw[q4,hg];simp
   rw[e];exact zrm i k r hr (by omega)
  |some y=>
   rw[zz3 hg];by_cases c:k<i
   ·have:=zrm i k r hr c;omega
   ·have:k=i:=by omega
    subst this;rw[hr]at hg;cases hg
    omega
theorem zrl {a:Mx} (h: ∀r∈a,r.length<=3/\ ∀x∈r,zfa x<=2^100): ∀i,szM a i<=3*2^100
 |0=>Nat.zero_le _
 |i+1=>by
  have:=zrl h i
  cases hg:a[i]? with
  |none=>
   have e:szM a (i+1)=szM a i:=by unfold szM;rw[q4,hg];simp
   rw[e];omega
  |some r=>
   rw[zz3 hg];obtain⟨h1,h2⟩:=h r (q3 hg);have h3:=zsc h2 r.length;have:r.length*2^100<=3*2^100:=Nat.mul_le_mul_right _ h1;omega
theorem cmp_c {n m:Nat} {e:Int}:0<qe (cnN false n e) (cnN false m e)<->m<n:=by
 rw[(zbw _ _).2.1,zbv,zbv,if_neg (by simp),if_neg (by simp),zmo]
def zmj (a:Mx) (t:Iv) (ls:List (List Iv)):Bool:=
 decide (a.length<=3)&&(ziz a t 24&&(!zbo t&&(!(a.any fun r=>r.any zbo)&&(ls.all (fun l=>bvB l&&(decide (l.length=a.length)&& !(l.any zbo)))&&decide (qe (cnN false (szM a a.length*zfa t) (-160)) (za4 16)<=0)))))
structure SmM (a:Mx) (t:Iv):Prop where
 n3:a.length<=3
 cas:ziz a t 24=true
 lt:zbo t=false
 la: ∀r∈a,∀x∈r,zbo x=false
 sz:qe (cnN false (szM a a.length*zfa t) (-160)) (za4 16)<=0
theorem sm_ok {a:Mx} {t:Iv} {ls:List (List Iv)} (h:zmj a t ls=true):SmM a t/\ ∀l∈ls,bvB l=true/\l.length=a.length/\ ∀x∈l,zbo x=false:=by
 unfold zmj at h;simp only[Bool.and_eq_true,decide_eq_true_eq,Bool.not_eq_true',List.all_eq_true]at h;obtain⟨h1,h2,h3,h4,h5,h6⟩:=h;refine⟨⟨h1,h2,h3,fun r hr x hx=>?_,h6⟩,fun l hl=>?_⟩
 ·cases hb:zbo x with
  |false=>rfl
  |true=>
   have:(a.any fun r=>r.any zbo)=true:=q7.2 ⟨r,hr,q7.2 ⟨x,hx,hb⟩⟩;rw[h4]at this;cases this
 ·obtain⟨g1,g2,g3⟩:=h5 l hl;refine⟨g1,g2,fun x hx=>?_⟩
  cases hb:zbo x with
  |false=>rfl
  |true=>
   have:l.any zbo=true:=q7.2 ⟨x,hx,hb⟩;rw[g3]at this;cases this
theorem sm_sz {a:Mx} {t:Iv} (h:SmM a t) (kt:KI t) {r:List Iv} (hr:r∈a) {x:Iv} (hx:x∈r) (kx:KI x):dv (ze3 x)*dv (ze3 t)<=pw 4:=by
 obtain⟨c1,c2⟩:=zdl kt h.lt;obtain⟨d1,d2⟩:=zdl kx (h.la r hr x hx);have hs:=kw.1 h.sz;rw[zbv,if_neg (by simp),kv]at hs;have h4:((16:Int):Rat)=pw 4:=(wp 4).symm;rw[h4]at hs;obtain⟨i,hi⟩:=q5 hr;obtain⟨j,hj⟩:=q5 hx;have g1:=zsd r.length j x hj (q2.1 hj).1;have g2:=zrm a.length i r hi (q2.1 hi).1;rw[c1,d1,zbv,zbv,if_neg (by simp),if_neg (by simp),zra];refine q9 (yu.2 ?_) hs;exact Nat.mul_le_mul_right _ (Nat.le_trans g1 g2)
theorem qbl {B C D:Rat} {x y:Iv} (hx:kI B x) (hy:kI C y) (hD:B*C<=D) {p:Int} (hp:pcB p=true) (hF:inF p.toNat D):kI D (jh x y p):=by
 obtain⟨⟨a1,a2⟩,⟨a3,a4⟩⟩:=hx.b.ends hx.k;obtain⟨⟨b1,b2⟩,⟨b3,b4⟩⟩:=hy.b.ends hy.k;have w: ∀z:Rat,-(B*C)<=z/\z<=B*C-> -D<=z/\z<=D:=fun z h=>by constructor<;>grind
 have hv:=wq (.inl hx.k:VI x) (.inl hy.k:VI y) hp;rw[zlc hx.k hy.k hp]at hv⊢;have f:=zld hx.k hy.k (qu hp);have hq:zlv (fun u v=>u*v) x y (fun z=> -D<=z/\z<=D):=⟨w _ (uf a1 a2 b1 b2),w _ (uf a1 a2 b3 b4),w _ (uf a3 a4 b1 b2),w _ (uf a3 a4 b3 b4)⟩;have ha:=qct f hF hq;have hb:=zqz f hF hq ha;exact⟨(yt hv).1 ha,hb.1,hb.2⟩
theorem at_el {n k:Nat} {m:Mx} (v:VM n k m) {i j:Nat} (hi:i<n) (hj:j<k): ∃r∈m,atM m i j∈r:=by
 obtain⟨r,h1,h2,_,h4⟩:=zuw v hi hj;exact⟨r,h2,q3 h4⟩
end Go.Proofs.YtbolipecnhlnnaaGreatDoor
