/- matexp.both of a matrix of at most three rows that is not great is known. -/
import Derived.Test.YtbolipecnhlnnaaGreatDoorLNi
set_option linter.all false
open List renaming getElem?_eq_some_iff->q0,take_add_one->q1,mem_of_getElem?->q2,getElem?_eq_none_iff->q3,any_eq_true->q4,mem_cons_of_mem->q5,getElem?_of_mem->q6
namespace Go.Proofs.YtbolipecnhlnnaaGreatDoor
open Go Go.Sx
set_option maxRecDepth 100000
set_option maxHeartbeats 4000000
theorem qag{p:Int}(hp:pcB p=true)(hp2:11<=p):∀(r:List Iv)(s:Dy)(c:Nat),(∀x∈r,kI (pw 4) x)->VD s->dv s<=(c:Rat)->c+16*r.length<=2000->∃S,zgi p r s=some S/\VD S/\dv S<=((c+16*r.length:Nat):Rat)
 | [],s,c,_,hs,h1,_=>⟨s,rfl,hs,by simpa using h1⟩
 |x::r,s,c,hx,hs,h1,hc=>by
  have hb:=hx x OC;have k:=hb.k;have hm:=(zub hb.b k).2.1;have e16:pw 4=((16:Nat):Rat):=wq 4;rw[e16]at hm;simp only[List.length_cons]at hc⊢;have hF:=qh0 (p:=p.toNat) O (c:=c+16) O;have R1:=(za6 hs (zjx k) (vg hp)).2.2 (((c+16:Nat)):Rat) (.inl hF) (by show dv s+dv (zdn x)<=_;rw[Rat.natCast_add];grind);obtain⟨S,h2,h3,h4⟩:=qag hp hp2 r _ (c+16) (fun q hq=>hx q (q5 _ hq)) (zdb _ _ _ _ (vg hp)) R1.2 O;refine⟨S,?_,h3,by rw[(O:c+16*(r.length+1)=c+16+16*r.length)];exact h4⟩;unfold zgi;rw[Z4 ⟨(qb k.ri).2 k,R1.1⟩];exact h2
theorem qg4{p:Int}(hp:pcB p=true)(hp2:11<=p):∀(m:Mx)(D:Dy),(∀r∈m,r.length<=3/\∀x∈r,kI (pw 4) x)->dv D<=((48:Nat):Rat)->∃E,nmG p m D=some E/\dv E<=((48:Nat):Rat)
 | [],D,_,h=>⟨D,rfl,h⟩
 |l::m,D,h,hD=>by
  obtain⟨h1,h2⟩:=h l OC;obtain⟨S,e1,_,e2⟩:=qag hp hp2 l d0 0 h2 qf (by rw[uw];exact Rat.natCast_nonneg) O;have e3:dv S<=((48:Nat):Rat):=Rat.le_trans e2 (Rat.natCast_le_natCast.2 O);unfold nmG;rw[e1];refine qg4 hp hp2 m _ (fun l hl=>h l (q5 _ hl)) ?_;show dv (if 0<qh S D then S else D)<=_;split
  .exact e3
  .exact hD
theorem qg5{d:Dy}(h:VD d)(h0:0<=dv d):d.neg=false:=by
 cases hn:d.neg with
 |false=>rfl
 |true=>
  rcases h.ok with ⟨_,h1,_⟩|⟨h1,_⟩
  .rw[hn]at h1;cases h1
  .have:0<vN (nm d) d.e:=ziw d.e O;unfold dv at h0;rw[Z4 hn]at h0;grind
theorem zgm(a b:Dy):dv a<=dv (zc5 a b)/\dv b<=dv (zc5 a b)/\(zc5 a b=a\/zc5 a b=b):=zb3 a b
theorem qjb{a b:Dy}(ha:VD a)(hb:VD b):VD (zc5 a b):=zid ha hb
theorem zwd{x:Iv}(k:KI x):VD (zbn x):=qjb (ze1 k.lo) k.hi
theorem zaj{x:Iv}(k:KI x):0<=dv (zbn x)/\ -dv (zbn x)<=dv x.lo/\dv x.lo<=dv (zbn x)/\ -dv (zbn x)<=dv x.hi/\dv x.hi<=dv (zbn x):=by
 obtain⟨h1,h2,_⟩:=zgm (jm x.lo) x.hi;rw[za4]at h1;have h3:=k.dle;have e:zbn x=zc5 (jm x.lo) x.hi:=rfl;rw[e];generalize dv (zc5 (jm x.lo) x.hi)=M at*;refine⟨by grind,by grind,by grind,by grind,by grind⟩
def nrB(x:Iv):Bool:=decide (qh (zbn x) (cnN false 1 20)<=0)
def zal(x:Iv):Bool:=decide (3<x.lo.m.length)||decide (3<x.hi.m.length)||decide (x.lo.e< -80)||decide (x.hi.e< -80)|| !nrB x
def zak(x:Iv):Nat:=nm (zbn x)*2^((zbn x).e +80).toNat
theorem zrf{x:Iv}(h:zal x=false):x.lo.m.length<=3/\x.hi.m.length<=3/\ -80<=x.lo.e/\ -80<=x.hi.e/\nrB x=true:=by
 unfold zal at h;simp only[Bool.or_eq_false_iff,Z3,Bool.not_eq_false']at h;obtain⟨⟨⟨⟨h1,h2⟩,h3⟩,h4⟩,h5⟩:=h;exact⟨O,O,O,O,h5⟩
theorem zt1{x:Iv}(h:nrB x=true):dv (zbn x)<=pw 20:=by
 unfold nrB at h;have h:=jl.1 (Z0 h);rw[uf,Z5 OC,zgy]at h;exact h
theorem zaz{x:Iv}(k:KI x)(h:zal x=false):zbn x=cnN false (zak x) (-80)/\zak x<=2^100:=by
 obtain⟨_,_,h3,h4,h5⟩:=zrf h;have h6:=zt1 h5;have v:=zwd k;have n:=qg5 v (zaj k).1;have he: -80<=(zbn x).e :=by
  rcases(zgm (jm x.lo) x.hi).2.2 with e|e
  .have e:zbn x=jm x.lo:=e;rw[e];unfold jm;split
   .decide
   .exact h3
  .have e:zbn x=x.hi:=e;rw[e];exact h4
 have hc:=v.canon;have hd:dv (zbn x)=vN (zak x) (-80):=by
  unfold dv zak;rw[Z5 (by rw[n];simp),zck]
  congr 1
  omega
 refine⟨?_,?_⟩
 .unfold zak;rw[zex,show(-80:Int)+(((zbn x).e +80).toNat :Nat)=(zbn x).e by omega];rw[n]at hc;exact hc
 .rw[hd]at h6;have:pw 20=vN (2^100) (-80):=by rw[zbw];rfl
  rw[this]at h6;exact uk.1 h6
theorem qjd{n:Nat}{e:Int}(h:n<2^250)(he: -1000<=e/\e<=1000):VD (cnN false n e):=by
 have:=ur.2 h;exact zie (zf5 O O O)
theorem qau{n:Nat}{e:Int}(h:n≠0):nm (cnN false n e)≠0:=by
 obtain⟨a,_,h1,h2,_⟩:=xu h;rw[zt2,h2];omega
theorem sum_c{n m:Nat}{e:Int}:zbx (cnN false n e) (cnN false m e)=cnN false (n+m) e:=by
 by_cases hn:n=0
 .subst hn;have:cnN false 0 e=d0:=rfl;rw[this,Nat.zero_add];unfold zbx;rw[Z4 zkn]
 by_cases hm:m=0
 .subst hm;have h0:cnN false 0 e=d0:=rfl;rw[h0,Nat.add_zero];unfold zbx;rw[Z5 (qau hn),Z4 zkn]
 obtain⟨a,ha,ha1,ha2,_⟩:=xu hn;obtain⟨b,hb,hb1,hb2,_⟩:=xu hm;have e1:cnN false n e=⟨false,toL a,e+tz n⟩:=by unfold cnN;rw[Z5 hn,ha2]
 have e2:cnN false m e=⟨false,toL b,e+tz m⟩:=by unfold cnN;rw[Z5 hm,hb2]
 rw[e1,e2];unfold zbx;rw[Z5 (by rw[ji];omega),Z5 (by rw[ji];omega),ji,ji,Z4 rfl];obtain⟨k,p,q,h1,h2,h3,h4,h5⟩:∃k p q:Nat,tz n=p+k/\tz m=q+k/\min (e+(tz n:Int)) (e+(tz m:Int))=e+(k:Int)/\(e+(tz n:Int)-(e+(k:Int))).toNat =p/\(e+(tz m:Int)-(e+(k:Int))).toNat =q:=by
  refine⟨min (tz n) (tz m),tz n-min (tz n) (tz m),tz m-min (tz n) (tz m),O,O,O,O,O⟩
 have e3:n+m=(a*2^p+b*2^q)*2^k:=by
  conv=>lhs;rw[ha,hb]
  rw[h1,h2,Nat.add_mul,Nat.mul_assoc,Nat.mul_assoc,<-Nat.pow_add,<-Nat.pow_add]
 show cnN false (a*2^(e+(tz n:Int)-min (e+(tz n:Int)) (e+(tz m:Int))).toNat +b*2^(e+(tz m:Int)-min (e+(tz n:Int)) (e+(tz m:Int))).toNat) (min (e+(tz n:Int)) (e+(tz m:Int)))=_;rw[h3,h4,h5,e3,zex]
theorem prd_c{n m:Nat}{e f:Int}:cnN ((cnN false n e).neg != (cnN false m f).neg) (nm (cnN false n e)*nm (cnN false m f)) ((cnN false n e).e +(cnN false m f).e)=cnN false (n*m) (e+f):=by
 by_cases hn:n=0
 .subst hn;have:cnN false 0 e=d0:=rfl;rw[this,zkn,Nat.zero_mul,Nat.zero_mul];rfl
 by_cases hm:m=0
 .subst hm;have:cnN false 0 f=d0:=rfl;rw[this,zkn,Nat.mul_zero,Nat.mul_zero];rfl
 obtain⟨a,ha,_,ha2,_⟩:=xu hn;obtain⟨b,hb,_,hb2,_⟩:=xu hm;have e1:cnN false n e=⟨false,toL a,e+tz n⟩:=by unfold cnN;rw[Z5 hn,ha2]
 have e2:cnN false m f=⟨false,toL b,f+tz m⟩:=by unfold cnN;rw[Z5 hm,hb2]
 rw[e1,e2,ji,ji];show cnN false (a*b) (e+tz n+(f+tz m))=_;have:n*m=a*b*2^(tz n+tz m):=by
  conv=>lhs;rw[ha,hb]
  rw[Nat.pow_add];generalize 2^tz n=p;generalize 2^tz m=q;grind
 rw[this,zex]
 congr 1
 omega
def rwS(r:List Iv)(j:Nat):Nat:=((r.take j).map zak).sum
theorem qcq(r:List Iv):rwS r 0=0:=rfl
theorem zq8{r:List Iv}{j:Nat}{x:Iv}(h:r[j]? =some x):rwS r (j+1)=rwS r j+zak x:=by
 unfold rwS;rw[q1,h];simp
def szM(a:Mx)(i:Nat):Nat:=((a.take i).map fun r=>rwS r r.length).foldl max 0
theorem zwy{a:Mx}{i:Nat}{r:List Iv}(h:a[i]? =some r):szM a (i+1)=max (szM a i) (rwS r r.length):=by
 unfold szM;rw[q1,h];simp
theorem zs8{r:List Iv}{B:Nat}(h:∀x∈r,zak x<=B):∀j,rwS r j<=j*B
 |0=>by rw[qcq];exact Nat.zero_le _
 |j+1=>by
  have h1:=zs8 h j;rw[Nat.succ_mul]
  cases hg:r[j]? with
  |none=>
   have e:rwS r (j+1)=rwS r j:=by unfold rwS;rw[q1,hg];simp
   rw[e];exact Nat.le_trans h1 (Nat.le_add_right _ _)
  |some x=>
   rw[zq8 hg];exact Nat.add_le_add h1 (h x (q2 hg))
theorem zs9{r:List Iv}:∀(j:Nat)(i:Nat)(x:Iv),r[i]? =some x->i<j->zak x<=rwS r j
 |0,_,_,_,h=>absurd h O
 |j+1,i,x,hx,h=>by
  cases hg:r[j]? with
  |none=>
   have h1:=(q0.1 hx).1;have h2:=q3.1 hg;have e:rwS r (j+1)=rwS r j:=by unfold rwS;rw[q1,hg];simp
   rw[e];exact zs9 j i x hx O
  |some y=>
   rw[zq8 hg];by_cases c:i<j
   .have:=zs9 j i x hx c;omega
   .have:i=j:=by omega
    subst this;rw[hx]at hg;cases hg
    omega
theorem zo9{a:Mx}:∀(i:Nat)(k:Nat)(r:List Iv),a[k]? =some r->k<i->rwS r r.length<=szM a i
 |0,_,_,_,h=>absurd h O
 |i+1,k,r,hr,h=>by
  cases hg:a[i]? with
  |none=>
   have h1:=(q0.1 hr).1;have h2:=q3.1 hg;have e:szM a (i+1)=szM a i:=by unfold szM;rw[q1,hg];simp
   rw[e];exact zo9 i k r hr O
  |some y=>
   rw[zwy hg];by_cases c:k<i
   .have:=zo9 i k r hr c;omega
   .have:k=i:=by omega
    subst this;rw[hr]at hg;cases hg
    omega
theorem zsf{a:Mx}(h:∀r∈a,r.length<=3/\∀x∈r,zak x<=2^100):∀i,szM a i<=3*2^100
 |0=>Nat.zero_le _
 |i+1=>by
  have:=zsf h i
  cases hg:a[i]? with
  |none=>
   have e:szM a (i+1)=szM a i:=by unfold szM;rw[q1,hg];simp
   rw[e];omega
  |some r=>
   rw[zwy hg];obtain⟨h1,h2⟩:=h r (q2 hg);have h3:=zs8 h2 r.length;have:r.length*2^100<=3*2^100:=Nat.mul_le_mul_right _ h1;omega
theorem cmp_c{n m:Nat}{e:Int}:0<qh (cnN false n e) (cnN false m e)<->m<n:=by
 rw[(uq _ _).2.1,uf,uf,Z5 OC,Z5 OC,zll]
def znw(a:Mx)(t:Iv)(ls:List (List Iv)):Bool:=
 decide (a.length<=3)&&(zjt a t 24&&(!zal t&&(!(a.any fun r=>r.any zal)&&(ls.all (fun l=>bvB l&&(decide (l.length=a.length)&& !(l.any zal)))&&decide (qh (cnN false (szM a a.length*zak t) (-160)) (zcb 16)<=0)))))
structure SmM(a:Mx)(t:Iv):Prop where
 n3:a.length<=3
 cas:zjt a t 24=true
 lt:zal t=false
 la:∀r∈a,∀x∈r,zal x=false
 sz:qh (cnN false (szM a a.length*zak t) (-160)) (zcb 16)<=0
theorem sm_ok{a:Mx}{t:Iv}{ls:List (List Iv)}(h:znw a t ls=true):SmM a t/\∀l∈ls,bvB l=true/\l.length=a.length/\∀x∈l,zal x=false:=by
 unfold znw at h;simp only[Bool.and_eq_true,Z2,Bool.not_eq_true',List.all_eq_true]at h;obtain⟨h1,h2,h3,h4,h5,h6⟩:=h;refine⟨⟨h1,h2,h3,fun r hr x hx=>?_,h6⟩,fun l hl=>?_⟩
 .cases hb:zal x with
  |false=>rfl
  |true=>
   have:(a.any fun r=>r.any zal)=true:=q4.2 ⟨r,hr,q4.2 ⟨x,hx,hb⟩⟩;rw[h4]at this;cases this
 .obtain⟨g1,g2,g3⟩:=h5 l hl;refine⟨g1,g2,fun x hx=>?_⟩
  cases hb:zal x with
  |false=>rfl
  |true=>
   have:l.any zal=true:=q4.2 ⟨x,hx,hb⟩;rw[g3]at this;cases this
theorem qgi{a:Mx}{t:Iv}(h:SmM a t)(kt:KI t){r:List Iv}(hr:r∈a){x:Iv}(hx:x∈r)(kx:KI x):dv (zbn x)*dv (zbn t)<=pw 4:=by
 obtain⟨c1,c2⟩:=zaz kt h.lt;obtain⟨d1,d2⟩:=zaz kx (h.la r hr x hx);have hs:=jl.1 h.sz;rw[uf,Z5 OC,uo]at hs;have h4:((16:Int):Rat)=pw 4:=(wq 4).symm;rw[h4]at hs;obtain⟨i,hi⟩:=q6 hr;obtain⟨j,hj⟩:=q6 hx;have g1:=zs9 r.length j x hj (q0.1 hj).1;have g2:=zo9 a.length i r hi (q0.1 hi).1;rw[c1,d1,uf,uf,Z5 OC,Z5 OC,zix];refine Rat.le_trans (uk.2 ?_) hs;exact Nat.mul_le_mul_right _ (Nat.le_trans g1 g2)
theorem qdq{B C D:Rat}{x y:Iv}(hx:kI B x)(hy:kI C y)(hD:B*C<=D){p:Int}(hp:pcB p=true)(hF:inF p.toNat D):kI D (kf x y p):=by
 obtain⟨⟨a1,a2⟩,⟨a3,a4⟩⟩:=hx.b.ends hx.k;obtain⟨⟨b1,b2⟩,⟨b3,b4⟩⟩:=hy.b.ends hy.k;have w:∀z:Rat,-(B*C)<=z/\z<=B*C-> -D<=z/\z<=D:=fun z h=>by constructor<;>grind
 have hv:=jg (.inl hx.k:VI x) (.inl hy.k:VI y) hp;rw[zl8 hx.k hy.k hp]at hv⊢;have f:=zl9 hx.k hy.k (vg hp);have hq:zmt (fun u v=>u*v) x y (fun z=> -D<=z/\z<=D):=⟨w _ (ut a1 a2 b1 b2),w _ (ut a1 a2 b3 b4),w _ (ut a3 a4 b1 b2),w _ (ut a3 a4 b3 b4)⟩;have ha:=qe9 f hF hq;have hb:=zru f hF hq ha;exact⟨(xi hv).1 ha,hb.1,hb.2⟩
def Cn(x y:Iv):Prop:=∃d,(d=x.lo\/d=x.hi)/\y=zx d
structure crM(k:Nat)(a m:Mx):Prop where
 v:VM (k+1) (k+1) m
 c:∀i j,i<=k->j<=k->Cn (atM a i j) (atM m i j)
theorem Cn_kI{x y:Iv}(k:KI x)(h:Cn x y):kI (dv (zbn x)) y:=by
 obtain⟨d,hd,rfl⟩:=h;obtain⟨h0,h1,h2,h3,h4⟩:=zaj k;rcases hd with rfl|rfl
 .exact⟨ziu k.lo,h1,h2⟩
 .exact⟨ziu k.hi,h3,h4⟩
theorem qin{k:Nat}{a m:Mx}(h:crM k a m):inM (k+1) (k+1) (fun i j=>dv (atM m i j).lo) m:=
 ⟨h.v,fun i j hi hj=>by
  obtain⟨d,_,e⟩:=h.c i j O O;rw[e];exact .inr ⟨Rat.le_refl,Rat.le_refl⟩⟩
theorem at_el{n k:Nat}{m:Mx}(v:VM n k m){i j:Nat}(hi:i<n)(hj:j<k):∃r∈m,atM m i j∈r:=by
 obtain⟨r,h1,h2,_,h4⟩:=zv3 v hi hj;exact⟨r,h2,q2 h4⟩
theorem zxb{d:Dy}(v:VD d)(he: -80<=d.e){B:Rat}(hb:kI B (zx d)){s:Nat}(hs:s<=8):kI B (zn (zx d) (-(s:Int))):=by
 have hk:kB (zx d)=true:=(qb (ziu v).ri).2 (ziu v);have ho:(qg d (-(s:Int))).2=0:=by
  unfold qg;rw[Z5 (by unfold exB;simp;omega)];unfold ckN;rw[Z4];have h1:=v.bits;have h2:=v.exp;exact zf5 h1 O O
 have ha:(zn (zx d) (-(s:Int))).all =false:=by
  unfold zn;rw[Z4 hk];exact um.2 ⟨ho,ho⟩
 have h2:=zri (zlc hb.b (-(s:Int))) ha;refine h2.mono ?_;have h3:pw (-(s:Int))<=pw 0:=zat.2 O;rw[zwl]at h3;have:=Rat.mul_le_mul_of_nonneg_left h3 hb.nn;grind
