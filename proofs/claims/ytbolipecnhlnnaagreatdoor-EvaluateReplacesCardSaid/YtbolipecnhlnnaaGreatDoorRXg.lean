/-
  circle: fixed-point numbers, pi, reduction, series; plain.
-/
import Derived.Test.YtbolipecnhlnnaaGreatDoorRYu
set_option linter.unusedVariables false
set_option linter.unusedSimpArgs false
open And renaming intro->qA
open BitVec renaming ofInt->qn,ofInt_natCast->qG,toNat_ofNat->qI
open Int renaming tmod_eq_emod_of_nonneg->q2
open Nat renaming le_trans->q3,div_le_self->q4,two_pow_pos->q5,pow_le_pow_right->q6,div_mul_le_self->q7,mul_le_mul_left->q9,pow_add->qd,mul_le_mul->qB,le_refl->qC,one_mul->qD,div_lt_iff_lt_mul->qE,pow_lt_pow_right->qF,lt_of_lt_of_le->qH,mod_lt->qJ,add_comm->qK
namespace Go.Proofs.YtbolipecnhlnnaaGreatDoor
open Go Go.Sx
set_option maxHeartbeats 2000000
abbrev Fx:=Bool×Nat
def fxC (a:Fx):List AV:= [.bool a.1,.sl .u32 (toL a.2)]
def jy (a b:Fx):Fx:=if a.1=b.1 then(a.1,a.2+b.2)else if a.2<b.2 then(b.1,b.2-a.2)else(a.1,a.2-b.2)
def ngF (a:Fx):Fx:=(!a.1,a.2)
def zld (a c:Fx) (b:Nat):Fx:=(a.1 != c.1,a.2*c.2/2^b)
def byF (a:Fx) (n:Nat):Fx:=(a.1,a.2/n)
def ofF (d:Dy) (b:Int):Fx:=(d.neg,if d.e+b<0 then nm d/2^(-(d.e+b)).toNat else nm d*2^(d.e+b).toNat)
theorem zbx (a b:Fx):(jy a b).2<=a.2+b.2:=by
 unfold jy;split
 ·exact qC _
 ·split<;>simp only<;>omega
def alG (m:Nat):Nat->Nat->Fx->Fx->Fx
 |0,_,_,s=>s
 |f+1,k,w,s=>if w.2/m=0 then s else alG m f (k+1) (byF w m) (jy s (if k % 2=1 then ngF (byF (byF w m) (2*k+1))else byF (byF w m) (2*k+1)))
theorem zpq {w m:Nat} (h:2<=m):2*(w/m)<=w:=by
 have h1:=q7 w m;have h2:w/m*2<=w/m*m:=q9 _ h;omega
theorem al_t (w:Fx) (m k:Nat):(if k % 2=1 then ngF (byF (byF w m) (2*k+1))else byF (byF w m) (2*k+1)).2<=w.2/m:=by
 split<;>exact q4 _ _
theorem zp6 {m:Nat} (hm:2<=m): ∀f k (w s:Fx),(alG m f k w s).2<=s.2+w.2
 |0,_,_,_=>Nat.le_add_right _ _
 |f+1,k,w,s=>by
  simp only[alG];split
  ·omega
  ·have h1:=zp6 hm f (k+1) (byF w m) (jy s (if k % 2=1 then ngF (byF (byF w m) (2*k+1))else byF (byF w m) (2*k+1)));have h2:=zbx s (if k % 2=1 then ngF (byF (byF w m) (2*k+1))else byF (byF w m) (2*k+1));have h3:=al_t w m k;have h4:=zpq (w:=w.2) hm;have h5:(byF w m).2=w.2/m:=rfl;omega
theorem zzx {m:Nat} (hm:25<=m): ∀f k (w s:Fx),w.1=false->s.1=false->w.2<=s.2->1<=k->(alG m f k w s).1=false/\24*s.2<=24*(alG m f k w s).2+w.2
 |0,_,_,_,_,hs,_,_=>⟨hs,by simp only[alG];omega⟩
 |f+1,k,w,s,hw,hs,hle,hk=>by
  simp only[alG];split
  ·exact⟨hs,by omega⟩
  ·have hd:25*(w.2/m)<=w.2:=by
    have h1:=q7 w.2 m;have h2:w.2/m*25<=w.2/m*m:=q9 _ hm;omega
   have ht:3*(w.2/m/(2*k+1))<=w.2/m:=by
    have h1:=q7 (w.2/m) (2*k+1);have h2:w.2/m/(2*k+1)*3<=w.2/m/(2*k+1)*(2*k+1):=q9 _ (by omega);omega
   have hs':(jy s (if k % 2=1 then ngF (byF (byF w m) (2*k+1))else byF (byF w m) (2*k+1))).1=false/\
    s.2<=(jy s (if k % 2=1 then ngF (byF (byF w m) (2*k+1))else byF (byF w m) (2*k+1))).2+w.2/m/(2*k+1):=by
    split
    ·have e:ngF (byF (byF w m) (2*k+1))=(true,w.2/m/(2*k+1)):=by unfold ngF byF;rw[hw];rfl
     rw[e];unfold jy;rw[hs,if_neg (by simp),if_neg (by simp only;omega)];exact⟨rfl,by simp only;omega⟩
    ·have e:byF (byF w m) (2*k+1)=(false,w.2/m/(2*k+1)):=by unfold byF;rw[hw]
     rw[e];unfold jy;rw[hs,if_pos rfl];exact⟨rfl,by simp only;omega⟩
   generalize jy s (if k % 2=1 then ngF (byF (byF w m) (2*k+1))else byF (byF w m) (2*k+1))=S at*;have h5:(byF w m).2=w.2/m:=rfl;have ih:=zzx hm f (k+1) (byF w m) S hw hs'.1 (by omega) (by omega);exact⟨ih.1,by omega⟩
def aiF (n b:Nat):Fx:=alG (n*n) (b+1) 1 (false,2^b/n) (false,2^b/n)
def piF (b:Nat):Fx:=jy (false,(aiF 5 b).2*2^4) (true,(aiF 239 b).2*2^2)
theorem qbf {b:Nat} (hb:12<=b):(piF b).1=false/\2<=(piF b).2/\(piF b).2<=8*2^b:=by
 have h1:=zp6 (m:=5*5) (by decide) (b+1) 1 (false,2^b/5) (false,2^b/5);have h2:=(zzx (m:=5*5) (by decide) (b+1) 1 (false,2^b/5) (false,2^b/5) rfl rfl (qC _) (by decide)).2;have h3:=zp6 (m:=239*239) (by decide) (b+1) 1 (false,2^b/239) (false,2^b/239);have hp:2^12<=2^b:=q6 (by decide) hb;unfold piF aiF;generalize alG (5*5) (b+1) 1 (false,2^b/5) (false,2^b/5)=A at*;generalize alG (239*239) (b+1) 1 (false,2^b/239) (false,2^b/239)=B at*;generalize 2^b=y at*;simp only at h1 h2 h3;unfold jy;rw[if_neg (by simp),if_neg (by simp only;omega)];exact⟨rfl,by simp only;omega,by simp only;omega⟩
theorem qhg (n:Nat) {b:Nat} (hn:2<=n):(aiF n b).2<=2*2^b:=by
 have h1:=zp6 (m:=n*n) (by have:=qB hn hn;omega) (b+1) 1 (false,2^b/n) (false,2^b/n);have:=q4 (2^b) n;unfold aiF;simp only at h1;omega
def rdT (d:Dy) (b:Nat):Nat:=b+(max (zg d) 0).toNat +40
def rdQ (d:Dy) (b:Nat):Nat:=(ofF d (rdT d b)).2/((piF (rdT d b)).2/2)
def rdF (d:Dy) (b:Nat):Fx:=(d.neg,(ofF d (rdT d b)).2 % ((piF (rdT d b)).2/2)/2^((max (zg d) 0).toNat +40))
def rdK (d:Dy) (b:Nat):Nat:=if d.neg=true then(4-rdQ d b % 4) % 4 else rdQ d b % 4
theorem rd_bd (d:Dy) {b:Nat}:(rdF d b).2<=4*2^b:=by
 obtain⟨_,h2,h3⟩:=qbf (b:=rdT d b) (by unfold rdT;omega);unfold rdF;simp only;have h4:=qJ (ofF d (rdT d b)).2 (y:=(piF (rdT d b)).2/2) (by omega);have e:2^rdT d b=2^b*2^((max (zg d) 0).toNat +40):=by rw[←qd];rfl
 rw[e]at h3;generalize 2^b=y at*;have hz:=q5 ((max (zg d) 0).toNat +40);generalize 2^((max (zg d) 0).toNat +40)=z at*;have h5:(ofF d (rdT d b)).2 % ((piF (rdT d b)).2/2)<=4*y*z:=by
  have:8*(y*z)=2*(4*y*z):=by grind
  omega
 exact Nat.le_of_lt_succ ((qE hz).2 (by
  have:(4*y+1)*z=4*y*z+z:=by grind
  show _<(4*y+1)*z;omega))
theorem qe0 (d:Dy) (b:Nat):rdK d b<4:=by
 unfold rdK;split<;>omega
def seG (x:Fx) (b:Nat):Nat->Nat->Fx->Fx->Fx->Fx×Fx
 |0,_,_,s,c=>(s,c)
 |f+1,k,t,s,c=>if(byF (zld t x b) k).2=0 then(s,c)else
  if k % 2=1 then seG x b f (k+1) (byF (zld t x b) k) (jy s (if 2<=k % 4 then ngF (byF (zld t x b) k)else byF (zld t x b) k)) c
  else seG x b f (k+1) (byF (zld t x b) k) s (jy c (if 2<=k % 4 then ngF (byF (zld t x b) k)else byF (zld t x b) k))
def seF (x:Fx) (b:Nat):Fx×Fx:=seG x b (b+23) 1 (false,2^b) (false,0) (false,2^b)
def seB (b k t:Nat):Prop:=(k<=8->t<2^(b+2*k-1))/\(8<=k->t<2^(b+23-k))
theorem zsq {b k t x:Nat} (hx:x<=4*2^b) (hk:1<=k) (hk2:k<b+23) (h:seB b k t):seB b (k+1) (t*x/2^b/k):=by
 have hz:=q5 b;have h1:t*x/2^b<=4*t:=by
  have:t*x<=4*t*2^b:=by
   have:=q9 t hx;have e:t*(4*2^b)=4*t*2^b:=by grind
   omega
  exact q3 (Nat.div_le_div_right this) (by rw[Nat.mul_div_cancel _ hz];exact qC _)
 generalize t*x/2^b=u at*;refine⟨fun hk8=>?_,fun hk8=>?_⟩
 ·have h2:=h.1 (by omega);have e:2^(b+2*(k+1)-1)=2^(b+2*k-1)*4:=by
   rw[show b+2*(k+1)-1=b+2*k-1+2 by omega,qd]
  have:=q4 u k;omega
 ·by_cases h7:k=7
  ·subst h7;have h2:=h.1 (by omega);have e:2^(b+23-(7+1))=2^(b+2*7-1)*4:=by
    rw[show b+23-(7+1)=b+2*7-1+2 by omega,qd]
   have:=q4 u 7;omega
  ·have h2:=h.2 (by omega);have e:2^(b+23-k)=2^(b+23-(k+1))*2:=by
    rw[show b+23-k=b+23-(k+1)+1 by omega,qd]
   have h3:8*(u/k)<=u:=by
    have h1:=q7 u k;have h2:u/k*8<=u/k*k:=q9 _ (by omega);omega
   omega
theorem zjh {b k t:Nat} (hk:k<=b+23) (h:seB b k t):t<2^(b+15):=by
 by_cases h8:k<=8
 ·have:=h.1 h8;have:2^(b+2*k-1)<=2^(b+15):=q6 (by decide) (by omega);omega
 ·have:=h.2 (by omega);have:2^(b+23-k)<=2^(b+15):=q6 (by decide) (by omega);omega
set_option maxRecDepth 100000
set_option maxHeartbeats 8000000
theorem qha {n k m:Nat} (h:n<2^k) (hk:k<=m):bl n<=m:=q3 (jt.2 h) hk
theorem bl_2 (b:Nat):bl (2^b)<=b+1:=jt.2 (qF (by decide) (Nat.lt_succ_self b))
theorem zri {n b j k:Nat} (h:n<2^j*2^b) (hk:b+j<=k):bl n<=k:=q3 (jt.2 (by rw[←qd,qK]at h;exact h)) hk
theorem n159 (n k:Nat) (hk:bl (n*2^k)<=8192) (hk2:k<=65536):Fn 328 [] [.sl .u32 (toL n),.int .i64 k] (.tup [.sl .u32 (toL (n*2^k)),.int .i64 0]) []:=by
 have hn:bl n<=8192:=q3 (zu (Nat.le_mul_of_pos_right n (q5 k))) hk;have h218:=y218 (toL n) k (qk n) ((wb n 100000).2 (by omega));rw[zje,if_neg (by omega),if_neg (by omega),Int.toNat_natCast]at h218;unfold dnN at h218
 rwa [if_neg (by omega)]at h218
theorem n190 (a b:Nat) (ha:bl a<=8192) (hb:bl b<=8192) (h0:b≠0):Fn 324 [] [.sl .u32 (toL a),.sl .u32 (toL b)] (.tup [.sl .u32 (toL (a/b)),.sl .u32 (toL (a % b)),.int .i64 0]) []:=by
 have:=y166 a b (by omega) (by omega)
 rwa [if_neg (by omega),if_neg h0]at this
theorem zx9 (n k:Nat) (hk:bl (n*2^k)<=8192) (hk2:k<=65536):Fn 244 [] [.sl .u32 (toL n),.int .i64 k] (.sl .u32 (toL (n*2^k))) []:=by
 refine fnT hT6 hmx Tryz.func244 rfl rfl (ex:= []) ?_;conv=>whnf
 refine gZn (n159 n k hk hk2) ?_;conv=>whnf
 exact⟨lr rfl,lh0⟩
theorem qg7 (n k:Nat) (hn:bl n<=8192) (hk2:k<=65536):Fn 245 [] [.sl .u32 (toL n),.int .i64 k] (.sl .u32 (toL (n/2^k))) []:=by
 refine fnT hT6 hmx Tryz.func245 rfl rfl (ex:= []) ?_;conv=>whnf
 refine gZn (v172 n k hn hk2) ?_;conv=>whnf
 exact⟨lr rfl,lh0⟩
theorem qf3 (n:Int):(wx n).neg =decide (n<0)/\ ∃m k:Nat,wx n=⟨decide (n<0),toL m,k⟩/\m*2^k=n.natAbs/\k<=bl n.natAbs:=by
 unfold wx cnN;by_cases h:n.natAbs=0
 ·rw[if_pos h];have e:decide (n<0)=false:=by simp;omega
  rw[e];exact⟨rfl,0,0,rfl,by omega,by omega⟩
 ·rw[if_neg h];obtain⟨m,h1,h2,h3,h4⟩:=zg9 h;refine⟨rfl,m,tz n.natAbs,?_,h1.symm,by omega⟩;rw[h3,Int.zero_add]
theorem c211 (n:Int) (h: -4611686018427387904<=n/\n<=4611686018427387904):Fn 246 G0 [.int .i64 n] (.agg (fxC (decide (n<0),n.natAbs))) G0:=by
 have h78:=v77 n h;obtain⟨_,m,k,h1,h2,h3⟩:=qf3 n;have hb:bl n.natAbs<=64:=jt.2 (by omega);have c:=zx9 m k (by rw[h2];omega) (by omega);rw[h1]at h78;rw[h2]at c;refine fnT hT6 hmx Tryz.func246 rfl rfl (ex:= []) ?_;conv=>whnf
 refine gZc h78 ?_;conv=>whnf
 refine gZn c ?_;conv=>whnf
 (refine⟨by kernel_rfl,by kernel_rfl,?_⟩;(conv=>whnf))
 exact⟨lr rfl,leG⟩
theorem c216 (a:Fx) (ha:bl a.2<=8192):Fn 251 [] [.agg (fxC a)] (.bool (decide (a.2=0))) []:=by
 have h:=qdi a.2 (by omega);refine fnT hT6 hmx Tryz.func251 rfl rfl (ex:= []) ?_;conv=>whnf
 refine gZn h ?_;conv=>whnf
 refine⟨ab0 ?_,lh0⟩;have:= @xn a.2;by_cases h0:a.2=0
 ·rw[h0];rfl
 ·have h1:bl a.2≠0:=fun c=>h0 (this.1 c)
  simp[h0,h1]
theorem qcx (a:Fx):Fn 241 [] [.agg (fxC a)] (.agg (fxC (ngF a))) []:=by
 refine fnT hT6 hmx Tryz.func241 rfl rfl (ex:= []) ?_;conv=>whnf
 exact⟨lr rfl,lh0⟩
theorem zpy (a b:Fx) (ha:bl a.2<=8000) (hb:bl b.2<=8000):Fn 250 [] [.agg (fxC a),.agg (fxC b)] (.agg (fxC (jy a b))) []:=by
 obtain⟨s,n⟩:=a;obtain⟨t,m⟩:=b;simp only at ha hb;have h1:=v263 n m (by omega) (by omega);have h2:=qeb n m (by omega) (by omega);have key: ∀s t:Bool,s≠t->Fn 250 [] [.agg (fxC (s,n)),.agg (fxC (t,m))] (.agg (fxC (if n<m then(t,m-n)else(s,n-m)))) []:=by
  intro s t hst;by_cases h:n<m
  ·rw[if_pos h];have h3:=v264 m n (by omega) (by omega) (by omega);rw[show xu n m= -1 by unfold xu;rw[if_pos h]]at h2;cases s<;>cases t<;>first|exact absurd rfl hst|skip
   all_goals
    refine fnT hT6 hmx Tryz.func250 rfl rfl (ex:= []) ?_;conv=>whnf
    refine gZn h2 ?_;conv=>whnf
    refine gZn h3 ?_;conv=>whnf
    exact⟨lr rfl,lh0⟩
  ·rw[if_neg h];have h3:=v264 n m (by omega) (by omega) (by omega);obtain⟨z,hz,hz0⟩: ∃z,xu n m=z/\(z=0\/z=1):=⟨_,rfl,by unfold xu;rw[if_neg h];split<;>simp⟩;rw[hz]at h2;rcases hz0 with rfl|rfl<;>cases s<;>cases t<;>first|exact absurd rfl hst|skip
   all_goals
    refine fnT hT6 hmx Tryz.func250 rfl rfl (ex:= []) ?_;conv=>whnf
    refine gZn h2 ?_;conv=>whnf
    refine gZn h3 ?_;conv=>whnf
    exact⟨lr rfl,lh0⟩
 by_cases hst:s=t
 ·subst hst;have e:jy (s,n) (s,m)=(s,n+m):=by unfold jy;rw[if_pos rfl]
  rw[e];cases s
  all_goals
   refine fnT hT6 hmx Tryz.func250 rfl rfl (ex:= []) ?_;conv=>whnf
   refine gZn h1 ?_;conv=>whnf
   exact⟨lr rfl,lh0⟩
 ·have e:jy (s,n) (t,m)=if n<m then(t,m-n)else(s,n-m):=by unfold jy;rw[if_neg hst]
  rw[e];exact key s t hst
theorem c212 (a c:Fx) (b:Nat) (ha:bl a.2<=4000) (hc:bl c.2<=4000) (hb:b<=65536):Fn 247 [] [.agg (fxC a),.agg (fxC c),.int .i64 b] (.agg (fxC (zld a c b))) []:=by
 have hm:=zbw a.2 c.2;have h1:=qd9 a.2 c.2 (by omega) (by omega) (by omega);have h2:=qg7 (a.2*c.2) b (by omega) hb;refine fnT hT6 hmx Tryz.func247 rfl rfl (ex:= []) ?_;conv=>whnf
 refine gZn h1 ?_;conv=>whnf
 refine gZn h2 ?_;conv=>whnf
 (refine⟨by kernel_rfl,by kernel_rfl,?_⟩;(conv=>whnf))
 refine⟨lg0 (lc (ab0 ?_) (lc (lr rfl) ln0)),lh0⟩;obtain⟨s,_⟩:=a;obtain⟨t,_⟩:=c;cases s<;>cases t<;>rfl
theorem c279 (a:Fx) (n:Nat) (ha:bl a.2<=8192) (hn:1<=n/\n<=4611686018427387904):Fn 325 G0 [.agg (fxC a),.int .i64 n] (.agg (fxC (byF a n))) G0:=by
 have h1:=c211 n (by omega);rw[show decide ((n:Int)<0)=false by simp,Int.natAbs_natCast]at h1;have h2:=n190 a.2 n ha (qha (k:=64) (by omega) (by decide)) (by omega);refine fnT hT6 hmx Tryz.func325 rfl rfl (ex:= []) ?_;conv=>whnf
 refine gZc h1 ?_;conv=>whnf
 refine gZn h2 ?_;conv=>whnf
 (refine⟨by kernel_rfl,by kernel_rfl,?_⟩;(conv=>whnf))
 exact⟨lr rfl,leG⟩
theorem zw7 {d:Dy} {b t:Nat} (_hd:VD d) (ht:zg d<=t):(ofF d b).2<2^(b+t):=by
 unfold ofF;simp only;by_cases h0:nm d=0
 ·rw[h0];split<;>simp[q5]
 ·have e:zg d=bl (nm d)+d.e:=by unfold zg;rw[if_neg h0]
  have hl:=zc5 (nm d);split
  ·rename_i c;refine(qE (q5 _)).2 ?_;rw[←qd];exact qH hl (q6 (by decide) (by omega))
  ·rename_i c;have:=Nat.mul_lt_mul_of_pos_right hl (q5 (d.e+b).toNat);rw[←qd]at this;exact qH this (q6 (by decide) (by omega))
theorem c214 {d:Dy} (hd:VD d) (b t:Nat) (ht:zg d<=t) (hb:b<=2000) (hbt:b+t<=8000):Fn 249 [] [.agg (dyC d),.int .i64 b] (.agg (fxC (ofF d b))) []:=by
 have hof:=zw7 (b:=b) hd ht;have he:=hd.exp;have hbits:=hd.bits;have heq:=hd.eq;have hw:IntKind.i64.wrap (d.e+b)=d.e+b:=wI (by omega);unfold ofF at hof⊢;simp only at hof;by_cases h:d.e+b<0
 ·rw[if_pos h]at hof⊢;have h2:=qg7 (nm d) (-(d.e+b)).toNat (by omega) (by omega);have e:(((-(d.e+b)).toNat :Nat):Int)= -(d.e+b):=by omega
  rw[e]at h2;generalize nm d/2^(-(d.e+b)).toNat =R at*;rw[←heq]at h2;have hw2:IntKind.i64.wrap (0-(d.e+b))= -(d.e+b):=by rw[wI (by omega)];omega
  refine fnT hT6 hmx Tryz.func249 rfl rfl (ex:= []) ?_;conv=>whnf
  rw[hw];refine brI (fun _=>?_) (fun k1=>?_)
  ·conv=>whnf
   rw[hw2];refine gZn h2 ?_;conv=>whnf
   (refine⟨by kernel_rfl,by kernel_rfl,?_⟩;(conv=>whnf))
   exact⟨lr rfl,lh0⟩
  ·exact absurd h (of_decide_eq_false k1)
 ·rw[if_neg h]at hof⊢;have h2:=zx9 (nm d) (d.e+b).toNat (q3 (jt.2 hof) (by omega)) (by omega);have e:(((d.e+b).toNat :Nat):Int)=d.e+b:=by omega
  rw[e]at h2;generalize nm d*2^(d.e+b).toNat =R at*;rw[←heq]at h2;refine fnT hT6 hmx Tryz.func249 rfl rfl (ex:= []) ?_;conv=>whnf
  rw[hw];refine brI (fun k1=>?_) (fun _=>?_)
  ·exact absurd (of_decide_eq_true k1) h
  ·conv=>whnf
   rw[hw];refine gZn h2 ?_;conv=>whnf
   (refine⟨by kernel_rfl,by kernel_rfl,?_⟩;(conv=>whnf))
   exact⟨lr rfl,lh0⟩
abbrev Hn (n:Nat):Hp:= [(qu,.gst JT),(1000001,.cells [.int .i64 n])]
theorem leHn {h h':Hp} (n:Nat):leH h h' (Hn n) (Hn n):=lh1 (bg0 rfl) (lh1 (bc0 (lc (lr rfl) ln0)) lh0)
theorem toL1:toL 1= [1]:=rfl
theorem c319 (n:Nat) (hn:2<=n/\n<=1000) (a:Fx) (ha:bl a.2<=8192):Fn 377 (Hn n) [.agg (fxC a),.ptr 1000001 0] (.agg (fxC (byF a (n*n)))) (Hn n):=by
 have hq:n*n<=1000*1000:=qB hn.2 hn.2;have hq2:2*2<=n*n:=qB hn.1 hn.1;have h:=c279 a (n*n) ha (by omega);have hw:IntKind.i64.wrap ((n:Int)*(n:Int))=((n*n:Nat):Int):=by
  have:((n*n:Nat):Int)=(n:Int)*(n:Int):=by push_cast;rfl
  rw[←this];exact wI (by omega)
 refine fnT hT6 hmx Tryz.func377 rfl rfl (ex:= []) ?_;conv=>whnf
 rw[hw];refine gZc h ?_;conv=>whnf
 exact⟨lr rfl,leHn n⟩
theorem c318 (n:Nat) (hn:2<=n/\n<=1000) (b:Nat) (hb:b<=2000) (w0:Fx) (hw0:w0.2<2^b):
 Fn 376 (Hn n) [.agg (fxC w0),.fn 377 [.ptr 1000001 0]] (.agg (fxC (alG (n*n) (b+1) 1 w0 w0))) (Hn n):=by
 have hq2:2*2<=n*n:=qB hn.1 hn.1;obtain⟨E,hE⟩: ∃E,alG (n*n) (b+1) 1 w0 w0=E:=⟨_,rfl⟩;rw[hE];refine fnT hT6 hmx Tryz.func376 rfl rfl (ex:= []) ?_;conv=>whnf
 refine⟨Nat×Nat×Fx×Fx,fun x=>1<=x.2.1/\x.2.1+x.1=b+2/\1<=x.1/\x.2.2.1.2<2^(x.1-1)/\x.2.2.2.2+x.2.2.1.2<=2*2^b/\alG (n*n) x.1 x.2.1 x.2.2.1 x.2.2.2=E,fun x=> [(6,.int .i64 x.2.1)],fun x=> [(2,.cells (fxC x.2.2.1)),(5,.cells (fxC x.2.2.2)),(7,.free)],fun x=>x.1,
  (b+1,1,w0,w0),⟨qC 1,by simp only;omega,by simp only;omega,by simpa using hw0,by simp only;omega,hE⟩,?_,fun x hx=>?_⟩
 ·((conv=>whnf);refine qA ?_ ?_;repeat' first|refine lc ?_ ?_|exact la0|exact lr rfl|exact ln0|refine lh1 ?_ ?_|exact lh0|exact bf0|exact bd0|refine bc0 ?_|exact bm0 rfl|exact bb0 rfl|exact bg0 rfl|exact li0 rfl|refine lg0 ?_|refine lt0 ?_|fail)
 (refine⟨by kernel_rfl,?_⟩;(conv=>whnf))
 obtain⟨f,k,w,s⟩:=x;obtain⟨hx1,hx2,hx3,hx4,hx5,hx6⟩:=hx;simp only at hx1 hx2 hx3 hx4 hx5 hx6
 cases f with
 |zero=>omega
 |succ f=>
  simp only[alG]at hx6;simp only[Nat.add_sub_cancel]at hx4;have bz:=q5 b;have bw:bl w.2<=2002:=zri (j:=2) (b:=b) (by omega) (by omega);have bs:bl s.2<=2002:=zri (j:=2) (b:=b) (by omega) (by omega);clear bz;have c1:=c319 n hn w (by omega);have hv2:(byF w (n*n)).2=w.2/(n*n):=rfl;have hhalf:=zpq (w:=w.2) (m:=n*n) (by omega);have c2:=c216 (byF w (n*n)) (by rw[hv2];exact q3 (zu (q4 _ _)) (by omega));rw[hv2]at c2;by_cases hz:w.2/(n*n)=0
  ·rw[if_pos hz]at hx6;subst hx6;rw[decide_eq_true hz]at c2;generalize byF w (n*n)=v at*;clear hE;refine⟨[.gst JT,.cells [.int .i64 n]],_,c1,?_⟩;conv=>whnf
   refine gZn c2 ?_;conv=>whnf
   exact⟨lr rfl,leHn n⟩
  ·rw[if_neg hz]at hx6;rw[decide_eq_false hz]at c2;have bv:bl (byF w (n*n)).2<=2002:=by rw[hv2];exact q3 (zu (q4 _ _)) bw
   have c3:=c279 (byF w (n*n)) (2*k+1) (by omega) (by omega);have hal:=al_t w (n*n) k;have hadd:=zbx s (if k % 2=1 then ngF (byF (byF w (n*n)) (2*k+1))else byF (byF w (n*n)) (2*k+1));have bu:bl (byF (byF w (n*n)) (2*k+1)).2<=2002:=q3 (zu (q4 _ _)) bv;have c4:=qcx (byF (byF w (n*n)) (2*k+1));have c5:=zpy s (ngF (byF (byF w (n*n)) (2*k+1))) (by omega) (by show bl (byF (byF w (n*n)) (2*k+1)).2<=8000;omega);have c6:=zpy s (byF (byF w (n*n)) (2*k+1)) (by omega) (by omega);have hf:1<=f:=by
    rcases Nat.eq_zero_or_pos f with rfl|h
    ·simp at hx4;rw[hx4]at hz;simp at hz
    ·exact h
   have hlt:w.2/(n*n)<2^(f-1):=by
    have:2^f=2^(f-1)*2:=by rw[←Nat.pow_succ];congr 1;omega
    omega
   have hw1:IntKind.i64.wrap (IntKind.i64.wrap (2*(k:Int))+1)=((2*k+1:Nat):Int):=by
    rw[wI (x:=2*(k:Int)) (by omega),wI (by omega)];omega
   generalize byF (byF w (n*n)) (2*k+1)=u at*;rw[←hv2]at hlt hal hhalf;clear hv2 hE hz hx4;generalize byF w (n*n)=v at*;by_cases hk:k % 2=1
   ·rw[if_pos hk]at hx6 hal hadd;generalize ngF u=t at*;generalize jy s t=S at*;refine⟨[.gst JT,.cells [.int .i64 n]],_,c1,?_⟩;conv=>whnf
    refine gZn c2 ?_;conv=>whnf
    rw[hw1];refine gZc c3 ?_;conv=>whnf
    refine⟨by decide,?_⟩;conv=>whnf
    refine brI (fun k1=>?_) (fun k1=>?_)
    ·conv=>whnf
     refine gZn c4 ?_;conv=>whnf
     refine gZn c5 ?_;conv=>whnf
     refine⟨(f,k+1,v,S),⟨by simp only;omega,by simp only;omega,by simp only;omega,by simp only;omega,by simp only;omega,hx6⟩,by show f<f+1;omega,?_⟩
     ((conv=>whnf);refine qA ?_ ?_;repeat' first|refine lc ?_ ?_|exact la0|exact lr rfl|exact ln0|refine lh1 ?_ ?_|exact lh0|exact bf0|exact bd0|refine bc0 ?_|exact bm0 rfl|exact bb0 rfl|exact bg0 rfl|exact li0 rfl|refine lg0 ?_|refine lt0 ?_|fail)
     exact ai0 (by rw[wI (by simp only;omega)];simp only;omega)
    ·exfalso;have k1: ¬(k:Int).tmod 2=1:=of_decide_eq_false k1;rw[q2 (by omega)]at k1;omega
   ·rw[if_neg hk]at hx6 hal hadd;generalize jy s u=S at*;refine⟨[.gst JT,.cells [.int .i64 n]],_,c1,?_⟩;conv=>whnf
    refine gZn c2 ?_;conv=>whnf
    rw[hw1];refine gZc c3 ?_;conv=>whnf
    refine⟨by decide,?_⟩;conv=>whnf
    refine brI (fun k1=>?_) (fun k1=>?_)
    ·exfalso;have k1:(k:Int).tmod 2=1:=of_decide_eq_true k1;rw[q2 (by omega)]at k1;omega
    ·conv=>whnf
     refine gZn c6 ?_;conv=>whnf
     refine⟨(f,k+1,v,S),⟨by simp only;omega,by simp only;omega,by simp only;omega,by simp only;omega,by simp only;omega,hx6⟩,by show f<f+1;omega,?_⟩
     ((conv=>whnf);refine qA ?_ ?_;repeat' first|refine lc ?_ ?_|exact la0|exact lr rfl|exact ln0|refine lh1 ?_ ?_|exact lh0|exact bf0|exact bd0|refine bc0 ?_|exact bm0 rfl|exact bb0 rfl|exact bg0 rfl|exact li0 rfl|refine lg0 ?_|refine lt0 ?_|fail)
     exact ai0 (by rw[wI (by simp only;omega)];simp only;omega)
theorem c280 (n:Nat) (hn:2<=n/\n<=1000) (b:Nat) (hb:b<=2000):Fn 327 G0 [.int .i64 n,.int .i64 b] (.agg (fxC (aiF n b))) G0:=by
 have c1:=zx9 1 b (by rw[qD];have:=bl_2 b;omega) (by omega);rw[qD,toL1]at c1;have hb1:bl (2^b)<=2001:=by have:=bl_2 b;omega
 have c2:=c279 (false,2^b) n (by simp only;omega) (by omega);have hz:=q5 b;have c3:=c318 n hn b hb (false,2^b/n) (Nat.div_lt_self hz (by omega));show Fn 327 G0 [.int .i64 n,.int .i64 b] (.agg (fxC (alG (n*n) (b+1) 1 (false,2^b/n) (false,2^b/n)))) G0;generalize alG (n*n) (b+1) 1 (false,2^b/n) (false,2^b/n)=R at*;have c2:Fn 325 G0 [.agg [.bool false,.sl .u32 (toL (2^b))],.int .i64 n] (.agg [.bool false,.sl .u32 (toL (2^b/n))]) G0:=c2;have c3:Fn 376 (Hn n) [.agg [.bool false,.sl .u32 (toL (2^b/n))],.fn 377 [.ptr 1000001 0]] (.agg (fxC R)) (Hn n):=c3;generalize toL (2^b/n)=X at*;generalize toL (2^b)=Y at*;refine fnT hT6 hmx Tryz.func327 rfl rfl (ex:= []) ?_;conv=>whnf
 refine gZn c1 ?_;conv=>whnf
 refine gZc c2 ?_;conv=>whnf
 refine⟨[.gst JT,.cells [.int .i64 n]],_,c3.sw [(2,1000001)] rfl,?_⟩;conv=>whnf
 exact⟨lr rfl,leG⟩
theorem c208 (b:Nat) (hb:b<=2000):Fn 243 G0 [.int .i64 b] (.agg (fxC (piF b))) G0:=by
 have c1:=c280 5 (by decide) b hb;have c2:=c280 239 (by decide) b hb;have b1:=qhg 5 (b:=b) (by decide);have b2:=qhg 239 (b:=b) (by decide);have bz:=q5 b;have hR:piF b=jy (false,(aiF 5 b).2*2^4) (true,(aiF 239 b).2*2^2):=rfl;generalize aiF 5 b=A at*;generalize aiF 239 b=B at*;have z1:bl (A.2*2^4)<=2010:=zri (j:=6) (b:=b) (by omega) (by omega);have z2:bl (B.2*2^2)<=2010:=zri (j:=6) (b:=b) (by omega) (by omega);clear bz b1 b2;have c3:=zx9 A.2 4 (by omega) (by decide);have c4:=zx9 B.2 2 (by omega) (by decide);have c5:=zpy (false,A.2*2^4) (true,B.2*2^2) (by simp only;omega) (by simp only;omega);rw[←hR]at c5;clear hR z1 z2;generalize piF b=R at*;have c5:Fn 250 [] [.agg [.bool false,.sl .u32 (toL (A.2*2^4))],.agg [.bool true,.sl .u32 (toL (B.2*2^2))]] (.agg (fxC R)) []:=c5;generalize toL (A.2*2^4)=X at*;generalize toL (B.2*2^2)=Y at*;refine fnT hT6 hmx Tryz.func243 rfl rfl (ex:= []) ?_;conv=>whnf
 refine gZc c1 ?_;conv=>whnf
 refine gZc c2 ?_;conv=>whnf
 refine gZn c3 ?_;conv=>whnf
 refine gZn c4 ?_;conv=>whnf
 refine gZn c5 ?_;conv=>whnf
 (refine⟨by kernel_rfl,by kernel_rfl,?_⟩;(conv=>whnf))
 exact⟨lr rfl,leG⟩
theorem toL0:toL 0= []:=rfl
theorem and3 (y:Nat) (h:y<4294967296):IntKind.i64.wrap (IntKind.u32.wrap ((qn IntKind.u32.bits (y:Int)&&& qn IntKind.u32.bits 3).toNat :Int))=((y % 4:Nat):Int):=by
 have e1:(qn IntKind.u32.bits (y:Int)&&& qn IntKind.u32.bits 3).toNat =y % 4:=by
  rw[BitVec.toNat_and,qG,show(3:Int)=((3:Nat):Int)from rfl,qG,qI,qI];show y % 2^32&&& 3 % 2^32=_;rw[Nat.mod_eq_of_lt (by omega:y<2^32)];exact Nat.and_two_pow_sub_one_eq_mod y 2
 rw[e1,zys (by omega),wI (by omega)]
theorem and3b {k:Nat} (h:k<4):IntKind.i64.wrap ((qn IntKind.i64.bits (IntKind.i64.wrap (4-(k:Int)))&&& qn IntKind.i64.bits 3).toNat :Int)=(((4-k) % 4:Nat):Int):=by
 obtain rfl|rfl|rfl|rfl:k=0\/k=1\/k=2\/k=3:=by omega
 all_goals decide
theorem c204 {d:Dy} (hd:VD d) (ht:zg d<=100) (b:Nat) (hb:b<=1000):Fn 239 G0 [.agg (dyC d),.int .i64 b] (.tup [.agg (fxC (rdF d b)),.int .i64 (rdK d b)]) G0:=by
 have c1:=zn6 hd;have hlow: -100000<=zg d:=by
  have:=hd.exp;unfold zg;split<;>omega
 have hmax:(if(0:Int)>zg d then 0 else zg d)=((max (zg d) 0).toNat :Int):=by split<;>omega
 have hT:rdT d b=b+(max (zg d) 0).toNat +40:=rfl;have hQ:rdQ d b=(ofF d (rdT d b)).2/((piF (rdT d b)).2/2):=rfl;have hF:rdF d b=(d.neg,(ofF d (rdT d b)).2 % ((piF (rdT d b)).2/2)/2^((max (zg d) 0).toNat +40)):=rfl;have hK:rdK d b=if d.neg=true then(4-rdQ d b % 4) % 4 else rdQ d b % 4:=rfl
 have hX1:(ofF d (rdT d b)).1=d.neg:=rfl;have hm:(max (zg d) 0).toNat <=100:=by omega
 have hTle:rdT d b<=1140:=by omega
 have hpi:=qbf (b:=rdT d b) (by omega);have hof:=zw7 (b:=rdT d b) (t:=100) hd ht;have c3:=c208 (rdT d b) (by omega);have c4:=c214 hd (rdT d b) 100 ht (by omega) (by omega);generalize rdQ d b=q at*;generalize rdF d b=R at*;generalize rdK d b=k at*;have p1:=q5 (rdT d b);have p2:bl (ofF d (rdT d b)).2<=rdT d b+100:=jt.2 hof;have hw1:IntKind.i64.wrap (IntKind.i64.wrap ((b:Int)+((max (zg d) 0).toNat :Int))+40)=(rdT d b:Int):=by
  rw[wI (x:=(b:Int)+((max (zg d) 0).toNat :Int)) (by omega),wI (by omega)];omega
 have hw2:IntKind.i64.wrap (((max (zg d) 0).toNat :Int)+40)=(((max (zg d) 0).toNat +40:Nat):Int):=by rw[wI (by omega)];omega
 generalize (max (zg d) 0).toNat =t at*;generalize rdT d b=c at*;generalize piF c=P at*;generalize ofF d c=X at*;have bP:bl P.2<=1144:=zri (j:=4) (b:=c) (by omega) (by omega);have c5:=qg7 P.2 1 (by omega) (by decide);rw[Nat.pow_one]at c5;have bX:bl X.2<=1240:=by omega
 have hh0:P.2/2≠0:=by omega
 generalize hh:P.2/2=h at*;have bh:bl h<=1144:=by rw[←hh];exact q3 (zu (q4 _ _)) bP
 have c6:=n190 X.2 h (by omega) (by omega) hh0;rw[←hQ]at c6;have hqh:q*h<=X.2:=by rw[hQ];exact q7 _ _
 have hqle:q<=X.2:=by rw[hQ];exact q4 _ _
 have bq:bl q<=1240:=q3 (zu hqle) bX;have bqh:bl (q*h)<=1240:=q3 (zu hqh) bX;have c7:=qd9 q h (by omega) (by omega) (by omega);have c8:=zpy (d.neg,X.2) (!d.neg,q*h) (by simp only;omega) (by simp only;omega);have hadd:jy (d.neg,X.2) (!d.neg,q*h)=(d.neg,X.2 % h):=by
  unfold jy;rw[if_neg (by cases d.neg<;>simp),if_neg (by simp only;omega)];have:=Nat.div_add_mod X.2 h;rw[←hQ,Nat.mul_comm]at this;simp only[Prod.mk.injEq,true_and];omega
 rw[hadd]at c8;have c9:=qg7 (X.2 % h) (t+40) (q3 (zu (Nat.mod_le _ _)) (by omega)) (by omega);clear hadd hqh hqle bq bqh bh hh0 hh bX bP p1 p2 hof hpi hT hTle;obtain⟨d1,d2,d3⟩:=d;simp only at*;obtain⟨X1,X2⟩:=X;simp only at*;subst hX1;replace c8:Fn 250 [] [.agg [.bool X1,.sl .u32 (toL X2)],.agg [.bool (!X1),.sl .u32 (toL (q*h))]] (.agg [.bool X1,.sl .u32 (toL (X2 % h))]) []:=c8;replace c4:Fn 249 [] [.agg [.bool X1,.sl .u32 d2,.int .i64 d3],.int .i64 c] (.agg [.bool X1,.sl .u32 (toL X2)]) []:=c4;have hR:fxC R= [.bool X1,.sl .u32 (toL (X2 % h/2^(t+40)))]:=by rw[hF];rfl
 rw[hR];clear hR hF;generalize toL (X2 % h/2^(t+40))=L1 at*;generalize toL (X2 % h)=L2 at*;generalize toL (q*h)=L3 at*;generalize toL h=L4 at*;generalize zg ⟨X1,d2,d3⟩=tt at*;clear hQ;by_cases hq:q=0
 ·subst hq;rw[toL0]at c6 c7;cases X1
  all_goals
   refine fnT hT6 hmx Tryz.func239 rfl rfl (ex:= []) ?_;conv=>whnf
   refine gZn c1 ?_;conv=>whnf
   rw[hmax,hw1];refine gZc c3 ?_;conv=>whnf
   refine gZn c5 ?_;conv=>whnf
   refine gZn c4 ?_;conv=>whnf
   refine gZn c6 ?_;conv=>whnf
   refine gZn c7 ?_;conv=>whnf
   refine gZn c8 ?_;conv=>whnf
   rw[hw2];refine gZn c9 ?_;conv=>whnf
   (refine⟨by kernel_rfl,by kernel_rfl,?_⟩;(conv=>whnf))
   refine⟨lt0 (lc (lr rfl) (lc (ai0 ?_) ln0)),leG⟩;rw[hK];rfl
 ·have hcons:=xt hq;rw[hcons]at c6 c7;have hk4:(q % 4294967296) % 4=q % 4:=by omega
  have hlt:q % 4294967296<4294967296:=qJ _ (by decide);generalize q % 4294967296=y at*;generalize toL (q/4294967296)=ys at*;cases X1
  all_goals
   refine fnT hT6 hmx Tryz.func239 rfl rfl (ex:= []) ?_;conv=>whnf
   refine gZn c1 ?_;conv=>whnf
   rw[hmax,hw1];refine gZc c3 ?_;conv=>whnf
   refine gZn c5 ?_;conv=>whnf
   refine gZn c4 ?_;conv=>whnf
   refine gZn c6 ?_;conv=>whnf
   refine gZn c7 ?_;conv=>whnf
   refine gZn c8 ?_;conv=>whnf
   refine brI (fun _=>?_) (fun k1=>?_)
   rotate_left
   ·have k1:=of_decide_eq_false k1;rw[List.length_cons]at k1;omega
   conv=>whnf
   refine⟨⟨by omega,by simp⟩,fun x hx=>?_⟩;obtain rfl:x=y:=by simpa using hx.symm
   conv=>whnf
   rw[hw2];refine gZn c9 ?_;conv=>whnf
   (refine⟨by kernel_rfl,by kernel_rfl,?_⟩;(conv=>whnf))
   refine⟨lt0 (lc (lr rfl) (lc (ai0 ?_) ln0)),leG⟩;rw[and3 y hlt,hk4,hK]
   first|rfl|exact and3b (qJ _ (by decide))
theorem c205 (x:Fx) (b:Nat) (hb:1<=b/\b<=1000) (hx:x.2<=4*2^b):Fn 240 G0 [.agg (fxC x),.int .i64 b] (.tup [.agg (fxC (seF x b).1),.agg (fxC (seF x b).2)]) G0:=by
 obtain⟨E,hE⟩: ∃E,seF x b=E:=⟨_,rfl⟩;rw[hE];unfold seF at hE;have c1:=zx9 1 b (by rw[qD];have:=bl_2 b;omega) (by omega);rw[qD,toL1]at c1;have bz:=q5 b;have b15:2^(b+15)=32768*2^b:=by rw[qK,qd]
 have h0:seB b 1 (2^b):=⟨fun _=>qF (by decide) (by omega),fun c=>absurd c (by decide)⟩;have bx:bl x.2<=1010:=zri (j:=3) (b:=b) (by omega) (by omega);refine fnT hT6 hmx Tryz.func240 rfl rfl (ex:= []) ?_;conv=>whnf
 refine gZn c1 ?_;conv=>whnf
 refine⟨Nat×Nat×Fx×Fx×Fx,fun y=>1<=y.2.1/\y.2.1+y.1=b+24/\1<=y.1/\seB b y.2.1 y.2.2.1.2/\y.2.2.2.1.2<=y.2.1*2^(b+15)/\y.2.2.2.2.2<=y.2.1*2^(b+15)/\seG x b y.1 y.2.1 y.2.2.1 y.2.2.2.1 y.2.2.2.2=E,fun y=> [(8,.int .i64 y.2.1)],fun y=> [(7,.cells (fxC y.2.2.1)),(4,.cells (fxC y.2.2.2.1)),(5,.cells (fxC y.2.2.2.2)),(9,.free)],fun y=>y.1,
  (b+23,1,(false,2^b),(false,0),(false,2^b)),⟨qC 1,by simp only;omega,by simp only;omega,h0,Nat.zero_le _,by simp only;omega,hE⟩,?_,fun y hy=>?_⟩
 ·((conv=>whnf);refine qA ?_ ?_;repeat' first|refine lc ?_ ?_|exact la0|exact lr rfl|exact ln0|refine lh1 ?_ ?_|exact lh0|exact bf0|exact bd0|refine bc0 ?_|exact bm0 rfl|exact bb0 rfl|exact bg0 rfl|exact li0 rfl|refine lg0 ?_|refine lt0 ?_|fail)
 (refine⟨by kernel_rfl,?_⟩;(conv=>whnf))
 obtain⟨f,k,t,s,c⟩:=y;obtain⟨hy1,hy2,hy3,hy4,hy5,hy6,hy7⟩:=hy;simp only at hy1 hy2 hy3 hy4 hy5 hy6 hy7
 cases f with
 |zero=>omega
 |succ f=>
  simp only[seG]at hy7;have ht:=zjh (by omega) hy4;have hkb:k*2^(b+15)<=1024*2^(b+15):=Nat.mul_le_mul_right _ (by omega);have bt:bl t.2<=1030:=q3 (jt.2 ht) (by omega);have bs:bl s.2<=1030:=zri (j:=26) (b:=b) (by omega) (by omega);have bc:bl c.2<=1030:=zri (j:=26) (b:=b) (by omega) (by omega);have c2:=c212 t x b (by omega) (by omega) (by omega);have hm:bl (zld t x b).2<=2040:=by
   show bl (t.2*x.2/2^b)<=2040;have h1:=zu (q4 (t.2*x.2) (2^b));have h2:=zbw t.2 x.2;omega
  have c3:=c279 (zld t x b) k (by omega) (by omega);have hst:seB b (k+1) (byF (zld t x b) k).2\/(byF (zld t x b) k).2=0:=by
   by_cases hk:k<b+23
   ·exact .inl (zsq hx hy1 hk hy4)
   ·right;have hk':k=b+23:=by omega
    have:=hy4.2 (by omega);rw[hk']at this;have h0:t.2=0:=by rw[show b+23-(b+23)=0 by omega]at this;omega
    show t.2*x.2/2^b/k=0;rw[h0];simp
  generalize zld t x b=M at*;have hv1:bl (byF M k).2<=2040:=q3 (zu (q4 _ _)) hm;generalize byF M k=v at*;have c4:=c216 v (by omega);have c5:=qcx v;clear hE h0 hy4 ht hm;by_cases hz:v.2=0
  ·rw[if_pos hz]at hy7;subst hy7;rw[decide_eq_true hz]at c4;refine gZn c2 ?_;conv=>whnf
   refine gZc c3 ?_;conv=>whnf
   refine gZn c4 ?_;conv=>whnf
   (refine⟨by kernel_rfl,by kernel_rfl,?_⟩;(conv=>whnf))
   exact⟨lr rfl,leG⟩
  rw[if_neg hz]at hy7;rw[decide_eq_false hz]at c4;have hst:=hst.resolve_right hz;have hkk:k<b+23:=by
   rcases Nat.lt_or_ge k (b+23)with h|h
   ·exact h
   ·exfalso;have:=hst.2 (by omega);rw[show b+23-(k+1)=0 by omega]at this;omega
  have hv2:=zjh (by omega) hst;have bv:bl v.2<=1030:=q3 (jt.2 hv2) (by omega);have hk1:(k+1)*2^(b+15)=k*2^(b+15)+2^(b+15):=by rw[Nat.add_mul,qD]
  obtain⟨u,hu,hu2,hcase⟩: ∃u:Fx,(if 2<=k % 4 then ngF v else v)=u/\u.2=v.2/\(2<=k % 4/\u=ngF v\/ ¬2<=k % 4/\u=v):=by
   by_cases h:2<=k % 4
   ·exact⟨ngF v,by rw[if_pos h],rfl,.inl ⟨h,rfl⟩⟩
   ·exact⟨v,by rw[if_neg h],rfl,.inr ⟨h,rfl⟩⟩
  rw[hu]at hy7;have bu:bl u.2<=1030:=by rw[hu2];exact bv
  have c6:=zpy s u (by omega) (by omega);have c7:=zpy c u (by omega) (by omega);have a6:=zbx s u;have a7:=zbx c u;clear hu;generalize 2^(b+15)=Z at*;by_cases hp:k % 2=1
  ·rw[if_pos hp]at hy7;generalize jy s u=S at*;rcases hcase with ⟨h4,rfl⟩|⟨h4,rfl⟩
   ·generalize ngF v=u at*;refine gZn c2 ?_;conv=>whnf
    refine gZc c3 ?_;conv=>whnf
    refine gZn c4 ?_;conv=>whnf
    refine⟨by decide,?_⟩;conv=>whnf
    refine brI (fun k1=>?_) (fun k1=>?_)
    rotate_left
    ·exfalso;have k1: ¬2<=(k:Int).tmod 4:=of_decide_eq_false k1;rw[q2 (by omega)]at k1;omega
    conv=>whnf
    refine gZn c5 ?_;conv=>whnf
    refine⟨by decide,?_⟩;conv=>whnf
    refine brI (fun k1=>?_) (fun k1=>?_)
    rotate_left
    ·exfalso;have k1: ¬(k:Int).tmod 2=1:=of_decide_eq_false k1;rw[q2 (by omega)]at k1;omega
    conv=>whnf
    refine gZn c6 ?_;conv=>whnf
    refine⟨(f,k+1,v,S,c),⟨by simp only;omega,by simp only;omega,by simp only;omega,hst,by simp only;omega,by simp only;omega,hy7⟩,by show f<f+1;omega,?_⟩
    ((conv=>whnf);refine qA ?_ ?_;repeat' first|refine lc ?_ ?_|exact la0|exact lr rfl|exact ln0|refine lh1 ?_ ?_|exact lh0|exact bf0|exact bd0|refine bc0 ?_|exact bm0 rfl|exact bb0 rfl|exact bg0 rfl|exact li0 rfl|refine lg0 ?_|refine lt0 ?_|fail)
    exact ai0 (by rw[wI (by simp only;omega)];simp only;omega)
   ·refine gZn c2 ?_;conv=>whnf
    refine gZc c3 ?_;conv=>whnf
    refine gZn c4 ?_;conv=>whnf
    refine⟨by decide,?_⟩;conv=>whnf
    refine brI (fun k1=>?_) (fun k1=>?_)
    ·exfalso;have k1:2<=(k:Int).tmod 4:=of_decide_eq_true k1;rw[q2 (by omega)]at k1;omega
    conv=>whnf
    refine⟨by decide,?_⟩;conv=>whnf
    refine brI (fun k1=>?_) (fun k1=>?_)
    rotate_left
    ·exfalso;have k1: ¬(k:Int).tmod 2=1:=of_decide_eq_false k1;rw[q2 (by omega)]at k1;omega
    conv=>whnf
    refine gZn c6 ?_;conv=>whnf
    refine⟨(f,k+1,u,S,c),⟨by simp only;omega,by simp only;omega,by simp only;omega,hst,by simp only;omega,by simp only;omega,hy7⟩,by show f<f+1;omega,?_⟩
    ((conv=>whnf);refine qA ?_ ?_;repeat' first|refine lc ?_ ?_|exact la0|exact lr rfl|exact ln0|refine lh1 ?_ ?_|exact lh0|exact bf0|exact bd0|refine bc0 ?_|exact bm0 rfl|exact bb0 rfl|exact bg0 rfl|exact li0 rfl|refine lg0 ?_|refine lt0 ?_|fail)
    exact ai0 (by rw[wI (by simp only;omega)];simp only;omega)
  ·rw[if_neg hp]at hy7;generalize jy c u=S at*;rcases hcase with ⟨h4,rfl⟩|⟨h4,rfl⟩
   ·generalize ngF v=u at*;refine gZn c2 ?_;conv=>whnf
    refine gZc c3 ?_;conv=>whnf
    refine gZn c4 ?_;conv=>whnf
    refine⟨by decide,?_⟩;conv=>whnf
    refine brI (fun k1=>?_) (fun k1=>?_)
    rotate_left
    ·exfalso;have k1: ¬2<=(k:Int).tmod 4:=of_decide_eq_false k1;rw[q2 (by omega)]at k1;omega
    conv=>whnf
    refine gZn c5 ?_;conv=>whnf
    refine⟨by decide,?_⟩;conv=>whnf
    refine brI (fun k1=>?_) (fun k1=>?_)
    ·exfalso;have k1:(k:Int).tmod 2=1:=of_decide_eq_true k1;rw[q2 (by omega)]at k1;omega
    conv=>whnf
    refine gZn c7 ?_;conv=>whnf
    refine⟨(f,k+1,v,s,S),⟨by simp only;omega,by simp only;omega,by simp only;omega,hst,by simp only;omega,by simp only;omega,hy7⟩,by show f<f+1;omega,?_⟩
    ((conv=>whnf);refine qA ?_ ?_;repeat' first|refine lc ?_ ?_|exact la0|exact lr rfl|exact ln0|refine lh1 ?_ ?_|exact lh0|exact bf0|exact bd0|refine bc0 ?_|exact bm0 rfl|exact bb0 rfl|exact bg0 rfl|exact li0 rfl|refine lg0 ?_|refine lt0 ?_|fail)
    exact ai0 (by rw[wI (by simp only;omega)];simp only;omega)
   ·refine gZn c2 ?_;conv=>whnf
    refine gZc c3 ?_;conv=>whnf
    refine gZn c4 ?_;conv=>whnf
    refine⟨by decide,?_⟩;conv=>whnf
    refine brI (fun k1=>?_) (fun k1=>?_)
    ·exfalso;have k1:2<=(k:Int).tmod 4:=of_decide_eq_true k1;rw[q2 (by omega)]at k1;omega
    conv=>whnf
    refine⟨by decide,?_⟩;conv=>whnf
    refine brI (fun k1=>?_) (fun k1=>?_)
    ·exfalso;have k1:(k:Int).tmod 2=1:=of_decide_eq_true k1;rw[q2 (by omega)]at k1;omega
    conv=>whnf
    refine gZn c7 ?_;conv=>whnf
    refine⟨(f,k+1,u,s,S),⟨by simp only;omega,by simp only;omega,by simp only;omega,hst,by simp only;omega,by simp only;omega,hy7⟩,by show f<f+1;omega,?_⟩
    ((conv=>whnf);refine qA ?_ ?_;repeat' first|refine lc ?_ ?_|exact la0|exact lr rfl|exact ln0|refine lh1 ?_ ?_|exact lh0|exact bf0|exact bd0|refine bc0 ?_|exact bm0 rfl|exact bb0 rfl|exact bg0 rfl|exact li0 rfl|refine lg0 ?_|refine lt0 ?_|fail)
    exact ai0 (by rw[wI (by simp only;omega)];simp only;omega)
end Go.Proofs.YtbolipecnhlnnaaGreatDoor
