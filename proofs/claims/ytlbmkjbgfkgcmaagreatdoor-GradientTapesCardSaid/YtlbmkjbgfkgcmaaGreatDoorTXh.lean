/- circle: fixed-point numbers, pi, reduction, series; plain. -/
import Derived.Test.YtlbmkjbgfkgcmaaGreatDoorTYy
set_option linter.all false
open BitVec renaming ofInt->qG,ofInt_natCast->qN,toNat_ofNat->qQ
open Int renaming tmod_eq_emod_of_nonneg->q3,natAbs_natCast->qO,toNat_natCast->qT
open Nat renaming le_trans->q0,div_le_self->q4,two_pow_pos->qA,pow_le_pow_right->qB,div_mul_le_self->qC,mul_le_mul_left->qD,pow_add->qE,one_mul->qF,pow_lt_pow_right->qH,mul_le_mul_right->qI,mul_lt_mul_of_pos_right->qJ,mul_le_mul->qK,le_refl->qL,div_lt_iff_lt_mul->qM,lt_of_lt_of_le->qP,lt_of_le_of_lt->qR,add_comm->qS,mod_lt->qU,pow_succ->qV,lt_or_ge->qW,zero_le->qX,add_mul->qY,mod_le->qZ
open Go.IntKind renaming i64->w1,u32->w2
namespace Go.Proofs.YtlbmkjbgfkgcmaaGreatDoor
open Go Go.Sx
set_option maxHeartbeats 2000000
abbrev Fx:=Bool×Nat
def fxC(a:Fx):List AV:= [.bool a.1,.sl .u32 (toL a.2)]
def ke(a b:Fx):Fx:=if a.1=b.1 then(a.1,a.2+b.2)else if a.2<b.2 then(b.1,b.2-a.2)else(a.1,a.2-b.2)
def ngF(a:Fx):Fx:=(!a.1,a.2)
def zlg(a c:Fx)(b:Nat):Fx:=(a.1 != c.1,a.2*c.2/2^b)
def byF(a:Fx)(n:Nat):Fx:=(a.1,a.2/n)
def ofF(d:Dy)(b:Int):Fx:=(d.neg,if d.e+b<0 then nm d/2^(-(d.e+b)).toNat else nm d*2^(d.e+b).toNat)
theorem zb1(a b:Fx):(ke a b).2<=a.2+b.2:=by
 unfold ke;split
 .exact qL _
 .split<;>simp only<;>omega
def alG(m:Nat):Nat->Nat->Fx->Fx->Fx
 |0,_,_,s=>s
 |f+1,k,w,s=>if w.2/m=0 then s else alG m f (k+1) (byF w m) (ke s (if k % 2=1 then ngF (byF (byF w m) (2*k+1))else byF (byF w m) (2*k+1)))
theorem zpm{w m:Nat}(h:2<=m):2*(w/m)<=w:=by
 have h1:=qC w m;have h2:w/m*2<=w/m*m:=qD _ h;omega
theorem al_t(w:Fx)(m k:Nat):(if k % 2=1 then ngF (byF (byF w m) (2*k+1))else byF (byF w m) (2*k+1)).2<=w.2/m:=by
 split<;>exact q4 _ _
theorem zp0{m:Nat}(hm:2<=m):∀f k(w s:Fx),(alG m f k w s).2<=s.2+w.2
 |0,_,_,_=>Nat.le_add_right _ _
 |f+1,k,w,s=>by
  simp only[alG];split
  .omega
  .have h1:=zp0 hm f (k+1) (byF w m) (ke s (if k % 2=1 then ngF (byF (byF w m) (2*k+1))else byF (byF w m) (2*k+1)));have h2:=zb1 s (if k % 2=1 then ngF (byF (byF w m) (2*k+1))else byF (byF w m) (2*k+1));have h3:=al_t w m k;have h4:=zpm (w:=w.2) hm;have h5:(byF w m).2=w.2/m:=rfl;omega
theorem zy8{m:Nat}(hm:25<=m):∀f k(w s:Fx),w.1=false->s.1=false->w.2<=s.2->1<=k->(alG m f k w s).1=false/\24*s.2<=24*(alG m f k w s).2+w.2
 |0,_,_,_,_,hs,_,_=>⟨hs,by simp only[alG];omega⟩
 |f+1,k,w,s,hw,hs,hle,hk=>by
  simp only[alG];split
  .exact⟨hs,O⟩
  .have hd:25*(w.2/m)<=w.2:=by
    have h1:=qC w.2 m;have h2:w.2/m*25<=w.2/m*m:=qD _ hm;omega
   have ht:3*(w.2/m/(2*k+1))<=w.2/m:=by
    have h1:=qC (w.2/m) (2*k+1);have h2:w.2/m/(2*k+1)*3<=w.2/m/(2*k+1)*(2*k+1):=qD _ O;omega
   have hs':(ke s (if k % 2=1 then ngF (byF (byF w m) (2*k+1))else byF (byF w m) (2*k+1))).1=false/\
    s.2<=(ke s (if k % 2=1 then ngF (byF (byF w m) (2*k+1))else byF (byF w m) (2*k+1))).2+w.2/m/(2*k+1):=by
    split
    .have e:ngF (byF (byF w m) (2*k+1))=(true,w.2/m/(2*k+1)):=by unfold ngF byF;rw[hw];rfl
     rw[e];unfold ke;rw[hs,Z7 OC,Z7 OD];exact⟨rfl,OD⟩
    .have e:byF (byF w m) (2*k+1)=(false,w.2/m/(2*k+1)):=by unfold byF;rw[hw]
     rw[e];unfold ke;rw[hs,Z6 rfl];exact⟨rfl,OD⟩
   generalize ke s (if k % 2=1 then ngF (byF (byF w m) (2*k+1))else byF (byF w m) (2*k+1))=S at*;have h5:(byF w m).2=w.2/m:=rfl;have ih:=zy8 hm f (k+1) (byF w m) S hw hs'.1 O O;exact⟨ih.1,O⟩
def aiF(n b:Nat):Fx:=alG (n*n) (b+1) 1 (false,2^b/n) (false,2^b/n)
def piF(b:Nat):Fx:=ke (false,(aiF 5 b).2*2^4) (true,(aiF 239 b).2*2^2)
theorem qai{b:Nat}(hb:12<=b):(piF b).1=false/\2<=(piF b).2/\(piF b).2<=8*2^b:=by
 have h1:=zp0 (m:=5*5) OA (b+1) 1 (false,2^b/5) (false,2^b/5);have h2:=(zy8 (m:=5*5) OA (b+1) 1 (false,2^b/5) (false,2^b/5) rfl rfl (qL _) OA).2;have h3:=zp0 (m:=239*239) OA (b+1) 1 (false,2^b/239) (false,2^b/239);have hp:2^12<=2^b:=qB OA hb;unfold piF aiF;generalize alG (5*5) (b+1) 1 (false,2^b/5) (false,2^b/5)=A at*;generalize alG (239*239) (b+1) 1 (false,2^b/239) (false,2^b/239)=B at*;generalize 2^b=y at*;simp only at h1 h2 h3;unfold ke;rw[Z7 OC,Z7 OD];exact⟨rfl,OD,OD⟩
theorem qf7(n:Nat){b:Nat}(hn:2<=n):(aiF n b).2<=2*2^b:=by
 have h1:=zp0 (m:=n*n) (by have:=qK hn hn;omega) (b+1) 1 (false,2^b/n) (false,2^b/n);have:=q4 (2^b) n;unfold aiF;simp only at h1;omega
def rdT(d:Dy)(b:Nat):Nat:=b+(max (zn d) 0).toNat +40
def rdQ(d:Dy)(b:Nat):Nat:=(ofF d (rdT d b)).2/((piF (rdT d b)).2/2)
def rdF(d:Dy)(b:Nat):Fx:=(d.neg,(ofF d (rdT d b)).2 % ((piF (rdT d b)).2/2)/2^((max (zn d) 0).toNat +40))
def rdK(d:Dy)(b:Nat):Nat:=if d.neg=true then(4-rdQ d b % 4) % 4 else rdQ d b % 4
theorem rd_bd(d:Dy){b:Nat}:(rdF d b).2<=4*2^b:=by
 obtain⟨_,h2,h3⟩:=qai (b:=rdT d b) (by unfold rdT;omega);unfold rdF;simp only;have h4:=qU (ofF d (rdT d b)).2 (y:=(piF (rdT d b)).2/2) O;have e:2^rdT d b=2^b*2^((max (zn d) 0).toNat +40):=by rw[<-qE];rfl
 rw[e]at h3;generalize 2^b=y at*;have hz:=qA ((max (zn d) 0).toNat +40);generalize 2^((max (zn d) 0).toNat +40)=z at*;have h5:(ofF d (rdT d b)).2 % ((piF (rdT d b)).2/2)<=4*y*z:=by
  have:8*(y*z)=2*(4*y*z):=by grind
  omega
 exact Nat.le_of_lt_succ ((qM hz).2 (by
  have:(4*y+1)*z=4*y*z+z:=by grind
  show _<(4*y+1)*z;omega))
theorem qd4(d:Dy)(b:Nat):rdK d b<4:=by
 unfold rdK;split<;>omega
def seG(x:Fx)(b:Nat):Nat->Nat->Fx->Fx->Fx->Fx×Fx
 |0,_,_,s,c=>(s,c)
 |f+1,k,t,s,c=>if(byF (zlg t x b) k).2=0 then(s,c)else
  if k % 2=1 then seG x b f (k+1) (byF (zlg t x b) k) (ke s (if 2<=k % 4 then ngF (byF (zlg t x b) k)else byF (zlg t x b) k)) c
  else seG x b f (k+1) (byF (zlg t x b) k) s (ke c (if 2<=k % 4 then ngF (byF (zlg t x b) k)else byF (zlg t x b) k))
def seF(x:Fx)(b:Nat):Fx×Fx:=seG x b (b+23) 1 (false,2^b) (false,0) (false,2^b)
def seB(b k t:Nat):Prop:=(k<=8->t<2^(b+2*k-1))/\(8<=k->t<2^(b+23-k))
theorem zr8{b k t x:Nat}(hx:x<=4*2^b)(hk:1<=k)(hk2:k<b+23)(h:seB b k t):seB b (k+1) (t*x/2^b/k):=by
 have hz:=qA b;have h1:t*x/2^b<=4*t:=by
  have:t*x<=4*t*2^b:=by
   have:=qD t hx;have e:t*(4*2^b)=4*t*2^b:=by grind
   omega
  exact q0 (Nat.div_le_div_right this) (by rw[Nat.mul_div_cancel _ hz];exact qL _)
 generalize t*x/2^b=u at*;refine⟨fun hk8=>?_,fun hk8=>?_⟩
 .have h2:=h.1 O;have e:2^(b+2*(k+1)-1)=2^(b+2*k-1)*4:=by
   rw[(O:b+2*(k+1)-1=b+2*k-1+2),qE]
  have:=q4 u k;omega
 .by_cases h7:k=7
  .subst h7;have h2:=h.1 O;have e:2^(b+23-(7+1))=2^(b+2*7-1)*4:=by
    rw[(O:b+23-(7+1)=b+2*7-1+2),qE]
   have:=q4 u 7;omega
  .have h2:=h.2 O;have e:2^(b+23-k)=2^(b+23-(k+1))*2:=by
    rw[(O:b+23-k=b+23-(k+1)+1),qE]
   have h3:8*(u/k)<=u:=by
    have h1:=qC u k;have h2:u/k*8<=u/k*k:=qD _ O;omega
   omega
theorem zjo{b k t:Nat}(hk:k<=b+23)(h:seB b k t):t<2^(b+15):=by
 by_cases h8:k<=8
 .have:=h.1 h8;have:2^(b+2*k-1)<=2^(b+15):=qB OA O;omega
 .have:=h.2 O;have:2^(b+23-k)<=2^(b+15):=qB OA O;omega
set_option maxRecDepth 100000
set_option maxHeartbeats 8000000
theorem qf2{n k m:Nat}(h:n<2^k)(hk:k<=m):bl n<=m:=q0 (vr.2 h) hk
theorem bl_2(b:Nat):bl (2^b)<=b+1:=vr.2 (qH OA (Nat.lt_succ_self b))
theorem zqw{n b j k:Nat}(h:n<2^j*2^b)(hk:b+j<=k):bl n<=k:=q0 (vr.2 (by rw[<-qE,qS]at h;exact h)) hk
theorem n159(n k:Nat)(hk:bl (n*2^k)<=8192)(hk2:k<=65536):Fn 217 [] [.sl .u32 (toL n),.int .i64 k] (.tup [.sl .u32 (toL (n*2^k)),.int .i64 0]) []:=by
 have hn:bl n<=8192:=q0 (zz (Nat.le_mul_of_pos_right n (qA k))) hk;have h218:=y218 (toL n) k (zk n) ((zu n 100000).2 O);rw[zjm,Z7 O,Z7 O,qT]at h218;unfold dnN at h218
 rwa [Z7 O]at h218
theorem n190(a b:Nat)(ha:bl a<=8192)(hb:bl b<=8192)(h0:b≠0):Fn 229 [] [.sl .u32 (toL a),.sl .u32 (toL b)] (.tup [.sl .u32 (toL (a/b)),.sl .u32 (toL (a % b)),.int .i64 0]) []:=by
 have:=y166 a b O O
 rwa [Z7 O,Z7 h0]at this
theorem zxj(n k:Nat)(hk:bl (n*2^k)<=8192)(hk2:k<=65536):Fn 285 [] [.sl .u32 (toL n),.int .i64 k] (.sl .u32 (toL (n*2^k))) []:=by
 refine fY6 Tryz.func285 rfl ?_;refine gYn (n159 n k hk hk2) ?_;exact⟨lr rfl,lh0⟩
theorem qft(n k:Nat)(hn:bl n<=8192)(hk2:k<=65536):Fn 286 [] [.sl .u32 (toL n),.int .i64 k] (.sl .u32 (toL (n/2^k))) []:=by
 refine fY6 Tryz.func286 rfl ?_;refine gYn (v172 n k hn hk2) ?_;exact⟨lr rfl,lh0⟩
theorem qex(n:Int):(wg n).neg =decide (n<0)/\∃m k:Nat,wg n=⟨decide (n<0),toL m,k⟩/\m*2^k=n.natAbs/\k<=bl n.natAbs:=by
 unfold wg cnN;by_cases h:n.natAbs=0
 .rw[Z6 h];have e:decide (n<0)=false:=OE;rw[e];exact⟨rfl,0,0,rfl,O,O⟩
 .rw[Z7 h];obtain⟨m,h1,h2,h3,h4⟩:=zdh h;refine⟨rfl,m,tz n.natAbs,?_,h1.symm,O⟩;rw[h3,Int.zero_add]
theorem c211(n:Int)(h: -4611686018427387904<=n/\n<=4611686018427387904):Fn 287 G0 [.int .i64 n] (.agg (fxC (decide (n<0),n.natAbs))) G0:=by
 have h78:=v77 n h;obtain⟨_,m,k,h1,h2,h3⟩:=qex n;have hb:bl n.natAbs<=64:=vr.2 O;have c:=zxj m k (by rw[h2];omega) O;rw[h1]at h78;rw[h2]at c;refine fY6 Tryz.func287 rfl ?_;refine gYc h78 ?_;refine gYn c ?_;refine gYd ?_;exact⟨lr rfl,leG⟩
theorem c216(a:Fx)(ha:bl a.2<=8192):Fn 292 [] [.agg (fxC a)] (.bool (decide (a.2=0))) []:=by
 have h:=qcm a.2 O;refine fY6 Tryz.func292 rfl ?_;refine gYn h ?_;refine⟨ab0 ?_,lh0⟩;have:= @kj a.2;by_cases h0:a.2=0
 .rw[h0];rfl
 .have h1:bl a.2≠0:=fun c=>h0 (this.1 c)
  simp[h0,h1]
theorem qb0(a:Fx):Fn 282 [] [.agg (fxC a)] (.agg (fxC (ngF a))) []:=by
 refine fY6 Tryz.func282 rfl ?_;exact⟨lr rfl,lh0⟩
theorem zpv(a b:Fx)(ha:bl a.2<=8000)(hb:bl b.2<=8000):Fn 291 [] [.agg (fxC a),.agg (fxC b)] (.agg (fxC (ke a b))) []:=by
 obtain⟨s,n⟩:=a;obtain⟨t,m⟩:=b;simp only at ha hb;have h1:=v263 n m O O;have h2:=qdg n m O O;have key:∀s t:Bool,s≠t->Fn 291 [] [.agg (fxC (s,n)),.agg (fxC (t,m))] (.agg (fxC (if n<m then(t,m-n)else(s,n-m)))) []:=by
  intro s t hst;by_cases h:n<m
  .rw[Z6 h];have h3:=v264 m n O O O;rw[show kd n m= -1 by unfold kd;rw[Z6 h]]at h2;cases s<;>cases t<;>first|exact absurd rfl hst|skip
   all_goals
    refine fY6 Tryz.func291 rfl ?_;refine gYn h2 ?_;refine gYn h3 ?_;exact⟨lr rfl,lh0⟩
  .rw[Z7 h];have h3:=v264 n m O O O;obtain⟨z,hz,hz0⟩:∃z,kd n m=z/\(z=0\/z=1):=⟨_,rfl,by unfold kd;rw[Z7 h];split<;>simp⟩;rw[hz]at h2;rcases hz0 with rfl|rfl<;>cases s<;>cases t<;>first|exact absurd rfl hst|skip
   all_goals
    refine fY6 Tryz.func291 rfl ?_;refine gYn h2 ?_;refine gYn h3 ?_;exact⟨lr rfl,lh0⟩
 by_cases hst:s=t
 .subst hst;have e:ke (s,n) (s,m)=(s,n+m):=by unfold ke;rw[Z6 rfl]
  rw[e];cases s
  all_goals
   refine fY6 Tryz.func291 rfl ?_;refine gYn h1 ?_;exact⟨lr rfl,lh0⟩
 .have e:ke (s,n) (t,m)=if n<m then(t,m-n)else(s,n-m):=by unfold ke;rw[Z7 hst]
  rw[e];exact key s t hst
theorem c212(a c:Fx)(b:Nat)(ha:bl a.2<=4000)(hc:bl c.2<=4000)(hb:b<=65536):Fn 288 [] [.agg (fxC a),.agg (fxC c),.int .i64 b] (.agg (fxC (zlg a c b))) []:=by
 have hm:=yi a.2 c.2;have h1:=qde a.2 c.2 O O O;have h2:=qft (a.2*c.2) b O hb;refine fY6 Tryz.func288 rfl ?_;refine gYn h1 ?_;refine gYn h2 ?_;refine gYd ?_;refine⟨lg0 (lc (ab0 ?_) (lc (lr rfl) ln0)),lh0⟩;obtain⟨s,_⟩:=a;obtain⟨t,_⟩:=c;cases s<;>cases t<;>rfl
theorem c279(a:Fx)(n:Nat)(ha:bl a.2<=8192)(hn:1<=n/\n<=4611686018427387904):Fn 306 G0 [.agg (fxC a),.int .i64 n] (.agg (fxC (byF a n))) G0:=by
 have h1:=c211 n O;rw[(OC:decide ((n:Int)<0)=false),qO]at h1;have h2:=n190 a.2 n ha (qf2 (k:=64) O OA) O;refine fY6 Tryz.func306 rfl ?_;refine gYc h1 ?_;refine gYn h2 ?_;refine gYd ?_;exact⟨lr rfl,leG⟩
theorem zwh{d:Dy}{b t:Nat}(_hd:VD d)(ht:zn d<=t):(ofF d b).2<2^(b+t):=by
 unfold ofF;simp only;by_cases h0:nm d=0
 .rw[h0];split<;>simp[qA]
 .have e:zn d=bl (nm d)+d.e:=by unfold zn;rw[Z7 h0]
  have hl:=zaq (nm d);split
  .rename_i c;refine(qM (qA _)).2 ?_;rw[<-qE];exact qP hl (qB OA O)
  .rename_i c;have:=qJ hl (qA (d.e+b).toNat);rw[<-qE]at this;exact qP this (qB OA O)
theorem c214{d:Dy}(hd:VD d)(b t:Nat)(ht:zn d<=t)(hb:b<=2000)(hbt:b+t<=8000):Fn 290 [] [.agg (dyC d),.int .i64 b] (.agg (fxC (ofF d b))) []:=by
 have hof:=zwh (b:=b) hd ht;have he:=hd.exp;have hbits:=hd.bits;have heq:=hd.eq;have hw:w1.wrap (d.e+b)=d.e+b:=wI O;unfold ofF at hof⊢;simp only at hof;by_cases h:d.e+b<0
 .rw[Z6 h]at hof⊢;have h2:=qft (nm d) (-(d.e+b)).toNat O O;have e:(((-(d.e+b)).toNat :Nat):Int)= -(d.e+b):=O;rw[e]at h2;generalize nm d/2^(-(d.e+b)).toNat =R at*;rw[<-heq]at h2;have hw2:w1.wrap (0-(d.e+b))= -(d.e+b):=by rw[wI O];omega
  refine fY6 Tryz.func290 rfl ?_;rw[hw];refine brI (fun _=>?_) (fun k1=>?_)
  .conv=>whnf
   rw[hw2];refine gYn h2 ?_;refine gYd ?_;exact⟨lr rfl,lh0⟩
  .exact absurd h (Z3 k1)
 .rw[Z7 h]at hof⊢;have h2:=zxj (nm d) (d.e+b).toNat (q0 (vr.2 hof) O) O;have e:(((d.e+b).toNat :Nat):Int)=d.e+b:=O;rw[e]at h2;generalize nm d*2^(d.e+b).toNat =R at*;rw[<-heq]at h2;refine fY6 Tryz.func290 rfl ?_;rw[hw];refine brI (fun k1=>?_) (fun _=>?_)
  .exact absurd (Z0 k1) h
  .conv=>whnf
   rw[hw];refine gYn h2 ?_;refine gYd ?_;exact⟨lr rfl,lh0⟩
abbrev Hn(n:Nat):Hp:= [(qi,.gst JT),(1000001,.cells [.int .i64 n])]
theorem leHn{h h':Hp}(n:Nat):leH h h' (Hn n) (Hn n):=lh1 (bg0 rfl) (lh1 (bc0 (lc (lr rfl) ln0)) lh0)
theorem toL1:toL 1= [1]:=rfl
theorem c319(n:Nat)(hn:2<=n/\n<=1000)(a:Fx)(ha:bl a.2<=8192):Fn 313 (Hn n) [.agg (fxC a),.ptr 1000001 0] (.agg (fxC (byF a (n*n)))) (Hn n):=by
 have hq:n*n<=1000*1000:=qK hn.2 hn.2;have hq2:2*2<=n*n:=qK hn.1 hn.1;have h:=c279 a (n*n) ha O;have hw:w1.wrap ((n:Int)*(n:Int))=((n*n:Nat):Int):=by
  have:((n*n:Nat):Int)=(n:Int)*(n:Int):=by push_cast;rfl
  rw[<-this];exact wI O
 refine fY6 Tryz.func313 rfl ?_;rw[hw];refine gYc h ?_;exact⟨lr rfl,leHn n⟩
theorem c318(n:Nat)(hn:2<=n/\n<=1000)(b:Nat)(hb:b<=2000)(w0:Fx)(hw0:w0.2<2^b):
 Fn 312 (Hn n) [.agg (fxC w0),.fn 313 [.ptr 1000001 0]] (.agg (fxC (alG (n*n) (b+1) 1 w0 w0))) (Hn n):=by
 have hq2:2*2<=n*n:=qK hn.1 hn.1;obtain⟨E,hE⟩:∃E,alG (n*n) (b+1) 1 w0 w0=E:=⟨_,rfl⟩;rw[hE];refine fY6 Tryz.func312 rfl ?_;refine⟨Nat×Nat×Fx×Fx,fun x=>1<=x.2.1/\x.2.1+x.1=b+2/\1<=x.1/\x.2.2.1.2<2^(x.1-1)/\x.2.2.2.2+x.2.2.1.2<=2*2^b/\alG (n*n) x.1 x.2.1 x.2.2.1 x.2.2.2=E,fun x=> [(6,.int .i64 x.2.1)],fun x=> [(2,.cells (fxC x.2.2.1)),(5,.cells (fxC x.2.2.2)),(7,.free)],fun x=>x.1,
  (b+1,1,w0,w0),⟨qL 1,OD,OD,by simpa using hw0,OD,hE⟩,?_,fun x hx=>?_⟩
 .exact KZ0
 refine gYe ?_;obtain⟨f,k,w,s⟩:=x;obtain⟨hx1,hx2,hx3,hx4,hx5,hx6⟩:=hx;simp only at hx1 hx2 hx3 hx4 hx5 hx6
 cases f with
 |zero=>omega
 |succ f=>
  simp only[alG]at hx6;simp only[Nat.add_sub_cancel]at hx4;have bz:=qA b;have bw:bl w.2<=2002:=zqw (j:=2) (b:=b) O O;have bs:bl s.2<=2002:=zqw (j:=2) (b:=b) O O;clear bz;have c1:=c319 n hn w O;have hv2:(byF w (n*n)).2=w.2/(n*n):=rfl;have hhalf:=zpm (w:=w.2) (m:=n*n) O;have c2:=c216 (byF w (n*n)) (by rw[hv2];exact q0 (zz (q4 _ _)) O);rw[hv2]at c2;by_cases hz:w.2/(n*n)=0
  .rw[Z6 hz]at hx6;subst hx6;rw[Z8 hz]at c2;generalize byF w (n*n)=v at*;clear hE;refine⟨[.gst JT,.cells [.int .i64 n]],_,c1,?_⟩;conv=>whnf
   refine gYn c2 ?_;exact⟨lr rfl,leHn n⟩
  .rw[Z7 hz]at hx6;rw[Z9 hz]at c2;have bv:bl (byF w (n*n)).2<=2002:=by rw[hv2];exact q0 (zz (q4 _ _)) bw
   have c3:=c279 (byF w (n*n)) (2*k+1) O O;have hal:=al_t w (n*n) k;have hadd:=zb1 s (if k % 2=1 then ngF (byF (byF w (n*n)) (2*k+1))else byF (byF w (n*n)) (2*k+1));have bu:bl (byF (byF w (n*n)) (2*k+1)).2<=2002:=q0 (zz (q4 _ _)) bv;have c4:=qb0 (byF (byF w (n*n)) (2*k+1));have c5:=zpv s (ngF (byF (byF w (n*n)) (2*k+1))) O (by show bl (byF (byF w (n*n)) (2*k+1)).2<=8000;omega);have c6:=zpv s (byF (byF w (n*n)) (2*k+1)) O O;have hf:1<=f:=by
    rcases Nat.eq_zero_or_pos f with rfl|h
    .simp at hx4;rw[hx4]at hz;simp at hz
    .exact h
   have hlt:w.2/(n*n)<2^(f-1):=by
    have:2^f=2^(f-1)*2:=by rw[<-qV];congr 1;omega
    omega
   have hw1:w1.wrap (w1.wrap (2*(k:Int))+1)=((2*k+1:Nat):Int):=by
    rw[wI (x:=2*(k:Int)) O,wI O];omega
   generalize byF (byF w (n*n)) (2*k+1)=u at*;rw[<-hv2]at hlt hal hhalf;clear hv2 hE hz hx4;generalize byF w (n*n)=v at*;by_cases hk:k % 2=1
   .rw[Z6 hk]at hx6 hal hadd;generalize ngF u=t at*;generalize ke s t=S at*;refine⟨[.gst JT,.cells [.int .i64 n]],_,c1,?_⟩;conv=>whnf
    refine gYn c2 ?_;rw[hw1];refine gYc c3 ?_;refine⟨OA,?_⟩;conv=>whnf
    refine brI (fun k1=>?_) (fun k1=>?_)
    .conv=>whnf
     refine gYn c4 ?_;refine gYn c5 ?_;refine⟨(f,k+1,v,S),⟨OD,OD,OD,OD,OD,hx6⟩,by show f<f+1;omega,?_⟩;exact KZ0
    .exfalso;have k1:¬(k:Int).tmod 2=1:=Z3 k1;rw[q3 O]at k1;omega
   .rw[Z7 hk]at hx6 hal hadd;generalize ke s u=S at*;refine⟨[.gst JT,.cells [.int .i64 n]],_,c1,?_⟩;conv=>whnf
    refine gYn c2 ?_;rw[hw1];refine gYc c3 ?_;refine⟨OA,?_⟩;conv=>whnf
    refine brI (fun k1=>?_) (fun k1=>?_)
    .exfalso;have k1:(k:Int).tmod 2=1:=Z0 k1;rw[q3 O]at k1;omega
    .conv=>whnf
     refine gYn c6 ?_;refine⟨(f,k+1,v,S),⟨OD,OD,OD,OD,OD,hx6⟩,by show f<f+1;omega,?_⟩;exact KZ0
theorem c280(n:Nat)(hn:2<=n/\n<=1000)(b:Nat)(hb:b<=2000):Fn 307 G0 [.int .i64 n,.int .i64 b] (.agg (fxC (aiF n b))) G0:=by
 have c1:=zxj 1 b (by rw[qF];have:=bl_2 b;omega) O;rw[qF,toL1]at c1;have hb1:bl (2^b)<=2001:=by have:=bl_2 b;omega
 have c2:=c279 (false,2^b) n OD O;have hz:=qA b;have c3:=c318 n hn b hb (false,2^b/n) (Nat.div_lt_self hz O);show Fn 307 G0 [.int .i64 n,.int .i64 b] (.agg (fxC (alG (n*n) (b+1) 1 (false,2^b/n) (false,2^b/n)))) G0;generalize alG (n*n) (b+1) 1 (false,2^b/n) (false,2^b/n)=R at*;have c2:Fn 306 G0 [.agg [.bool false,.sl .u32 (toL (2^b))],.int .i64 n] (.agg [.bool false,.sl .u32 (toL (2^b/n))]) G0:=c2;have c3:Fn 312 (Hn n) [.agg [.bool false,.sl .u32 (toL (2^b/n))],.fn 313 [.ptr 1000001 0]] (.agg (fxC R)) (Hn n):=c3;generalize toL (2^b/n)=X at*;generalize toL (2^b)=Y at*;refine fY6 Tryz.func307 rfl ?_;refine gYn c1 ?_;refine gYc c2 ?_;refine⟨[.gst JT,.cells [.int .i64 n]],_,c3.sw [(2,1000001)] rfl,?_⟩;conv=>whnf
 exact⟨lr rfl,leG⟩
theorem c208(b:Nat)(hb:b<=2000):Fn 284 G0 [.int .i64 b] (.agg (fxC (piF b))) G0:=by
 have c1:=c280 5 OA b hb;have c2:=c280 239 OA b hb;have b1:=qf7 5 (b:=b) OA;have b2:=qf7 239 (b:=b) OA;have bz:=qA b;have hR:piF b=ke (false,(aiF 5 b).2*2^4) (true,(aiF 239 b).2*2^2):=rfl;generalize aiF 5 b=A at*;generalize aiF 239 b=B at*;have z1:bl (A.2*2^4)<=2010:=zqw (j:=6) (b:=b) O O;have z2:bl (B.2*2^2)<=2010:=zqw (j:=6) (b:=b) O O;clear bz b1 b2;have c3:=zxj A.2 4 O OA;have c4:=zxj B.2 2 O OA;have c5:=zpv (false,A.2*2^4) (true,B.2*2^2) OD OD;rw[<-hR]at c5;clear hR z1 z2;generalize piF b=R at*;have c5:Fn 291 [] [.agg [.bool false,.sl .u32 (toL (A.2*2^4))],.agg [.bool true,.sl .u32 (toL (B.2*2^2))]] (.agg (fxC R)) []:=c5;generalize toL (A.2*2^4)=X at*;generalize toL (B.2*2^2)=Y at*;refine fY6 Tryz.func284 rfl ?_;refine gYc c1 ?_;refine gYc c2 ?_;refine gYn c3 ?_;refine gYn c4 ?_;refine gYn c5 ?_;refine gYd ?_;exact⟨lr rfl,leG⟩
theorem toL0:toL 0= []:=rfl
theorem and3(y:Nat)(h:y<4294967296):w1.wrap (w2.wrap ((qG w2.bits (y:Int)&&& qG w2.bits 3).toNat :Int))=((y % 4:Nat):Int):=by
 have e1:(qG w2.bits (y:Int)&&& qG w2.bits 3).toNat =y % 4:=by
  rw[BitVec.toNat_and,qN,show(3:Int)=((3:Nat):Int)from rfl,qN,qQ,qQ];show y % 2^32&&& 3 % 2^32=_;rw[Nat.mod_eq_of_lt (by omega:y<2^32)];exact Nat.and_two_pow_sub_one_eq_mod y 2
 rw[e1,zp7 O,wI O]
theorem and3b{k:Nat}(h:k<4):w1.wrap ((qG w1.bits (w1.wrap (4-(k:Int)))&&& qG w1.bits 3).toNat :Int)=(((4-k) % 4:Nat):Int):=by
 obtain rfl|rfl|rfl|rfl:k=0\/k=1\/k=2\/k=3:=O
 all_goals decide
theorem c204{d:Dy}(hd:VD d)(ht:zn d<=100)(b:Nat)(hb:b<=1000):Fn 280 G0 [.agg (dyC d),.int .i64 b] (.tup [.agg (fxC (rdF d b)),.int .i64 (rdK d b)]) G0:=by
 have c1:=zn0 hd;have hlow: -100000<=zn d:=by
  have:=hd.exp;unfold zn;split<;>omega
 have hmax:(if(0:Int)>zn d then 0 else zn d)=((max (zn d) 0).toNat :Int):=by split<;>omega
 have hT:rdT d b=b+(max (zn d) 0).toNat +40:=rfl;have hQ:rdQ d b=(ofF d (rdT d b)).2/((piF (rdT d b)).2/2):=rfl;have hF:rdF d b=(d.neg,(ofF d (rdT d b)).2 % ((piF (rdT d b)).2/2)/2^((max (zn d) 0).toNat +40)):=rfl;have hK:rdK d b=if d.neg=true then(4-rdQ d b % 4) % 4 else rdQ d b % 4:=rfl
 have hX1:(ofF d (rdT d b)).1=d.neg:=rfl;have hm:(max (zn d) 0).toNat <=100:=O;have hTle:rdT d b<=1140:=O;have hpi:=qai (b:=rdT d b) O;have hof:=zwh (b:=rdT d b) (t:=100) hd ht;have c3:=c208 (rdT d b) O;have c4:=c214 hd (rdT d b) 100 ht O O;generalize rdQ d b=q at*;generalize rdF d b=R at*;generalize rdK d b=k at*;have p1:=qA (rdT d b);have p2:bl (ofF d (rdT d b)).2<=rdT d b+100:=vr.2 hof;have hw1:w1.wrap (w1.wrap ((b:Int)+((max (zn d) 0).toNat :Int))+40)=(rdT d b:Int):=by
  rw[wI (x:=(b:Int)+((max (zn d) 0).toNat :Int)) O,wI O];omega
 have hw2:w1.wrap (((max (zn d) 0).toNat :Int)+40)=(((max (zn d) 0).toNat +40:Nat):Int):=by rw[wI O];omega
 generalize (max (zn d) 0).toNat =t at*;generalize rdT d b=c at*;generalize piF c=P at*;generalize ofF d c=X at*;have bP:bl P.2<=1144:=zqw (j:=4) (b:=c) O O;have c5:=qft P.2 1 O OA;rw[Nat.pow_one]at c5;have bX:bl X.2<=1240:=O;have hh0:P.2/2≠0:=O;generalize hh:P.2/2=h at*;have bh:bl h<=1144:=by rw[<-hh];exact q0 (zz (q4 _ _)) bP
 have c6:=n190 X.2 h O O hh0;rw[<-hQ]at c6;have hqh:q*h<=X.2:=by rw[hQ];exact qC _ _
 have hqle:q<=X.2:=by rw[hQ];exact q4 _ _
 have bq:bl q<=1240:=q0 (zz hqle) bX;have bqh:bl (q*h)<=1240:=q0 (zz hqh) bX;have c7:=qde q h O O O;have c8:=zpv (d.neg,X.2) (!d.neg,q*h) OD OD;have hadd:ke (d.neg,X.2) (!d.neg,q*h)=(d.neg,X.2 % h):=by
  unfold ke;rw[Z7 (by cases d.neg<;>simp),Z7 OD];have:=Nat.div_add_mod X.2 h;rw[<-hQ,Nat.mul_comm]at this;simp only[Prod.mk.injEq,true_and];omega
 rw[hadd]at c8;have c9:=qft (X.2 % h) (t+40) (q0 (zz (qZ _ _)) O) O;clear hadd hqh hqle bq bqh bh hh0 hh bX bP p1 p2 hof hpi hT hTle;obtain⟨d1,d2,d3⟩:=d;simp only at*;obtain⟨X1,X2⟩:=X;simp only at*;subst hX1;replace c8:Fn 291 [] [.agg [.bool X1,.sl .u32 (toL X2)],.agg [.bool (!X1),.sl .u32 (toL (q*h))]] (.agg [.bool X1,.sl .u32 (toL (X2 % h))]) []:=c8;replace c4:Fn 290 [] [.agg [.bool X1,.sl .u32 d2,.int .i64 d3],.int .i64 c] (.agg [.bool X1,.sl .u32 (toL X2)]) []:=c4;have hR:fxC R= [.bool X1,.sl .u32 (toL (X2 % h/2^(t+40)))]:=by rw[hF];rfl
 rw[hR];clear hR hF;generalize toL (X2 % h/2^(t+40))=L1 at*;generalize toL (X2 % h)=L2 at*;generalize toL (q*h)=L3 at*;generalize toL h=L4 at*;generalize zn ⟨X1,d2,d3⟩=tt at*;clear hQ;by_cases hq:q=0
 .subst hq;rw[toL0]at c6 c7;cases X1
  all_goals
   refine fY6 Tryz.func280 rfl ?_;refine gYn c1 ?_;rw[hmax,hw1];refine gYc c3 ?_;refine gYn c5 ?_;refine gYn c4 ?_;refine gYn c6 ?_;refine gYn c7 ?_;refine gYn c8 ?_;rw[hw2];refine gYn c9 ?_;refine gYd ?_;refine⟨lt0 (lc (lr rfl) (lc (ai0 ?_) ln0)),leG⟩;rw[hK];rfl
 .have hcons:=uj hq;rw[hcons]at c6 c7;have hk4:(q % 4294967296) % 4=q % 4:=O;have hlt:q % 4294967296<4294967296:=qU _ OA;generalize q % 4294967296=y at*;generalize toL (q/4294967296)=ys at*;cases X1
  all_goals
   refine fY6 Tryz.func280 rfl ?_;refine gYn c1 ?_;rw[hmax,hw1];refine gYc c3 ?_;refine gYn c5 ?_;refine gYn c4 ?_;refine gYn c6 ?_;refine gYn c7 ?_;refine gYn c8 ?_;refine brI (fun _=>?_) (fun k1=>?_)
   rotate_left
   .have k1:=Z3 k1;rw[List.length_cons]at k1;omega
   conv=>whnf
   refine⟨⟨O,OC⟩,fun x hx=>?_⟩;obtain rfl:x=y:=by simpa using hx.symm
   conv=>whnf
   rw[hw2];refine gYn c9 ?_;refine gYd ?_;refine⟨lt0 (lc (lr rfl) (lc (ai0 ?_) ln0)),leG⟩;rw[and3 y hlt,hk4,hK]
   first|rfl|exact and3b (qU _ OA)
theorem c205(x:Fx)(b:Nat)(hb:1<=b/\b<=1000)(hx:x.2<=4*2^b):Fn 281 G0 [.agg (fxC x),.int .i64 b] (.tup [.agg (fxC (seF x b).1),.agg (fxC (seF x b).2)]) G0:=by
 obtain⟨E,hE⟩:∃E,seF x b=E:=⟨_,rfl⟩;rw[hE];unfold seF at hE;have c1:=zxj 1 b (by rw[qF];have:=bl_2 b;omega) O;rw[qF,toL1]at c1;have bz:=qA b;have b15:2^(b+15)=32768*2^b:=by rw[qS,qE]
 have h0:seB b 1 (2^b):=⟨fun _=>qH OA O,fun c=>absurd c OA⟩;have bx:bl x.2<=1010:=zqw (j:=3) (b:=b) O O;refine fY6 Tryz.func281 rfl ?_;refine gYn c1 ?_;refine⟨Nat×Nat×Fx×Fx×Fx,fun y=>1<=y.2.1/\y.2.1+y.1=b+24/\1<=y.1/\seB b y.2.1 y.2.2.1.2/\y.2.2.2.1.2<=y.2.1*2^(b+15)/\y.2.2.2.2.2<=y.2.1*2^(b+15)/\seG x b y.1 y.2.1 y.2.2.1 y.2.2.2.1 y.2.2.2.2=E,fun y=> [(8,.int .i64 y.2.1)],fun y=> [(7,.cells (fxC y.2.2.1)),(4,.cells (fxC y.2.2.2.1)),(5,.cells (fxC y.2.2.2.2)),(9,.free)],fun y=>y.1,
  (b+23,1,(false,2^b),(false,0),(false,2^b)),⟨qL 1,OD,OD,h0,qX _,OD,hE⟩,?_,fun y hy=>?_⟩
 .exact KZ0
 refine gYe ?_;obtain⟨f,k,t,s,c⟩:=y;obtain⟨hy1,hy2,hy3,hy4,hy5,hy6,hy7⟩:=hy;simp only at hy1 hy2 hy3 hy4 hy5 hy6 hy7
 cases f with
 |zero=>omega
 |succ f=>
  simp only[seG]at hy7;have ht:=zjo O hy4;have hkb:k*2^(b+15)<=1024*2^(b+15):=qI _ O;have bt:bl t.2<=1030:=q0 (vr.2 ht) O;have bs:bl s.2<=1030:=zqw (j:=26) (b:=b) O O;have bc:bl c.2<=1030:=zqw (j:=26) (b:=b) O O;have c2:=c212 t x b O O O;have hm:bl (zlg t x b).2<=2040:=by
   show bl (t.2*x.2/2^b)<=2040;have h1:=zz (q4 (t.2*x.2) (2^b));have h2:=yi t.2 x.2;omega
  have c3:=c279 (zlg t x b) k O O;have hst:seB b (k+1) (byF (zlg t x b) k).2\/(byF (zlg t x b) k).2=0:=by
   by_cases hk:k<b+23
   .exact .inl (zr8 hx hy1 hk hy4)
   .right;have hk':k=b+23:=O;have:=hy4.2 O;rw[hk']at this;have h0:t.2=0:=by rw[(O:b+23-(b+23)=0)]at this;omega
    show t.2*x.2/2^b/k=0;rw[h0];simp
  generalize zlg t x b=M at*;have hv1:bl (byF M k).2<=2040:=q0 (zz (q4 _ _)) hm;generalize byF M k=v at*;have c4:=c216 v O;have c5:=qb0 v;clear hE h0 hy4 ht hm;by_cases hz:v.2=0
  .rw[Z6 hz]at hy7;subst hy7;rw[Z8 hz]at c4;refine gYn c2 ?_;refine gYc c3 ?_;refine gYn c4 ?_;refine gYd ?_;exact⟨lr rfl,leG⟩
  rw[Z7 hz]at hy7;rw[Z9 hz]at c4;have hst:=hst.resolve_right hz;have hkk:k<b+23:=by
   rcases qW k (b+23)with h|h
   .exact h
   .exfalso;have:=hst.2 O;rw[(O:b+23-(k+1)=0)]at this;omega
  have hv2:=zjo O hst;have bv:bl v.2<=1030:=q0 (vr.2 hv2) O;have hk1:(k+1)*2^(b+15)=k*2^(b+15)+2^(b+15):=by rw[qY,qF]
  obtain⟨u,hu,hu2,hcase⟩:∃u:Fx,(if 2<=k % 4 then ngF v else v)=u/\u.2=v.2/\(2<=k % 4/\u=ngF v\/¬2<=k % 4/\u=v):=by
   by_cases h:2<=k % 4
   .exact⟨ngF v,by rw[Z6 h],rfl,.inl ⟨h,rfl⟩⟩
   .exact⟨v,by rw[Z7 h],rfl,.inr ⟨h,rfl⟩⟩
  rw[hu]at hy7;have bu:bl u.2<=1030:=by rw[hu2];exact bv
  have c6:=zpv s u O O;have c7:=zpv c u O O;have a6:=zb1 s u;have a7:=zb1 c u;clear hu;generalize 2^(b+15)=Zq at*;by_cases hp:k % 2=1
  .rw[Z6 hp]at hy7;generalize ke s u=S at*;rcases hcase with ⟨h4,rfl⟩|⟨h4,rfl⟩
   .generalize ngF v=u at*;refine gYn c2 ?_;refine gYc c3 ?_;refine gYn c4 ?_;refine⟨OA,?_⟩;conv=>whnf
    refine brI (fun k1=>?_) (fun k1=>?_)
    rotate_left
    .exfalso;have k1:¬2<=(k:Int).tmod 4:=Z3 k1;rw[q3 O]at k1;omega
    conv=>whnf
    refine gYn c5 ?_;refine⟨OA,?_⟩;conv=>whnf
    refine brI (fun k1=>?_) (fun k1=>?_)
    rotate_left
    .exfalso;have k1:¬(k:Int).tmod 2=1:=Z3 k1;rw[q3 O]at k1;omega
    conv=>whnf
    refine gYn c6 ?_;refine⟨(f,k+1,v,S,c),⟨OD,OD,OD,hst,OD,OD,hy7⟩,by show f<f+1;omega,?_⟩;exact KZ0
   .refine gYn c2 ?_;refine gYc c3 ?_;refine gYn c4 ?_;refine⟨OA,?_⟩;conv=>whnf
    refine brI (fun k1=>?_) (fun k1=>?_)
    .exfalso;have k1:2<=(k:Int).tmod 4:=Z0 k1;rw[q3 O]at k1;omega
    conv=>whnf
    refine⟨OA,?_⟩;conv=>whnf
    refine brI (fun k1=>?_) (fun k1=>?_)
    rotate_left
    .exfalso;have k1:¬(k:Int).tmod 2=1:=Z3 k1;rw[q3 O]at k1;omega
    conv=>whnf
    refine gYn c6 ?_;refine⟨(f,k+1,u,S,c),⟨OD,OD,OD,hst,OD,OD,hy7⟩,by show f<f+1;omega,?_⟩;exact KZ0
  .rw[Z7 hp]at hy7;generalize ke c u=S at*;rcases hcase with ⟨h4,rfl⟩|⟨h4,rfl⟩
   .generalize ngF v=u at*;refine gYn c2 ?_;refine gYc c3 ?_;refine gYn c4 ?_;refine⟨OA,?_⟩;conv=>whnf
    refine brI (fun k1=>?_) (fun k1=>?_)
    rotate_left
    .exfalso;have k1:¬2<=(k:Int).tmod 4:=Z3 k1;rw[q3 O]at k1;omega
    conv=>whnf
    refine gYn c5 ?_;refine⟨OA,?_⟩;conv=>whnf
    refine brI (fun k1=>?_) (fun k1=>?_)
    .exfalso;have k1:(k:Int).tmod 2=1:=Z0 k1;rw[q3 O]at k1;omega
    conv=>whnf
    refine gYn c7 ?_;refine⟨(f,k+1,v,s,S),⟨OD,OD,OD,hst,OD,OD,hy7⟩,by show f<f+1;omega,?_⟩;exact KZ0
   .refine gYn c2 ?_;refine gYc c3 ?_;refine gYn c4 ?_;refine⟨OA,?_⟩;conv=>whnf
    refine brI (fun k1=>?_) (fun k1=>?_)
    .exfalso;have k1:2<=(k:Int).tmod 4:=Z0 k1;rw[q3 O]at k1;omega
    conv=>whnf
    refine⟨OA,?_⟩;conv=>whnf
    refine brI (fun k1=>?_) (fun k1=>?_)
    .exfalso;have k1:(k:Int).tmod 2=1:=Z0 k1;rw[q3 O]at k1;omega
    conv=>whnf
    refine gYn c7 ?_;refine⟨(f,k+1,u,s,S),⟨OD,OD,OD,hst,OD,OD,hy7⟩,by show f<f+1;omega,?_⟩;exact KZ0
theorem qga(neg:Bool)(n:Nat)(e:Int):VD (mkN neg n e).1:=by
 unfold mkN;split
 .exact qv
 .unfold ckN;split
  .rename_i h;exact zhs h
  .exact qv
def neX(a:Fx)(b:Nat)(s:Bool):Dy×Int:=mkN (ke a (s,2^24)).1 (ke a (s,2^24)).2 (-(b:Int))
def neI(a:Fx)(b p:Nat):Iv:=if(neX a b true).2≠0\/(neX a b false).2≠0 then wI0 else vl (qm (neX a b true).1 p false) (qm (neX a b false).1 p true)
theorem CI_ne(a:Fx)(b p:Nat)(hp:8<=p/\p<=512):CI (neI a b p):=by
 unfold neI;split
 .exact zhu
 .exact yb (jk _ _ _ hp) (jk _ _ _ hp)
theorem c207(a:Fx)(b p:Nat)(hb:b<=2000)(hp:8<=p/\p<=512)(ha:bl a.2<=4000):Fn 283 G0 [.agg (fxC a),.int .i64 b,.int .i64 p] (.agg (ivC (neI a b p))) G0:=by
 have c1:=zxj 1 24 OB OA;rw[toL1,qF]at c1;have b24:bl (2^24)<=30:=vr.2 OA;have h25:=i25;rw[e25]at h25;have hX:neX a b true=mkN (ke a (true,2^24)).1 (ke a (true,2^24)).2 (-(b:Int)):=rfl;have hY:neX a b false=mkN (ke a (false,2^24)).1 (ke a (false,2^24)).2 (-(b:Int)):=rfl;have hR:neI a b p=if(neX a b true).2≠0\/(neX a b false).2≠0 then wI0 else vl (qm (neX a b true).1 p false) (qm (neX a b false).1 p true):=rfl
 generalize hz:2^24=z at*;clear hz;have bs:∀s,bl (ke a (s,z)).2<=4001:=fun s=>q0 (zz (zb1 a (s,z))) (zhp ha (O:bl z<=4000))
 have c2:=qb0 (false,z);have c3:=zpv a (true,z) O OD;have c4:=zpv a (false,z) O OD;have c5:=v265 (ke a (true,z)).1 (ke a (true,z)).2 (-(b:Int)) (by have:=bs true;omega) O;have c6:=v265 (ke a (false,z)).1 (ke a (false,z)).2 (-(b:Int)) (by have:=bs false;omega) O;rw[<-hX]at c5;rw[<-hY]at c6;have vx:VD (neX a b true).1:=by rw[hX];exact qga _ _ _
 have vy:VD (neX a b false).1:=by rw[hY];exact qga _ _ _
 clear hX hY bs;generalize neI a b p=R at*;generalize neX a b true=X at*;generalize neX a b false=Y at*;have c2:Fn 282 [] [.agg [.bool false,.sl .u32 (toL z)]] (.agg [.bool true,.sl .u32 (toL z)]) []:=c2;have c3:Fn 291 [] [.agg (fxC a),.agg [.bool true,.sl .u32 (toL z)]] (.agg (fxC (ke a (true,z)))) []:=c3;have c4:Fn 291 [] [.agg (fxC a),.agg [.bool false,.sl .u32 (toL z)]] (.agg (fxC (ke a (false,z)))) []:=c4;generalize ke a (true,z)=A at*;generalize ke a (false,z)=B at*;generalize toL z=Zq at*;have hw:w1.wrap (0-(b:Int))= -(b:Int):=by rw[wI O];omega
 have c7:=v185 vx p hp;have c8:=v184 vy p hp;clear vx vy;generalize qm X.1 p false=U at*;generalize qm Y.1 p true=V at*;obtain⟨X,x⟩:=X;obtain⟨Y,y⟩:=Y;obtain⟨U,u⟩:=U;obtain⟨V,v⟩:=V;simp only at*;have nz:∀ {z:Int}{b:Bool},(z != 0)=b->(b=true->z≠0)/\(b=false->z=0):=fun h=>⟨fun c=>by subst c;simpa using h,fun c=>by subst c;simpa using h⟩
 refine fY6 Tryz.func283 rfl ?_;refine gYn c1 ?_;refine gYn c2 ?_;refine gYn c3 ?_;refine gYn c4 ?_;refine gYd ?_;rw[hw];refine gYc c5 ?_;rw[hw];refine gYc c6 ?_;refine brI (fun k1=>?_) (fun k1=>?_)
 .rw[Z6 (.inl ((nz k1).1 rfl))]at hR;subst hR;conv=>whnf
  refine gYn h25 ?_;exact⟨lr rfl,leG⟩
 conv=>whnf
 refine brI (fun k2=>?_) (fun k2=>?_)
 .rw[Z6 (.inr ((nz k2).1 rfl))]at hR;subst hR;conv=>whnf
  refine gYn h25 ?_;exact⟨lr rfl,leG⟩
 rw[Z7 fun c=>c.elim (fun c=>c ((nz k1).2 rfl)) (fun c=>c ((nz k2).2 rfl))]at hR;conv=>whnf
 refine gYc c7 ?_;refine gYc c8 ?_;refine brI (fun k3=>?_) (fun k3=>?_)
 .unfold vl at hR;rw[Z6 (.inl ((nz k3).1 rfl))]at hR;subst hR;conv=>whnf
  refine gYn h25 ?_;exact⟨lr rfl,leG⟩
 conv=>whnf
 refine brI (fun k4=>?_) (fun k4=>?_)
 .unfold vl at hR;rw[Z6 (.inr ((nz k4).1 rfl))]at hR;subst hR;conv=>whnf
  refine gYn h25 ?_;exact⟨lr rfl,leG⟩
 unfold vl at hR;rw[Z7 fun c=>c.elim (fun c=>c ((nz k3).2 rfl)) (fun c=>c ((nz k4).2 rfl))]at hR;subst hR;conv=>whnf
 exact⟨lr rfl,leG⟩
theorem zr9{x:Fx}{b:Nat}(hx:x.2<=4*2^b):∀(f k:Nat)(t s c:Fx),1<=k->k+f=b+24->seB b k t.2->s.2<=k*2^(b+15)->c.2<=k*2^(b+15)->
 (seG x b f k t s c).1.2<=(b+24)*2^(b+15)/\(seG x b f k t s c).2.2<=(b+24)*2^(b+15)
 |0,k,t,s,c,_,h2,_,h4,h5=>by
  have e:k=b+24:=O;subst e;exact⟨h4,h5⟩
 |f+1,k,t,s,c,h1,h2,h3,h4,h5=>by
  have hm:k*2^(b+15)<=(b+24)*2^(b+15):=qI _ O;simp only[seG];by_cases hz:(byF (zlg t x b) k).2=0
  .rw[Z6 hz];exact⟨OD,OD⟩
  rw[Z7 hz];have hk:k<b+23:=by
   rcases qW k (b+23)with h|h
   .exact h
   .exfalso;have:=h3.2 O;rw[(O:b+23-k=0)]at this;have h0:t.2=0:=O;apply hz;show t.2*x.2/2^b/k=0;rw[h0];simp
  have hst:seB b (k+1) (byF (zlg t x b) k).2:=zr8 hx h1 hk h3;generalize byF (zlg t x b) k=v at*;have hv:=zjo O hst;have hu:(if 2<=k % 4 then ngF v else v).2=v.2:=by split<;>rfl
  generalize (if 2<=k % 4 then ngF v else v)=u at*;have a6:=zb1 s u;have a7:=zb1 c u;have hk1:(k+1)*2^(b+15)=k*2^(b+15)+2^(b+15):=by rw[qY,qF]
  split
  .exact zr9 hx f (k+1) v _ c O O hst O O
  .exact zr9 hx f (k+1) v s _ O O hst O O
theorem se_bl{x:Fx}{b:Nat}(hb:1<=b/\b<=1000)(hx:x.2<=4*2^b):bl (seF x b).1.2<=2000/\bl (seF x b).2.2<=2000:=by
 have b15:2^(b+15)=32768*2^b:=by rw[qS,qE]
 have h:=zr9 hx (b+23) 1 (false,2^b) (false,0) (false,2^b) OA O ⟨fun _=>qH OA O,fun c=>absurd c OA⟩ (qX _) OD;have hm:(b+24)*2^(b+15)<2^11*2^(b+15):=qJ O (qA _);unfold seF;exact⟨zqw (qR h.1 hm) O,zqw (qR h.2 hm) O⟩
def ptS(k:Nat)(s c:Fx):Fx:=if k % 4=1 then c else if k % 4=2 then ngF s else if k % 4=3 then ngF c else s
def ptI(d:Dy)(cos:Bool)(p:Nat):Iv:=if qs d=0 then(if cos=true then qt (wg 1)else qt d)else
 neI (ptS (rdK d (p+64)+(if cos=true then 1 else 0)) (seF (rdF d (p+64)) (p+64)).1 (seF (rdF d (p+64)) (p+64)).2) (p+64) p
theorem zq2{d:Dy}(hd:VD d)(cos:Bool)(p:Nat)(hp:8<=p/\p<=512):CI (ptI d cos p):=by
 unfold ptI;split
 .split
  .exact .inr ⟨rfl,wu 1 OA,wu 1 OA⟩
  .exact .inr ⟨rfl,hd,hd⟩
 .exact CI_ne _ _ _ hp
theorem c141{d:Dy}(hd:VD d)(ht:zn d<=100)(cos:Bool)(p:Nat)(hp:8<=p/\p<=512):Fn 250 G0 [.agg (dyC d),.bool cos,.int .i64 p] (.agg (ivC (ptI d cos p))) G0:=by
 have a1:=zq9 hd;have hR:ptI d cos p=if qs d=0 then(if cos=true then qt (wg 1)else qt d)else neI (ptS (rdK d (p+64)+(if cos=true then 1 else 0)) (seF (rdF d (p+64)) (p+64)).1 (seF (rdF d (p+64)) (p+64)).2) (p+64) p:=rfl
 generalize ptI d cos p=R at*;by_cases hs:qs d=0
 .rw[Z6 hs]at hR;rw[hs]at a1;have a2:=v77 1 OA;have a3:=zyr (wu 1 OA);have a4:=zyr hd;generalize wg 1=o at*
  cases cos with
  |true=>
   rw[Z6 rfl]at hR;rw[<-hR]at a3;refine fY6 Tryz.func250 rfl ?_;refine gYn a1 ?_;refine gYc a2 ?_;refine gYn a3 ?_;exact⟨lr rfl,leG⟩
  |false=>
   rw[Z7 OC]at hR;rw[<-hR]at a4;refine fY6 Tryz.func250 rfl ?_;refine gYn a1 ?_;refine gYn a4 ?_;exact⟨lr rfl,leG⟩
 rw[Z7 hs]at hR;have c1:=c204 hd ht (p+64) O;have hx:=rd_bd d (b:=p+64);have c2:=c205 (rdF d (p+64)) (p+64) O hx;obtain⟨h1,h2⟩:=se_bl O hx;have hk:=qd4 d (p+64);generalize seF (rdF d (p+64)) (p+64)=W at*;generalize rdF d (p+64)=X at*;generalize rdK d (p+64)=k at*;obtain⟨S,C⟩:=W;simp only at*;have hS:∀q,bl (ptS q S C).2<=2000:=fun q=>by
  unfold ptS;split
  .exact h2
  split
  .exact h1
  split
  .exact h2
  .exact h1
 have c3:=c207 (ptS (k+(if cos=true then 1 else 0)) S C) (p+64) p O hp (by have:=hS (k+(if cos=true then 1 else 0));omega);rw[<-hR]at c3;have c4:=qb0 S;have c5:=qb0 C;have hw:w1.wrap ((p:Int)+64)=((p+64:Nat):Int):=by rw[wI O];omega
 generalize qs d=sg at*;clear hR hS h1 h2 hx hd ht;generalize p+64=b at*;have key:∀P:Fx,P=ptS (k+(if cos=true then 1 else 0)) S C->Fn 283 G0 [.agg (fxC P),.int .i64 b,.int .i64 p] (.agg (ivC R)) G0:=fun P h=>by rw[h];exact c3
 clear c3;obtain rfl|rfl|rfl|rfl:k=0\/k=1\/k=2\/k=3:=O
 all_goals cases cos
 all_goals
  first
   |replace key:=key S rfl
   |replace key:=key C rfl
   |replace key:=key (ngF S) rfl
   |replace key:=key (ngF C) rfl
  refine fY6 Tryz.func250 rfl ?_;refine gYn a1 ?_;refine brI (fun k1=>?_) (fun _=>?_)
  .have k1:(sg==0)=true:=k1;exact absurd (by simpa using k1) hs
  conv=>whnf
  rw[hw];refine gYc c1 ?_;refine gYc c2 ?_;refine⟨OA,?_⟩;conv=>whnf
  first
   |(refine gZn c4 ?_
     conv=>whnf
     refine gYc key ?_;exact⟨lr rfl,leG⟩)
   |(refine gZn c5 ?_
     conv=>whnf
     refine gYc key ?_;exact⟨lr rfl,leG⟩)
   |(refine gZc key ?_
     conv=>whnf
     exact⟨lr rfl,leG⟩)
theorem zu0:VD (wg (-1)):=wu (-1) OA
def unI:Iv:=⟨wg (-1),wg 1,false⟩
theorem zu6:CI unI:=.inr ⟨rfl,zu0,wu 1 OA⟩
theorem c138:Fn 247 G0 [] (.agg (ivC unI)) G0:=by
 have a1:=v77 (-1) OA;have a2:=v77 1 OA;have hR:unI=⟨wg (-1),wg 1,false⟩:=rfl;rw[hR];generalize wg (-1)=m at*;generalize wg 1=o at*;refine fY6 Tryz.func247 rfl ?_;refine gYc a1 ?_;refine gYc a2 ?_;exact⟨lr rfl,leG⟩
def flF(a c:Fx):Fx:=if a.1=true/\a.2 % c.2≠0 then ke (a.1,a.2/c.2) (true,1)else(a.1,a.2/c.2)
theorem c213(a c:Fx)(ha:bl a.2<=4000)(hc:bl c.2<=4000)(h0:c.2≠0):Fn 289 G0 [.agg (fxC a),.agg (fxC c)] (.agg (fxC (flF a c))) G0:=by
 have c1:=n190 a.2 c.2 O O h0;have hR:flF a c=if a.1=true/\a.2 % c.2≠0 then ke (a.1,a.2/c.2) (true,1)else(a.1,a.2/c.2):=rfl
 generalize flF a c=R at*;have b1:bl (a.2/c.2)<=4000:=q0 (zz (q4 _ _)) ha;have b2:bl (a.2 % c.2)<=4000:=q0 (zz (qZ _ _)) ha;have c2:=qcm (a.2 % c.2) O;have c3:=c211 (-1) OA;have c4:=zpv (a.1,a.2/c.2) (true,1) OD OB;have hb0:= @kj (a.2 % c.2);obtain⟨s,n⟩:=a;obtain⟨t,m⟩:=c;simp only at*;have c3:Fn 287 G0 [.int .i64 (-1)] (.agg [.bool true,.sl .u32 (toL 1)]) G0:=c3;have c4:Fn 291 [] [.agg [.bool s,.sl .u32 (toL (n/m))],.agg [.bool true,.sl .u32 (toL 1)]] (.agg (fxC (ke (s,n/m) (true,1)))) []:=c4;generalize toL 1=Oq at*
 cases s with
 |false=>
  rw[Z7 OC]at hR;subst hR;refine fY6 Tryz.func289 rfl ?_;refine gYn c1 ?_;exact⟨lr rfl,leG⟩
 |true=>
  by_cases hr:n % m=0
  .rw[Z7 (by simp[hr])]at hR;subst hR;rw[hr]at c1 c2;have c2:Fn 215 [] [.sl .u32 (toL 0)] (.int .i64 0) []:=c2;generalize toL 0=Zq at*;refine fY6 Tryz.func289 rfl ?_;refine gYn c1 ?_;refine gYn c2 ?_;exact⟨lr rfl,leG⟩
  .rw[Z6 ⟨rfl,hr⟩]at hR;rw[<-hR]at c4;have hbb:bl (n % m)≠0:=fun c=>hr (hb0.1 c)
   clear hR hb0 hr;generalize toL (n % m)=Zq at*;generalize bl (n % m)=z at*;generalize toL (n/m)=Q at*;refine fY6 Tryz.func289 rfl ?_;refine gYn c1 ?_;refine gYn c2 ?_;refine brI (fun _=>?_) (fun k1=>?_)
   .conv=>whnf
    refine gYc c3 ?_;refine gYn c4 ?_;refine gYd ?_;exact⟨lr rfl,leG⟩
   .have k1:=Z3 k1;omega
theorem zib{a b:Fx}{k:Nat}(ha:bl a.2<=k)(hb:bl b.2<=k):bl (ke a b).2<=k+1:=by
 have h1:=zb1 a b;have h2:=vr.1 ha;have h3:=vr.1 hb;have h4:2^(k+1)=2^k*2:=qV ..;exact vr.2 O
def mtT(x:Iv):Nat:=(max (max (zn x.lo) (zn x.hi)) 0).toNat
def mtB(x:Iv)(p:Nat):Nat:=p+mtT x+40
def mt2(x:Iv)(p:Nat):Fx:=(false,(piF (mtB x p)).2*2^1)
def mtS(x:Iv)(sh p:Nat):Fx:=(false,sh*(piF (mtB x p)).2/2^0/2^1)
def mtE(x:Iv):Fx:=(false,2^(mtT x+28))
def mtK(x:Iv)(sh p:Nat):Fx:=flF (ke (ke (ofF x.hi (mtB x p)) (ngF (mtS x sh p))) (mtE x)) (mt2 x p)
def mtD(x:Iv)(sh p:Nat):Fx:=ke (ke (ke ((mtK x sh p).1,(mtK x sh p).2*(mt2 x p).2) (mtS x sh p)) (ngF (ofF x.lo (mtB x p)))) (mtE x)
def mtF(x:Iv)(sh p:Nat):Bool:=decide ((mtD x sh p).2=0)|| !(mtD x sh p).1
theorem fl_bd{a c:Fx}{k:Nat}(ha:bl a.2<=k)(hk:1<=k):bl (flF a c).2<=k+1:=by
 have h1:bl (a.2/c.2)<=k:=q0 (zz (q4 _ _)) ha;unfold flF;split
 .exact zib (a:=(a.1,a.2/c.2)) (b:=(true,1)) h1 (q0 (by decide+kernel:bl 1<=1) hk)
 .exact Nat.le_succ_of_le h1
theorem c142(x:Iv)(hl:VD x.lo)(hh:VD x.hi)(t1:zn x.lo<=100)(t2:zn x.hi<=100)(sh p:Nat)(hs:sh<=3)(hp:p<=1000):Fn 251 G0 [.agg (ivC x),.int .i64 sh,.int .i64 p] (.bool (mtF x sh p)) G0:=by
 have low:∀d,VD d-> -100000<=zn d:=fun d hd=>by
  have:=hd.exp;unfold zn;split<;>omega
 have l1:=low _ hl;have l2:=low _ hh;have ht:mtT x<=100:=by unfold mtT;omega
 have hB:mtB x p=p+mtT x+40:=rfl;have htm:((mtT x:Nat):Int)=max (max (zn x.lo) (zn x.hi)) 0:=by unfold mtT;omega
 have a1:=zn0 hl;have a2:=zn0 hh;have hpi:=qai (b:=mtB x p) O;have p1:=qA (mtB x p);have bP:bl (piF (mtB x p)).2<=1146:=zqw (j:=4) (b:=mtB x p) O O;have b2:bl ((piF (mtB x p)).2*2^1)<=1146:=zqw (j:=5) (b:=mtB x p) O O;have bS0:bl (sh*(piF (mtB x p)).2)<=1146:=zqw (j:=5) (b:=mtB x p) (by
  have:=qI (piF (mtB x p)).2 hs;omega) O
 have bS:bl (sh*(piF (mtB x p)).2/2^0/2^1)<=1146:=q0 (zz (q0 (q4 _ _) (q4 _ _))) bS0;have bh:bl (ofF x.hi (mtB x p)).2<=1300:=q0 (vr.2 (zwh (t:=100) hh O)) O;have blo:bl (ofF x.lo (mtB x p)).2<=1300:=q0 (vr.2 (zwh (t:=100) hl O)) O;have bE:bl (2^(mtT x+28))<=1300:=by have:=bl_2 (mtT x+28);omega
 have c1:=c208 (mtB x p) O;have c2:=zxj (piF (mtB x p)).2 1 O OA;have c3:=c211 sh O;rw[(OC:decide ((sh:Int)<0)=false),qO]at c3;have c4:=c212 (false,sh) (piF (mtB x p)) 0 (by simp only;exact q0 (zz hs) OB) O OA;have c5:=qft (sh*(piF (mtB x p)).2/2^0) 1 (q0 (zz (q4 _ _)) O) OA;have c6:=zxj 1 (mtT x+28) (by rw[qF];omega) O;rw[toL1,qF]at c6;have c7:=c214 hh (mtB x p) 100 t2 O O;have c8:=qb0 (mtS x sh p);have c9:=zpv (ofF x.hi (mtB x p)) (ngF (mtS x sh p)) O (by show bl (sh*(piF (mtB x p)).2/2^0/2^1)<=_;omega);have z9:=zib (a:=ofF x.hi (mtB x p)) (b:=ngF (mtS x sh p)) (k:=1300) O (by show bl (sh*(piF (mtB x p)).2/2^0/2^1)<=_;omega);have c10:=zpv (ke (ofF x.hi (mtB x p)) (ngF (mtS x sh p))) (mtE x) O (O:bl (2^(mtT x+28))<=8000);have z10:=zib (k:=1301) z9 (show bl (mtE x).2<=1301 from(by show bl (2^(mtT x+28))<=1301;omega));have c11:=c213 (ke (ke (ofF x.hi (mtB x p)) (ngF (mtS x sh p))) (mtE x)) (mt2 x p) O (show bl ((piF (mtB x p)).2*2^1)<=4000 by omega) (show(piF (mtB x p)).2*2^1≠0 by omega);have z11:=fl_bd (c:=mt2 x p) z10 OA;rw[show flF (ke (ke (ofF x.hi (mtB x p)) (ngF (mtS x sh p))) (mtE x)) (mt2 x p)=mtK x sh p from rfl]at c11 z11;have m12:=yi (mtK x sh p).2 ((piF (mtB x p)).2*2^1);have c12:=qde (mtK x sh p).2 ((piF (mtB x p)).2*2^1) O O O;have c13:=zpv ((mtK x sh p).1,(mtK x sh p).2*(mt2 x p).2) (mtS x sh p) (show bl ((mtK x sh p).2*((piF (mtB x p)).2*2^1))<=8000 by omega) (by show bl (sh*(piF (mtB x p)).2/2^0/2^1)<=_;omega);have z13:=zib (a:=((mtK x sh p).1,(mtK x sh p).2*(mt2 x p).2)) (b:=mtS x sh p) (k:=2600) (show bl ((mtK x sh p).2*((piF (mtB x p)).2*2^1))<=2600 by omega) (by show bl (sh*(piF (mtB x p)).2/2^0/2^1)<=_;omega);have c14:=c214 hl (mtB x p) 100 t1 O O;have c15:=qb0 (ofF x.lo (mtB x p));have c16:=zpv (ke ((mtK x sh p).1,(mtK x sh p).2*(mt2 x p).2) (mtS x sh p)) (ngF (ofF x.lo (mtB x p))) O (O:bl (ofF x.lo (mtB x p)).2<=8000)
 have z16:=zib (b:=ngF (ofF x.lo (mtB x p))) (k:=2601) z13 (O:bl (ofF x.lo (mtB x p)).2<=2601);have c17:=zpv (ke (ke ((mtK x sh p).1,(mtK x sh p).2*(mt2 x p).2) (mtS x sh p)) (ngF (ofF x.lo (mtB x p)))) (mtE x) O (O:bl (2^(mtT x+28))<=8000);have z17:=zib (k:=2602) z16 (show bl (mtE x).2<=2602 from(by show bl (2^(mtT x+28))<=2602;omega));rw[show ke (ke (ke ((mtK x sh p).1,(mtK x sh p).2*(mt2 x p).2) (mtS x sh p)) (ngF (ofF x.lo (mtB x p)))) (mtE x)=mtD x sh p from rfl]at c17 z17;have c18:=c216 (mtD x sh p) O;have hR:mtF x sh p=(decide ((mtD x sh p).2=0)|| !(mtD x sh p).1):=rfl;have hw1:w1.wrap (w1.wrap ((p:Int)+(mtT x:Int))+40)=(mtB x p:Int):=by
  rw[wI (x:=(p:Int)+(mtT x:Int)) O,wI O];omega
 have hw2:w1.wrap (w1.wrap ((mtT x:Int)+24)+4)=((mtT x+28:Nat):Int):=by
  rw[wI (x:=(mtT x:Int)+24) O,wI O];omega
 clear z17 z16 z13 m12 z11 z10 z9 bE blo bh bS bS0 b2 bP p1 hpi hB;generalize mtF x sh p=R at*;generalize mtD x sh p=D at*;generalize ke (ke ((mtK x sh p).1,(mtK x sh p).2*(mt2 x p).2) (mtS x sh p)) (ngF (ofF x.lo (mtB x p)))=D2 at*;generalize ke ((mtK x sh p).1,(mtK x sh p).2*(mt2 x p).2) (mtS x sh p)=D1 at*;generalize mtK x sh p=K at*;generalize ke (ke (ofF x.hi (mtB x p)) (ngF (mtS x sh p))) (mtE x)=A2 at*;generalize ke (ofF x.hi (mtB x p)) (ngF (mtS x sh p))=A1 at*;have e2:fxC (mt2 x p)= [.bool false,.sl .u32 (toL ((piF (mtB x p)).2*2^1))]:=rfl;have e3:fxC (mtS x sh p)= [.bool false,.sl .u32 (toL (sh*(piF (mtB x p)).2/2^0/2^1))]:=rfl;have e4:fxC (mtE x)= [.bool false,.sl .u32 (toL (2^(mtT x+28)))]:=rfl;have e5:fxC (false,sh)= [.bool false,.sl .u32 (toL sh)]:=rfl;have e6:fxC (K.1,K.2*(mt2 x p).2)= [.bool K.1,.sl .u32 (toL (K.2*((piF (mtB x p)).2*2^1)))]:=rfl;have e7:fxC (zlg (false,sh) (piF (mtB x p)) 0)= [.bool (false != (piF (mtB x p)).1),.sl .u32 (toL (sh*(piF (mtB x p)).2/2^0))]:=rfl;rw[e6,e3]at c13;rw[e4]at c10 c17;rw[e2]at c11;rw[e3]at c8;rw[e5]at c3 c4;rw[e7]at c4;generalize toL (K.2*((piF (mtB x p)).2*2^1))=L1 at*;generalize toL ((piF (mtB x p)).2*2^1)=L2 at*;generalize toL (sh*(piF (mtB x p)).2/2^0/2^1)=L3 at*;generalize toL (sh*(piF (mtB x p)).2/2^0)=L4 at*;generalize toL (2^(mtT x+28))=L5 at*;generalize toL sh=L6 at*;clear e2 e3 e4 e5 e6 e7;generalize ngF (mtS x sh p)=N1 at*;generalize ngF (ofF x.lo (mtB x p))=N2 at*;generalize ofF x.lo (mtB x p)=F1 at*;generalize ofF x.hi (mtB x p)=F2 at*;generalize piF (mtB x p)=P at*;generalize (false != P.1)=u at*;generalize zn x.lo=q1 at*;generalize zn x.hi=q2 at*;generalize mtT x=t at*;generalize mtB x p=b at*;have hmax:(if(0:Int)>(if q2>q1 then q2 else q1)then 0 else(if q2>q1 then q2 else q1))=(t:Int):=by rw[htm];split<;>split<;>omega
 refine fY6 Tryz.func251 rfl ?_;refine gYn a1 ?_;refine gYn a2 ?_;refine gYd ?_;rw[hmax,hw1];refine gYc c1 ?_;refine gYn c2 ?_;refine gYc c3 ?_;refine gYn c4 ?_;refine gYn c5 ?_;refine gYd ?_;rw[hw2];refine gYn c6 ?_;refine gYn c7 ?_;refine gYn c8 ?_;refine gYn c9 ?_;refine gYn c10 ?_;refine gYc c11 ?_;refine gYd ?_;refine gYn c12 ?_;refine gYn c13 ?_;refine gYn c14 ?_;refine gYn c15 ?_;refine gYn c16 ?_;refine gYn c17 ?_;refine gYd ?_;refine cbI [] (decide (D.2=0)) c18 (fun h=>?_) (fun h=>?_)
 .rw[h,Bool.true_or]at hR;subst hR;conv=>whnf
  exact⟨lr rfl,leG⟩
 .rw[h,Bool.false_or]at hR;conv=>whnf
  exact⟨ab0 hR.symm,leG⟩
def wdD(x:Iv):Dy×Int:=zay x.hi (jp x.lo) 64 true
theorem VD_wd(x:Iv):VD (wdD x).1:=zjc _ _ _ _ OA
theorem c139{x:Iv}(hx:RI x)(k:KI x):Fn 248 G0 [.agg (ivC x),.int .i64 64] (.tup [.agg (dyC (wdD x).1),.bool (decide ((wdD x).2=0))]) G0:=by
 have c1:=zni [x] OC (by simpa using hx);rw[show [x].all kB=true by simp[(zw hx).2 k]]at c1;have c2:=zwz 64;rw[show pcB 64=true from rfl]at c2;have c3:=zzq k.lo;rw[show(if nm x.lo=0 then d0 else⟨!x.lo.neg,x.lo.m,x.lo.e⟩)=jp x.lo from rfl]at c3;have c4:=v129 k.hi (yt k.lo) 64 OA;rw[show zay x.hi (jp x.lo) 64 true=wdD x from rfl]at c4;generalize wdD x=W at*;generalize jp x.lo=N at*;obtain⟨W,w⟩:=W;refine fY6 Tryz.func248 rfl ?_;refine gYn c1 ?_;refine gYn c2 ?_;refine gYn c3 ?_;refine gYc c4 ?_;refine gYd ?_;refine⟨lt0 (lc (lr rfl) (lc (ab0 ?_) ln0)),leG⟩;show(w==0)=decide (w=0);rfl
def meI(x y:Iv):Iv×Bool:=
 if viB x=false\/viB y=false then(zI,false)else if x.all=true then(y,true)else if y.all=true then(x,true)else
 if 0<wa (uk x.lo y.lo) (xn x.hi y.hi)then(zI,false)else(⟨uk x.lo y.lo,xn x.hi y.hi,false⟩,true)
theorem CI_me{x y:Iv}(hx:CI x)(hy:CI y):CI (meI x y).1:=by
 have hz:CI zI:=.inr ⟨rfl,qv,qv⟩;unfold meI;split
 .exact hz
 split
 .exact hy
 split
 .exact hx
 rename_i h1 h2;split
 .exact hz
 rcases hx with rfl|⟨_,a1,a2⟩
 .exact absurd rfl h1
 rcases hy with rfl|⟨_,b1,b2⟩
 .exact absurd rfl h2
 exact .inr ⟨rfl,zb2 a1 b1,zdi a2 b2⟩
theorem c140(x y:Iv)(hx:RI x)(hy:RI y):Fn 60 [] [.agg (ivC x),.agg (ivC y)] (.tup [.agg (ivC (meI x y).1),.bool (meI x y).2]) []:=by
 have c1:=i51 x hx;have c2:=i51 y hy;have hR:meI x y=if viB x=false\/viB y=false then(zI,false)else if x.all=true then(y,true)else if y.all=true then(x,true)else
  if 0<wa (uk x.lo y.lo) (xn x.hi y.hi)then(zI,false)else(⟨uk x.lo y.lo,xn x.hi y.hi,false⟩,true):=rfl
 generalize meI x y=R at*;have hz:∀ {h h':Hp},leA h h' (.agg [.bool false,.nilsl,.int .i64 0,.bool false,.nilsl,.int .i64 0,.bool false]) (.agg (ivC zI)):=
  lg0 (lc (lr rfl) (lc (li0 rfl) (lc (lr rfl) (lc (lr rfl) (lc (li0 rfl) (lc (lr rfl) (lc (lr rfl) ln0)))))))
 by_cases h1:viB x=true
 rotate_left
 .have h1:viB x=false:=by simpa using h1
  rw[Z6 (.inl h1)]at hR;subst hR;rw[h1]at c1;refine fY6 Tryz.func60 rfl ?_;refine gYn c1 ?_;exact⟨lt0 (lc hz (lc (lr rfl) ln0)),lh0⟩
 rw[h1]at c1;by_cases h2:viB y=true
 rotate_left
 .have h2:viB y=false:=by simpa using h2
  rw[Z6 (.inr h2)]at hR;subst hR;rw[h2]at c2;refine fY6 Tryz.func60 rfl ?_;refine gYn c1 ?_;refine gYn c2 ?_;exact⟨lt0 (lc hz (lc (lr rfl) ln0)),lh0⟩
 rw[h2]at c2;rw[Z7 (by simp[h1,h2])]at hR;have vx:=(zgb hx).1 h1;have vy:=(zgb hy).1 h2;have hk:x.all=false->y.all=false->KI x/\KI y:=fun a b=>by
  rcases vx with vx|rfl
  .rcases vy with vy|rfl
   .exact⟨vx,vy⟩
   .cases b
  .cases a
 clear h1 h2 hx hy vx vy;obtain⟨xl,xh,xa⟩:=x;obtain⟨yl,yh,ya⟩:=y;simp only at*
 cases xa with
 |true=>
  rw[Z6 rfl]at hR;subst hR;refine fY6 Tryz.func60 rfl ?_;refine gYn c1 ?_;refine gYn c2 ?_;exact⟨lr rfl,lh0⟩
 |false=>
  rw[Z7 OC]at hR
  cases ya with
  |true=>
   rw[Z6 rfl]at hR;subst hR;refine fY6 Tryz.func60 rfl ?_;refine gYn c1 ?_;refine gYn c2 ?_;exact⟨lr rfl,lh0⟩
  |false=>
   rw[Z7 OC]at hR;obtain⟨kx,ky⟩:=hk rfl rfl;have c3:=i227 kx.lo ky.lo;have c4:=i226 kx.hi ky.hi;have c5:=v81 (zb2 kx.lo ky.lo) (zdi kx.hi ky.hi);simp only at c3 c4 c5;generalize uk xl yl=a at*;generalize xn xh yh=b at*;generalize wa a b=C at*;clear kx ky hk;refine fY6 Tryz.func60 rfl ?_;refine gYn c1 ?_;refine gYn c2 ?_;refine gYn c3 ?_;refine gYn c4 ?_;refine gYd ?_;refine gYn c5 ?_;refine brI (fun k1=>?_) (fun k1=>?_)
   .have k1:0<C:=Z0 k1;rw[Z6 k1]at hR;subst hR;conv=>whnf
    exact⟨lt0 (lc hz (lc (lr rfl) ln0)),lh0⟩
   .have k1:¬0<C:=Z3 k1;rw[Z7 k1]at hR;subst hR;conv=>whnf
    exact⟨lr rfl,lh0⟩
theorem qgb{c:Prop}[Decidable c]{a b:Dy}(ha:VD a)(hb:VD b):VD (if c then a else b):=by split<;>assumption
theorem c137(p:Int):Fn 246 [] [.int .i64 p] (.bool (pcB p)) []:=by
 refine fY6 Tryz.func246 rfl ?_;refine brI (fun h1=>?_) (fun h1=>?_)
 .have h1:8<=p:=by simpa using h1
  conv=>whnf
  exact⟨ab0 (by simp[pcB,h1]),lh0⟩
 .have h1:¬8<=p:=by simpa using h1
  conv=>whnf
  exact⟨ab0 (by simp[pcB,h1]),lh0⟩
def ciM(x:Iv)(cos:Bool)(p:Nat):Iv×Bool:=meI (zgw (ptI x.lo cos p) (ptI x.hi cos p)) unI
def ciJ(x:Iv)(cos:Bool)(p:Nat):Iv:=
 if(ciM x cos p).2=false then unI else if wa x.lo x.hi=0 then(ciM x cos p).1 else
 ⟨if mtF x (if cos=true then 2 else 3) (p+64)=true then wg (-1)else(ciM x cos p).1.lo,if mtF x (if cos=true then 0 else 1) (p+64)=true then wg 1 else(ciM x cos p).1.hi,(ciM x cos p).1.all⟩
def ciI(x:Iv)(cos:Bool)(p:Int):Iv:=
 if pcB p=true/\kB x=true then if 100<zn x.lo\/100<zn x.hi then unI else if(wdD x).2≠0\/0<=wa (wdD x).1 (wg 7)then unI else ciJ x cos p.toNat else wI0
theorem zu8{x y:Iv}(hx:CI x)(hy:CI y):CI (zgw x y):=by
 unfold zgw;split
 .rename_i h;rw[Bool.and_eq_true]at h;have kx:=(zw hx.ri).1 h.1;have ky:=(zw hy.ri).1 h.2;exact .inr ⟨rfl,zdi kx.lo ky.lo,zb2 kx.hi ky.hi⟩
 .exact zhu
theorem qfr{x:Iv}(k:KI x)(cos:Bool){p:Nat}(hp:8<=p/\p<=512):CI (ciM x cos p).1:=CI_me (zu8 (zq2 k.lo _ _ hp) (zq2 k.hi _ _ hp)) zu6
theorem qel{x y:Iv}(h:(meI x y).2=true)(hy:y.all=false):(meI x y).1.all =false:=by
 unfold meI at h⊢;split
 .rfl
 split
 .exact hy
 split
 .rename_i c;rw[hy]at c;cases c
 split<;>rfl
theorem zx0{x:Iv}(hx:RI x)(cos:Bool)(p:Int):CI (ciI x cos p):=by
 unfold ciI;split
 .rename_i h;have k:=(zw hx).1 h.2;have hc:=qfr k cos (vj h.1);split
  .exact zu6
  split
  .exact zu6
  unfold ciJ;split
  .exact zu6
  rename_i h2;split
  .exact hc
  have ha:=qel (x:=zgw (ptI x.lo cos p.toNat) (ptI x.hi cos p.toNat)) (y:=unI) (show(ciM x cos p.toNat).2=true by simpa using h2) rfl;rcases hc with hc|⟨c1,c2,c3⟩
  .rw[show ciM x cos p.toNat=meI (zgw (ptI x.lo cos p.toNat) (ptI x.hi cos p.toNat)) unI from rfl]at hc;rw[hc]at ha;cases ha
  .exact .inr ⟨c1,qgb zu0 c2,qgb (wu 1 OA) c3⟩
 .exact zhu
theorem c89(x:Iv)(hx:RI x)(cos:Bool)(p:Int):Fn 188 G0 [.agg (ivC x),.bool cos,.int .i64 p] (.agg (ivC (ciI x cos p))) G0:=by
 have c1:=c137 p;have c2:=i51 x hx;have h25:=i25;rw[e25]at h25;have hK:kB x=(!x.all&&viB x):=rfl;have hR:ciI x cos p=if pcB p=true/\kB x=true then if 100<zn x.lo\/100<zn x.hi then unI else if(wdD x).2≠0\/0<=wa (wdD x).1 (wg 7)then unI else ciJ x cos p.toNat else wI0:=rfl
 generalize ciI x cos p=R at*;by_cases hp:pcB p=true
 rotate_left
 .rw[Z7 fun c=>hp c.1]at hR;subst hR;rw[show pcB p=false by simpa using hp]at c1;refine fY6 Tryz.func188 rfl ?_;refine gYn c1 ?_;refine gYn h25 ?_;exact⟨lr rfl,leG⟩
 by_cases hv:viB x=true
 rotate_left
 .rw[Z7 (by rw[hK];simp[hv])]at hR;subst hR;rw[hp]at c1;rw[show viB x=false by simpa using hv]at c2;refine fY6 Tryz.func188 rfl ?_;refine gYn c1 ?_;refine gYn c2 ?_;refine gYn h25 ?_;exact⟨lr rfl,leG⟩
 by_cases ha:x.all=true
 .rw[Z7 (by rw[hK];simp[ha])]at hR;subst hR;rw[hp]at c1;rw[hv]at c2;obtain⟨xl,xh,xa⟩:=x;obtain rfl:xa=true:=ha;refine fY6 Tryz.func188 rfl ?_;refine gYn c1 ?_;refine gYn c2 ?_;refine gYn h25 ?_;exact⟨lr rfl,leG⟩
 have hk:kB x=true:=by rw[hK];simp[hv,ha]
 rw[Z6 ⟨hp,hk⟩]at hR;have k:=(zw hx).1 hk;obtain⟨q,rfl,hq⟩:=ux.1 hp;rw[qT]at hR;rw[hp]at c1;rw[hv]at c2;have c3:=zn0 k.lo;have c4:=zn0 k.hi;have c5:=c138;have c6:=c139 hx k;have c7:=v77 7 OA;have c8:=v81 (VD_wd x) (wu 7 OA);have c9:=fun h=>c141 k.lo h cos q hq
 have c10:=fun h=>c141 k.hi h cos q hq
 have c11:=i201 (ptI x.lo cos q) (ptI x.hi cos q) (zq2 k.lo _ _ hq).ri (zq2 k.hi _ _ hq).ri;have c12:=c140 (zgw (ptI x.lo cos q) (ptI x.hi cos q)) unI (zu8 (zq2 k.lo _ _ hq) (zq2 k.hi _ _ hq)).ri zu6.ri;have c13:=v81 k.lo k.hi;have c14:=fun h1 h2 sh hs=>c142 x k.lo k.hi h1 h2 sh (q+64) hs O
 have c15:=v77 1 OA;have c16:=v77 (-1) OA;have hJ:ciJ x cos q=if(ciM x cos q).2=false then unI else if wa x.lo x.hi=0 then(ciM x cos q).1 else⟨if mtF x (if cos=true then 2 else 3) (q+64)=true then wg (-1)else(ciM x cos q).1.lo,if mtF x (if cos=true then 0 else 1) (q+64)=true then wg 1 else(ciM x cos q).1.hi,(ciM x cos q).1.all⟩:=rfl
 rw[show meI (zgw (ptI x.lo cos q) (ptI x.hi cos q)) unI=ciM x cos q from rfl]at c12;have hw:w1.wrap ((q:Int)+64)=((q+64:Nat):Int):=by rw[wI O];omega
 have c17:=fun h1 h2=>c14 h1 h2 (if cos=true then 0 else 1) (by split<;>decide)
 have c18:=fun h1 h2=>c14 h1 h2 (if cos=true then 2 else 3) (by split<;>decide)
 clear c14;generalize ciJ x cos q=J at*;generalize mtF x (if cos=true then 2 else 3) (q+64)=B2 at*;generalize mtF x (if cos=true then 0 else 1) (q+64)=B1 at*;generalize ciM x cos q=M at*;generalize zgw (ptI x.lo cos q) (ptI x.hi cos q)=H at*;generalize ptI x.lo cos q=P1 at*;generalize ptI x.hi cos q=P2 at*;generalize unI=U at*;generalize wdD x=W at*;generalize wg 7=s7 at*;generalize wg 1=o1 at*;generalize wg (-1)=m1 at*;generalize zn x.lo=t1 at*;generalize zn x.hi=t2 at*;generalize wa W.1 s7=C1 at*;generalize wa x.lo x.hi=C2 at*;generalize hb:q+64=b at*;obtain⟨xl,xh,xa⟩:=x;obtain rfl:xa=false:=by simpa using ha
 clear k hk hv ha hx hK hp;obtain⟨W,we⟩:=W;obtain⟨M,mb⟩:=M;simp only at*;refine fY6 Tryz.func188 rfl ?_;refine gYn c1 ?_;refine gYn c2 ?_;refine gYn c3 ?_;refine brI (fun k1=>?_) (fun k1=>?_)
 .rw[Z6 (.inl (Z0 k1))]at hR;subst hR;conv=>whnf
  refine gYc c5 ?_;exact⟨lr rfl,leG⟩
 have k1:¬100<t1:=Z3 k1;conv=>whnf
 refine gYn c4 ?_;refine brI (fun k2=>?_) (fun k2=>?_)
 .rw[Z6 (.inr (Z0 k2))]at hR;subst hR;conv=>whnf
  refine gYc c5 ?_;exact⟨lr rfl,leG⟩
 have k2:¬100<t2:=Z3 k2;rw[Z7 O]at hR;conv=>whnf
 by_cases hwe:we=0
 rotate_left
 .rw[Z6 (.inl hwe)]at hR;subst hR;rw[Z9 hwe]at c6;refine gYc c6 ?_;refine gYd ?_;refine gYc c5 ?_;exact⟨lr rfl,leG⟩
 subst hwe;refine gYc c6 ?_;refine gYc c7 ?_;refine gYn c8 ?_;refine gYd ?_;refine brI (fun k3=>?_) (fun k3=>?_)
 .rw[Z6 (.inr (Z0 k3))]at hR;subst hR;conv=>whnf
  refine gYc c5 ?_;exact⟨lr rfl,leG⟩
 have k3:¬0<=C1:=Z3 k3;rw[Z7 (by simp[k3])]at hR;rw[hR];clear hR;have c9:=c9 O;have c10:=c10 O;have c17:=c17 O O;have c18:=c18 O O;cases cos
 all_goals
  conv=>whnf
  refine gYc c9 ?_;refine gYc c10 ?_;refine gYn c11 ?_;refine gYc c5 ?_
  cases mb with
  |false=>
   rw[Z6 rfl]at hJ;subst hJ;refine gYn c12 ?_;refine gYd ?_;refine gYc c5 ?_;exact⟨lr rfl,leG⟩
  |true=>
   rw[Z7 OC]at hJ;refine gYn c12 ?_;refine gYd ?_;refine gYn c13 ?_;refine brI (fun k4=>?_) (fun k4=>?_)
   .have k4:C2=0:=by have k4:(C2==0)=true:=k4;simpa using k4
    rw[Z6 k4]at hJ;subst hJ;conv=>whnf
    exact⟨lr rfl,leG⟩
   have k4:¬C2=0:=by have k4:(C2==0)=false:=k4;simpa using k4
   rw[Z7 k4]at hJ;conv=>whnf
   rw[hw];refine cbI [.gst JT] B1 c17 (fun h1=>?_) (fun h1=>?_)
   .rw[h1]at hJ;conv=>whnf
    refine gYc c15 ?_;rw[hw];refine cbI [.gst JT] B2 c18 (fun h2=>?_) (fun h2=>?_)
    .rw[h2]at hJ;subst hJ;conv=>whnf
     refine gYc c16 ?_;exact⟨lr rfl,leG⟩
    .rw[h2]at hJ;subst hJ;conv=>whnf
     exact⟨lr rfl,leG⟩
   .rw[h1]at hJ;conv=>whnf
    rw[hw];refine cbI [.gst JT] B2 c18 (fun h2=>?_) (fun h2=>?_)
    .rw[h2]at hJ;subst hJ;conv=>whnf
     refine gYc c16 ?_;exact⟨lr rfl,leG⟩
    .rw[h2]at hJ;subst hJ;conv=>whnf
     exact⟨lr rfl,leG⟩
theorem c35(x:Iv)(hx:RI x)(p:Int):Fn 118 G0 [.agg (ivC x),.int .i64 p] (.agg (ivC (ciI x false p))) G0:=by
 have h:=c89 x hx false p;generalize ciI x false p=R at*;refine fY6 Tryz.func118 rfl ?_;refine gYc h ?_;exact⟨lr rfl,leG⟩
theorem c36(x:Iv)(hx:RI x)(p:Int):Fn 119 G0 [.agg (ivC x),.int .i64 p] (.agg (ivC (ciI x true p))) G0:=by
 have h:=c89 x hx true p;generalize ciI x true p=R at*;refine fY6 Tryz.func119 rfl ?_;refine gYc h ?_;exact⟨lr rfl,leG⟩
