/- Rounding: quotients, square roots. -/
import Derived.Test.YthbgbmdmimejiaaGreatDoorJYr
set_option linter.all false
open Bool renaming and_eq_true->q0,not_eq_true'->q9,eq_iff_iff->qA
open Nat renaming div_le_self->q7,zero_mul->q8,sub_le->qB
open Go.IntKind renaming i64->qC,u32->qD,signed->qE,wrap->qF,bits->qG,u64->qH
namespace Go.Proofs.YthbgbmdmimejiaaGreatDoor
open Go Go.Sx
set_option maxRecDepth 100000
set_option maxHeartbeats 8000000
def xq(a b:Dy)(p:Nat):Nat:=p+3+bl (nm b)-bl (nm a)
def ku(a b:Dy)(p:Nat)(up:Bool):Dy×Int:=
 if nm b=0 then(d0,10)else zay (a.neg != b.neg) (nm a*2^xq a b p/nm b) (a.e-xq a b p-b.e) (decide (nm a*2^xq a b p % nm b≠0)) p up
theorem zh0(n:Nat):decide ((bl n:Int)>0)=decide (n≠0):=by
 rw[qA];simp only[Z2];constructor
 .intro h e;subst e;simp[kv]at h
 .intro h;have hb:bl n≠0:=fun e=>h (yx.1 e)
  omega
theorem v121{a b:Dy}(ha:VD a)(hb:VD b)(up:Bool)(p:Nat)(hp:8<=p/\p<=512):Fn 128 G0 [.agg (dyC a),.agg (dyC b),.int .i64 p,.bool up] (dyV (ku a b p up)) G0:=by
 have a1:=ha.bits;have b1:=hb.bits;have a2:=ha.exp;have b2:=hb.exp;have h164:=qcd (p:=p) (l:= [a,b]) hp OC (by simpa using⟨ha,hb⟩);have h165a:=v165 ha;have h165b:=v165 hb;have hz:nm b≠0->nm a=0->ku a b p up=(d0,0):=fun h0 h=>by
  unfold ku xq;rw[Z5 h0,h];have e1:0*2^(p+3+bl (nm b)-bl 0)=0:=q8 _;rw[e1,Nat.zero_div,Nat.zero_mod];refine zjo _ _ _ _ ?_;rcases ha.ok with ⟨_,_,h3⟩|⟨h3,_⟩<;>omega
 have hz0:nm b=0->ku a b p up=(d0,10):=fun h=>by unfold ku;rw[Z4 h]
 have hk:bl (nm a*2^xq a b p)<=8192:=by
  by_cases h:nm a=0
  .rw[h,q8];decide
  .rw[qt _ _ h];unfold xq;omega
 have hkb:xq a b p<=8000:=by unfold xq;omega
 have hke:(if qC.wrap (qC.wrap (qC.wrap ((p:Int)+3)+(bl (nm b):Int))-(bl (nm a):Int))>0 then qC.wrap (qC.wrap (qC.wrap ((p:Int)+3)+(bl (nm b):Int))-(bl (nm a):Int))else 0)=((xq a b p:Nat):Int):=by
  rw[wI (x:=(p:Int)+3) O,wI (x:=(p:Int)+3+(bl (nm b):Int)) O,wI O];unfold xq;split<;>omega
 have h167:=qbl (nm a) (xq a b p) O hk O;have h166:=y166 (nm a*2^xq a b p) (nm b) O O;rw[Z5 O]at h166;have hq:bl (nm a*2^xq a b p/nm b)<=8192:=by have:=qb (q7 (nm a*2^xq a b p) (nm b));omega
 have hr:bl (nm a*2^xq a b p % nm b)<=8192:=by have:=qb (Nat.mod_le (nm a*2^xq a b p) (nm b));omega
 have h169:=qbk (nm a*2^xq a b p % nm b) O;have h168:=v168 (a.neg != b.neg) (nm a*2^xq a b p/nm b) (a.e-xq a b p-b.e) (decide (nm a*2^xq a b p % nm b≠0)) up p O O hp;rw[<-zh0]at h168;have hR:nm b≠0->zay (a.neg != b.neg) (nm a*2^xq a b p/nm b) (a.e-xq a b p-b.e) (decide ((bl (nm a*2^xq a b p % nm b):Int)>0)) p up=ku a b p up:=fun h=>by unfold ku;rw[Z5 h,<-zh0]
 have hw:qC.wrap (qC.wrap (a.e-(xq a b p:Int))-b.e)=a.e-xq a b p-b.e:=by rw[wI (x:=a.e-(xq a b p:Int)) O,wI O]
 have ae:=ha.eq;have be:=hb.eq;generalize ku a b p up=R at*;generalize xq a b p=k at*;generalize nm a=x at*;generalize nm b=y at*;obtain⟨an,am,ax⟩:=a;obtain⟨bn,bm,bx⟩:=b;simp only at ae be a2 b2 h168 hR hw;subst ae be;by_cases hy0:y=0
 .rw[hz0 hy0];subst hy0;rw[jh]at*;refine fY6 Tryz.func128 rfl ?_;refine gYn h164 ?_;exact⟨zqf,leG⟩
 rw[hR hy0]at h168;rw[Z5 hy0]at h166;by_cases hx0:x=0
 .rw[hz hy0 hx0];subst hx0;rw[jh]at*;refine fY6 Tryz.func128 rfl ?_;refine gYn h164 ?_;refine brI (fun h6=>?_) (fun h6=>?_)
  .have h6:(((toL y).length :Int)==0)=true:=h6;rw[zb4 hy0]at h6;cases h6
  conv=>whnf
  exact⟨zqf,leG⟩
 obtain⟨⟨r1,r2,r3⟩,r4⟩:=R;refine fY6 Tryz.func128 rfl ?_;refine gYn h164 ?_;refine brI (fun h6=>?_) (fun h6=>?_)
 .have h6:(((toL y).length :Int)==0)=true:=h6;rw[zb4 hy0]at h6;cases h6
 conv=>whnf
 refine brI (fun h6=>?_) (fun h6=>?_)
 .have h6:(((toL x).length :Int)==0)=true:=h6;rw[zb4 hx0]at h6;cases h6
 conv=>whnf
 refine gYn h165b ?_;refine gYn h165a ?_;refine gYd ?_;rw[hke];refine gYn h167 ?_;refine gYn h166 ?_;refine gYd ?_;refine gYn h169 ?_;rw[hw];refine gYc h168 ?_;refine gYd ?_;exact⟨lr rfl,leG⟩
def sqK(d:Dy)(p:Nat):Nat:=if(d.e-(2*p+4-bl (nm d):Nat)) % 2=0 then 2*p+4-bl (nm d)else 2*p+4-bl (nm d)+1
def xt(d:Dy)(p:Nat)(up:Bool):Dy×Int:=
 if nm d=0 then(d0,0)else zbd (sqN (nm d*2^sqK d p)) ((d.e-sqK d p)/2) (decide (sqN (nm d*2^sqK d p)*sqN (nm d*2^sqK d p)≠nm d*2^sqK d p)) p up
theorem v204{d:Dy}(hd:VD d)(hn:d.neg=false)(up:Bool)(p:Nat)(hp:8<=p/\p<=512):Fn 197 G0 [.agg (dyC d),.int .i64 p,.bool up] (dyV (xt d p up)) G0:=by
 have a1:=hd.bits;have a2:=hd.exp;have h164:=qcd (p:=p) (l:= [d]) hp OC (by simpa using hd);have h165:=v165 hd;have hz:nm d=0->xt d p up=(d0,0):=fun h=>by unfold xt;rw[Z4 h]
 have hR:nm d≠0->xt d p up=zbd (sqN (nm d*2^sqK d p)) ((d.e-sqK d p)/2) (decide (sqN (nm d*2^sqK d p)*sqN (nm d*2^sqK d p)≠nm d*2^sqK d p)) p up:=fun h=>by unfold xt;rw[Z5 h]
 obtain⟨k0,hk0⟩:∃k0,2*p+4-bl (nm d)=k0:=⟨_,rfl⟩;have hk0e:(if qC.wrap (qC.wrap (qC.wrap (2*(p:Int))+4)-(bl (nm d):Int))>0 then qC.wrap (qC.wrap (qC.wrap (2*(p:Int))+4)-(bl (nm d):Int))else 0)=((k0:Nat):Int):=by
  rw[wI (x:=2*(p:Int)) O,wI (x:=2*(p:Int)+4) O,wI O];split<;>omega
 have hkk:sqK d p=if(d.e-k0) % 2=0 then k0 else k0+1:=by unfold sqK;rw[hk0]
 have hkb:sqK d p<=2*p+5:=by rw[hkk];split<;>omega
 have hpar:(d.e-sqK d p) % 2=0:=by rw[hkk];split<;>omega
 have hbits:bl (nm d*2^sqK d p)<=5200:=by
  by_cases h:nm d=0
  .rw[h,q8];decide
  .rw[qt _ _ h];omega
 have h167:=qbl (nm d) (sqK d p) O O O;have hsb:bl (sqN (nm d*2^sqK d p))<=4000:=by
  obtain⟨h1,_⟩:=zm4 (nm d*2^sqK d p);exact bl_sq h1 (k:=4000) O
 have hss:bl (sqN (nm d*2^sqK d p)*sqN (nm d*2^sqK d p))<=8192:=by have:=zbf (sqN (nm d*2^sqK d p)) (sqN (nm d*2^sqK d p));omega
 have h246:=y246 (nm d*2^sqK d p) O;rw[Z5 O]at h246;have h225:=qb9 (sqN (nm d*2^sqK d p)) (sqN (nm d*2^sqK d p)) O O hss;have h177:=qcb (sqN (nm d*2^sqK d p)*sqN (nm d*2^sqK d p)) (nm d*2^sqK d p) O O;have hne:=zr6 (sqN (nm d*2^sqK d p)*sqN (nm d*2^sqK d p)) (nm d*2^sqK d p);have h219:=v219 (sqN (nm d*2^sqK d p)) ((d.e-sqK d p)/2) (decide (sqN (nm d*2^sqK d p)*sqN (nm d*2^sqK d p)≠nm d*2^sqK d p)) up p O O hp;rw[<-hne]at h219 hR;have hw:qC.wrap ((qC.wrap (d.e-(sqK d p:Int))).tdiv 2)=(d.e-sqK d p)/2:=by
  rw[wI (x:=d.e-(sqK d p:Int)) O];obtain⟨t,ht⟩:∃t,d.e-(sqK d p:Int)=t*2:=⟨(d.e-sqK d p)/2,O⟩;rw[ht,Int.mul_tdiv_cancel _ OA,wI O];omega
 have hk1:∀z:Int,z=qC.wrap (d.e-(k0:Int))->((z.tmod 2 != 0)=true->qC.wrap ((k0:Int)+1)=((sqK d p:Nat):Int))/\((z.tmod 2 != 0)=false->(k0:Int)=((sqK d p:Nat):Int)):=by
  intro z hz;rw[wI O]at hz;subst hz;rw[hkk,bne_iff_ne,bne_eq_false_iff_eq];have ht:(d.e-(k0:Int)).tmod 2=0<->(d.e-(k0:Int)) % 2=0:=by
   constructor
   .intro h;have:=Int.dvd_of_tmod_eq_zero h;omega
   .intro h;exact Int.tmod_eq_zero_of_dvd O
  constructor
  .intro h;rw[Z5 fun c=>h (ht.2 c),wI O];omega
  .intro h;rw[Z4 (ht.1 h)]
 have ae:=hd.eq;generalize xt d p up=R at*;generalize sqN (nm d*2^sqK d p)=s at*;generalize nm d*2^sqK d p=m at*;generalize sqK d p=k at*;generalize nm d=x at*;obtain⟨an,am,ax⟩:=d;simp only at ae a2 h219 hR hw hn hk1;subst ae hn;by_cases hx0:x=0
 .rw[hz hx0];subst hx0;rw[jh]at*;refine fY6 Tryz.func197 rfl ?_;refine gYn h164 ?_;exact⟨zqf,leG⟩
 rw[<-hR hx0]at h219;obtain⟨⟨r1,r2,r3⟩,r4⟩:=R;refine fY6 Tryz.func197 rfl ?_;refine gYn h164 ?_;refine brI (fun h6=>?_) (fun h6=>?_)
 .have h6:(((toL x).length :Int)==0)=true:=h6;rw[zb4 hx0]at h6;cases h6
 conv=>whnf
 refine gYn h165 ?_;rw[hk0e];refine⟨OA,?_⟩;conv=>whnf
 obtain⟨hka,hkb2⟩:=hk1 _ rfl;refine brI (fun h6=>?_) (fun h6=>?_)
 .have e:=hka h6;conv=>whnf
  rw[e];refine gYn h167 ?_;refine gYn h246 ?_;refine gYn h225 ?_;refine⟨OA,?_⟩;conv=>whnf
  refine gYn h177 ?_;rw[hw];refine gYc h219 ?_;refine gYd ?_;exact⟨lr rfl,leG⟩
 .have e:=hkb2 h6;conv=>whnf
  rw[e];refine gYn h167 ?_;refine gYn h246 ?_;refine gYn h225 ?_;refine⟨OA,?_⟩;conv=>whnf
  refine gYn h177 ?_;rw[hw];refine gYc h219 ?_;refine gYd ?_;exact⟨lr rfl,leG⟩
def jw(a b:Dy)(p:Nat):Int:=if zk a-zk b<=2 then min (min a.e (zk a-p-8)) b.e else min a.e (zk a-p-8)
def zgs(a b:Dy)(p:Nat):(Nat×Int×Bool)×Bool:=
 if a.neg=b.neg then((nm a*2^(a.e-jw a b p).toNat +(je (nm b) b.e false (jw a b p)).1,jw a b p,(je (nm b) b.e false (jw a b p)).2),false)
 else if nm a*2^(a.e-jw a b p).toNat <upN (je (nm b) b.e false (jw a b p)) true then((upN (je (nm b) b.e false (jw a b p)) true-nm a*2^(a.e-jw a b p).toNat,jw a b p,false),true)
 else((nm a*2^(a.e-jw a b p).toNat -upN (je (nm b) b.e false (jw a b p)) true,jw a b p,(je (nm b) b.e false (jw a b p)).2),false)
theorem v263(x y:Nat)(hx:bl x<=8190)(hy:bl y<=8190):Fn 261 [] [.sl .u32 (toL x),.sl .u32 (toL y)] (dnV (toL (x+y),0)) []:=by
 have h:=y263 x y O O;have hs:bl (x+y)<=8191:=by
  exact zgi hx hy
 rw[Z5 O]at h;unfold dnN at h
 rwa [Z5 O]at h
theorem v264(x y:Nat)(hx:bl x<=8192)(hy:bl y<=8192)(h:y<=x):Fn 262 [] [.sl .u32 (toL x),.sl .u32 (toL y)] (dnV (toL (x-y),0)) []:=by
 have h264:=y264 x y O O;have:=qb (qB x y);rw[Z5 O,Z5 O]at h264;unfold dnN at h264
 rwa [Z5 O]at h264
theorem zl2{a b:Dy}{p:Nat}(ha:VD a)(hb:VD b)(h0:nm a≠0)(hle:zk b<=zk a)(hb0:nm b≠0)(hp:8<=p/\p<=512):
 jw a b p<=a.e/\zk a-4200<=jw a b p/\ -40000<=jw a b p/\jw a b p<=16384:=by
 have a1:=ha.bits;have b1:=hb.bits;have a2:=ha.exp;have b2:=hb.exp;have ta:zk a=bl (nm a)+a.e:=by unfold zk;rw[Z5 h0]
 have tb:zk b=bl (nm b)+b.e:=by unfold zk;rw[Z5 hb0]
 unfold jw;split<;>omega
theorem v224{a b:Dy}(ha:VD a)(hb:VD b)(ha0:nm a≠0)(hb0:nm b≠0)(hle:zk b<=zk a)(p:Nat)(hp:8<=p/\p<=512):
 Fn 224 [] [.agg (dyC a),.agg (dyC b),.int .i64 p] (.tup [.agg (xcC (zgs a b p).1.1 (zgs a b p).1.2.1 (zgs a b p).1.2.2),.bool (zgs a b p).2]) []:=by
 have a1:=ha.bits;have b1:=hb.bits;have a2:=ha.exp;have b2:=hb.exp;have h176a:=zmv ha;have h176b:=zmv hb;obtain⟨l1,l2,l3,l4⟩:=zl2 ha hb ha0 hle hb0 hp;have ta:zk a=bl (nm a)+a.e:=by unfold zk;rw[Z5 ha0]
 have tb:zk b=bl (nm b)+b.e:=by unfold zk;rw[Z5 hb0]
 have xb:bl (nm a*2^(a.e-jw a b p).toNat)<=4200:=by rw[qt _ _ ha0];omega
 have fb:bl (je (nm b) b.e false (jw a b p)).1<=4200:=by
  unfold je;split
  .simp only;rw[qt _ _ hb0];omega
  .simp only;have:=qb (q7 (nm b) (2^(jw a b p-b.e).toNat));omega
 have hf1:jw a b p<=b.e->je (nm b) b.e false (jw a b p)=(nm b*2^(b.e-jw a b p).toNat,false):=fun h=>by unfold je;rw[Z4 h]
 have hf2:¬jw a b p<=b.e->je (nm b) b.e false (jw a b p)=(nm b/2^(jw a b p-b.e).toNat,decide (nm b % 2^(jw a b p-b.e).toNat ≠0)):=fun h=>by unfold je;rw[Z5 h,Bool.false_or]
 have g1:qC.wrap (a.e-jw a b p)=(((a.e-jw a b p).toNat :Nat):Int):=by rw[wI O];omega
 have g2:jw a b p<=b.e->qC.wrap (b.e-jw a b p)=(((b.e-jw a b p).toNat :Nat):Int):=fun h=>by rw[wI O];omega
 have g3:¬jw a b p<=b.e->qC.wrap (jw a b p-b.e)=(((jw a b p-b.e).toNat :Nat):Int):=fun h=>by rw[wI O];omega
 have m1:(if qC.wrap (qC.wrap (zk a-(p:Int))-8)<a.e then qC.wrap (qC.wrap (zk a-(p:Int))-8)else a.e)=min a.e (zk a-p-8):=by
  rw[wI (x:=zk a-(p:Int)) O,wI O];split<;>omega
 have m2:qC.wrap (zk a-zk b)=zk a-zk b:=wI O;have m3:zk a-zk b<=2->(if b.e<min a.e (zk a-p-8)then b.e else min a.e (zk a-p-8))=jw a b p:=fun h=>by unfold jw;rw[Z4 h];split<;>omega
 have m4:¬zk a-zk b<=2->min a.e (zk a-p-8)=jw a b p:=fun h=>by unfold jw;rw[Z5 h]
 have h167a:=qbl (nm a) (a.e-jw a b p).toNat O O O;unfold zgs;generalize jw a b p=low at*;obtain⟨F,hF⟩:∃F,je (nm b) b.e false low=F:=⟨_,rfl⟩;rw[hF]at fb hf1 hf2⊢;have h167b:low<=b.e->Fn 165 [] [.sl .u32 (toL (nm b)),.int .i64 (qC.wrap (b.e-low))] (.sl .u32 (toL F.1)) []/\F.2=false:=fun h=>by
  have e:=hf1 h;rw[e]at fb⊢;simp only at fb;rw[g2 h];exact⟨qbl (nm b) _ O O O,rfl⟩
 have h262b:¬low<=b.e->Fn 260 [] [.sl .u32 (toL (nm b)),.int .i64 (qC.wrap (low-b.e))] (.tup [.sl .u32 (toL F.1),.bool F.2]) []:=fun h=>by
  rw[hf2 h];exact v262 (nm b) _ (g3 h) O O
 obtain⟨x,hx⟩:∃x,nm a*2^(a.e-low).toNat =x:=⟨_,rfl⟩;rw[hx]at xb h167a⊢;have ae:=ha.eq;have be:=hb.eq;clear hF hf1 hf2 g2 g3 ha hb hx;generalize zk a=tA at*;generalize zk b=tB at*;generalize nm a=na at*;generalize nm b=nb at*;obtain⟨an,am,ax⟩:=a;obtain⟨bn,bm,bx⟩:=b;simp only at ae be a2 b2 g1 m1 m3 m4 h167a h167b h262b⊢;subst ae be;rw[<-g1]at h167a;have h263:=v263 x F.1 O O;have h1:=v263 F.1 1 O OA;rw[zim]at h1;have ub:bl (upN F true)<=4300:=by
  unfold upN;split
  .have:=zgh F.1;omega
  .omega
 have hu1:F.2=true->upN F true=F.1+1:=fun h=>by unfold upN;rw[h];rfl
 have hu2:F.2=false->upN F true=F.1:=fun h=>by unfold upN;rw[h];rfl
 have h177:=qcb x (upN F true) O O;have h264a:=v264 x (upN F true) O O;have h264b:=v264 (upN F true) x O O;obtain⟨y,lost⟩:=F;simp only at*;generalize hU:upN (y,lost) true=U at*;refine vu (code:=Tryz.f224.body.getD .skip) hT6 hmx Tryz.func224 rfl rfl (ex:= []) ?_;conv=>whnf
 refine jf hT6 hmx 7 (fun _:Unit=>⟨[.any,.any,.int .i64 p,.ptr 3 0,.ptr 4 0,.any,.ptr 6 0,.bool false,.int .i64 low,.sl .u32 (toL x),.sl .u32 (toL y),.bool lost]++zbh 97,[(3,.cells [.bool an,.sl .u32 (toL na),.int .i64 ax]),(4,.cells [.bool bn,.sl .u32 (toL nb),.int .i64 bx]),(6,.cells [.nilsl,.int .i64 0,.bool false])]⟩) (fun _=>Z) ?_ (fun _=>?_)
 .conv=>whnf
  refine gYn h176a ?_;refine gYd ?_;rw[m1];refine gYn h176a ?_;refine gYn h176b ?_;refine gYd ?_;rw[m2];have tail:True:=trivial;refine brI (fun h5=>?_) (fun h5=>?_)
  .have h5:tA-tB<=2:=Z0 h5;conv=>whnf
   rw[m3 h5];refine gYn h167a ?_;refine brI (fun h6=>?_) (fun h6=>?_)
   .have h6:low<=bx:=Z0 h6;obtain⟨hb1,hb2⟩:=h167b h6;subst hb2;conv=>whnf
    refine gYn hb1 ?_;refine⟨(),?_⟩;exact KZ0
   .have h6:¬low<=bx:=Z1 h6;conv=>whnf
    refine gYn (h262b h6) ?_;refine⟨(),?_⟩;exact KZ0
  .have h5:¬tA-tB<=2:=Z1 h5;conv=>whnf
   rw[m4 h5];refine gYn h167a ?_;refine brI (fun h6=>?_) (fun h6=>?_)
   .have h6:low<=bx:=Z0 h6;obtain⟨hb1,hb2⟩:=h167b h6;subst hb2;conv=>whnf
    refine gYn hb1 ?_;refine⟨(),?_⟩;exact KZ0
   .have h6:¬low<=bx:=Z1 h6;conv=>whnf
    refine gYn (h262b h6) ?_;refine⟨(),?_⟩;exact KZ0
 .refine jt hT6 hmx ?_;conv=>whnf
  refine brI (fun h5=>?_) (fun h5=>?_)
  .have h5:an=bn:=by have h5:(an==bn)=true:=h5;rwa [beq_iff_eq]at h5
   rw[Z4 h5];conv=>whnf
   refine gYn h263 ?_;exact⟨lr rfl,lh0⟩
  .have h5:an≠bn:=by have h5:(an==bn)=false:=h5;rwa [beq_eq_false_iff_ne]at h5
   rw[Z5 h5];conv=>whnf
   cases lost with
   |true=>
    have e:=hu1 rfl;rw[<-e]at h1;conv=>whnf
    refine gYn h1 ?_;refine gYn h177 ?_;refine brI (fun h6=>?_) (fun h6=>?_)
    .have h6:xg x U<0:=Z0 h6;have h6:x<U:=by unfold xg at h6;split at h6;assumption;split at h6<;>omega
     rw[Z4 h6];conv=>whnf
     refine gYn (h264b O) ?_;exact⟨lr rfl,lh0⟩
    .have h6:¬xg x U<0:=Z1 h6;have h6:¬x<U:=fun h=>h6 (by unfold xg;rw[Z4 h];decide)
     rw[Z5 h6];conv=>whnf
     refine gYn (h264a O) ?_;exact⟨lr rfl,lh0⟩
   |false=>
    have e:=hu2 rfl;subst e;conv=>whnf
    refine gYn h177 ?_;refine brI (fun h6=>?_) (fun h6=>?_)
    .have h6:xg x U<0:=Z0 h6;have h6:x<U:=by unfold xg at h6;split at h6;assumption;split at h6<;>omega
     rw[Z4 h6];conv=>whnf
     refine gYn (h264b O) ?_;exact⟨lr rfl,lh0⟩
    .have h6:¬xg x U<0:=Z1 h6;have h6:¬x<U:=fun h=>h6 (by unfold xg;rw[Z4 h];decide)
     rw[Z5 h6];conv=>whnf
     refine gYn (h264a O) ?_;exact⟨lr rfl,lh0⟩
theorem zyv{a b:Dy}{p:Nat}(ha:VD a)(hb:VD b)(ha0:nm a≠0)(hb0:nm b≠0)(hle:zk b<=zk a)(hp:8<=p/\p<=512):
 bl (zgs a b p).1.1<=8000/\ -100000<=(zgs a b p).1.2.1/\(zgs a b p).1.2.1<=100000:=by
 have a1:=ha.bits;have b1:=hb.bits;have a2:=ha.exp;have b2:=hb.exp;obtain⟨l1,l2,l3,l4⟩:=zl2 ha hb ha0 hle hb0 hp;have ta:zk a=bl (nm a)+a.e:=by unfold zk;rw[Z5 ha0]
 have tb:zk b=bl (nm b)+b.e:=by unfold zk;rw[Z5 hb0]
 have xb:bl (nm a*2^(a.e-jw a b p).toNat)<=4200:=by rw[qt _ _ ha0];omega
 have fb:bl (je (nm b) b.e false (jw a b p)).1<=4200:=by
  unfold je;split
  .simp only;rw[qt _ _ hb0];omega
  .simp only;have:=qb (q7 (nm b) (2^(jw a b p-b.e).toNat));omega
 unfold zgs;generalize jw a b p=low at*;generalize nm a*2^(a.e-low).toNat =x at*;generalize je (nm b) b.e false low=F at*;have hu:bl (upN F true)<=4201:=by
  unfold upN;split
  .have:=zgh F.1;omega
  .omega
 split
 .refine⟨?_,OD,OD⟩;simp only;have:bl (x+F.1)<=4201:=zgi xb fb;omega
 .split
  .refine⟨?_,OD,OD⟩;have:=qb (qB (upN F true) x);simp only;omega
  .refine⟨?_,OD,OD⟩;have:=qb (qB x (upN F true));simp only;omega
def zg0(a b:Dy):Dy:=if zk a<zk b then b else a
def zg3(a b:Dy):Dy:=if zk a<zk b then a else b
def qa9(c d:Dy)(p:Nat)(up:Bool):Dy×Int:=
 if(zgs c d p).1.1=0/\(zgs c d p).1.2.2=false then(d0,0)else zay (c.neg != (zgs c d p).2) (zgs c d p).1.1 (zgs c d p).1.2.1 (zgs c d p).1.2.2 p up
def zbx(a b:Dy)(p:Nat)(up:Bool):Dy×Int:=
 if nm a=0 then qp b p up else if nm b=0 then qp a p up else qa9 (zg0 a b) (zg3 a b) p up
theorem v179{a b:Dy}(ha:VD a)(hb:VD b)(up:Bool)(p:Nat)(hp:8<=p/\p<=512):Fn 173 G0 [.agg (dyC a),.agg (dyC b),.int .i64 p,.bool up] (dyV (zbx a b p up)) G0:=by
 have h164:=qcd (p:=p) (l:= [a,b]) hp OC (by simpa using⟨ha,hb⟩);by_cases ha0:nm a=0
 .have h223:=v223 hb up p hp;have hR:zbx a b p up=qp b p up:=by unfold zbx;rw[Z4 ha0]
  rw[hR];generalize qp b p up=R at*;have ae:=ha.eq;rw[ha0]at ae;clear ha hb hR ha0;obtain⟨an,am,ax⟩:=a;obtain⟨bn,bm,bx⟩:=b;obtain⟨⟨r1,r2,r3⟩,r4⟩:=R;simp only at ae;subst ae;refine fY6 Tryz.func173 rfl ?_;refine gYn h164 ?_;refine gYc h223 ?_;exact⟨lr rfl,leG⟩
 by_cases hb0:nm b=0
 .have h223:=v223 ha up p hp;have hR:zbx a b p up=qp a p up:=by unfold zbx;rw[Z5 ha0,Z4 hb0]
  rw[hR];generalize qp a p up=R at*;have ae:=ha.eq;have be:=hb.eq;rw[hb0]at be;clear ha hb hR hb0;generalize nm a=na at*;obtain⟨an,am,ax⟩:=a;obtain⟨bn,bm,bx⟩:=b;obtain⟨⟨r1,r2,r3⟩,r4⟩:=R;simp only at ae be;subst ae be;refine fY6 Tryz.func173 rfl ?_;refine gYn h164 ?_;refine brI (fun h6=>?_) (fun h6=>?_)
  .have h6:(((toL na).length :Int)==0)=true:=h6;rw[zb4 ha0]at h6;cases h6
  conv=>whnf
  refine gYc h223 ?_;exact⟨lr rfl,leG⟩
 have hR:zbx a b p up=qa9 (zg0 a b) (zg3 a b) p up:=by unfold zbx;rw[Z5 ha0,Z5 hb0]
 rw[hR];have h176a:=zmv ha;have h176b:=zmv hb;have hc:VD (zg0 a b)/\VD (zg3 a b)/\nm (zg0 a b)≠0/\nm (zg3 a b)≠0/\zk (zg3 a b)<=zk (zg0 a b):=by
  unfold zg0 zg3;split
  .exact⟨hb,ha,hb0,ha0,O⟩
  .exact⟨ha,hb,ha0,hb0,O⟩
 obtain⟨c1,c2,c3,c4,c5⟩:=hc;have h224:=v224 c1 c2 c3 c4 c5 p hp;obtain⟨s1,s2,s3⟩:=zyv c1 c2 c3 c4 c5 hp;have h168:=v168 ((zg0 a b).neg != (zgs (zg0 a b) (zg3 a b) p).2) (zgs (zg0 a b) (zg3 a b) p).1.1 (zgs (zg0 a b) (zg3 a b) p).1.2.1 (zgs (zg0 a b) (zg3 a b) p).1.2.2 up p O ⟨s2,s3⟩ hp;have hf1:zk a<zk b->zg0 a b=b/\zg3 a b=a:=fun h=>by unfold zg0 zg3;rw[Z4 h,Z4 h];exact⟨rfl,rfl⟩
 have hf2:¬zk a<zk b->zg0 a b=a/\zg3 a b=b:=fun h=>by unfold zg0 zg3;rw[Z5 h,Z5 h];exact⟨rfl,rfl⟩
 unfold qa9;generalize zg0 a b=c at*;generalize zg3 a b=d at*;generalize zgs c d p=S at*;obtain⟨⟨sm,sl,sx⟩,st⟩:=S;simp only at h224 h168 s1 s2 s3⊢;generalize zay (c.neg != st) sm sl sx p up=R at*;have ae:=ha.eq;have be:=hb.eq;clear ha hb c1 c2 c3 c4 c5 hR;generalize zk a=tA at*;generalize zk b=tB at*;generalize nm a=na at*;generalize nm b=nb at*;obtain⟨an,am,ax⟩:=a;obtain⟨bn,bm,bx⟩:=b;obtain⟨cn,cm,cx⟩:=c;obtain⟨dn,dm,dx⟩:=d;obtain⟨⟨r1,r2,r3⟩,r4⟩:=R;simp only at ae be h168;subst ae be;refine vu (code:=Tryz.f173.body.getD .skip) hT6 hmx Tryz.func173 rfl rfl (ex:= []) ?_;conv=>whnf
 refine jf hT6 hmx 4 (fun _:Unit=>⟨[.any,.any,.int .i64 p,.bool up,.ptr 4 0,.ptr 5 0,.any,.any,.ptr 8 0,.int .i64 0,.int .i64 0]++zbh 67,[(4,.cells [.bool cn,.sl .u32 cm,.int .i64 cx]),(5,.cells [.bool dn,.sl .u32 dm,.int .i64 dx]),(8,.cells [.bool false,.nilsl,.int .i64 0]),(11,.free),(qc,.gst JT)]⟩) (fun _=>Z) ?_ (fun _=>?_)
 .conv=>whnf
  refine gYn h164 ?_;refine brI (fun h6=>?_) (fun h6=>?_)
  .have h6:(((toL na).length :Int)==0)=true:=h6;rw[zb4 ha0]at h6;cases h6
  conv=>whnf
  refine brI (fun h6=>?_) (fun h6=>?_)
  .have h6:(((toL nb).length :Int)==0)=true:=h6;rw[zb4 hb0]at h6;cases h6
  conv=>whnf
  refine gYn h176a ?_;refine gYn h176b ?_;refine gYd ?_;refine brI (fun h6=>?_) (fun h6=>?_)
  .have h6:tA<tB:=Z0 h6;obtain⟨e1,e2⟩:=hf1 h6;injection e1 with q1 q2 q3
   injection e2 with q4 q5 q6
   subst q1 q2 q3 q4 q5 q6;conv=>whnf
   refine⟨(),?_⟩;exact KZ0
  .have h6:¬tA<tB:=Z1 h6;obtain⟨e1,e2⟩:=hf2 h6;injection e1 with q1 q2 q3
   injection e2 with q4 q5 q6
   subst q1 q2 q3 q4 q5 q6;conv=>whnf
   refine⟨(),?_⟩;exact KZ0
 .refine jt hT6 hmx ?_;conv=>whnf
  refine gYn h224 ?_;refine brI (fun h6=>?_) (fun h6=>?_)
  .have h6:(toL sm).length =0:=by have h6:(((toL sm).length :Int)==0)=true:=h6;rw[beq_iff_eq]at h6;omega
   have h6:=uo.1 h6
   cases sx with
   |false=>
    rw[Z4 ⟨h6,rfl⟩];conv=>whnf
    exact⟨zqf,leG⟩
   |true=>
    rw[Z5 OC];conv=>whnf
    refine gYc h168 ?_;exact⟨lr rfl,leG⟩
  .have h6:sm≠0:=fun e=>by
    subst e;have h6:(((toL 0).length :Int)==0)=false:=h6;simp[jh]at h6
   rw[Z5 (fun c=>h6 c.1)];conv=>whnf
   refine gYc h168 ?_;exact⟨lr rfl,leG⟩
theorem qbn{a b:Dy}(ha:VD a)(hb:VD b)(p:Nat)(hp:8<=p/\p<=512):Fn 136 G0 [.agg (dyC a),.agg (dyC b),.int .i64 p] (dyV (jr a b p false)) G0:=by
 have h:=v180 ha hb false p hp;generalize jr a b p false=R at*;clear ha hb;obtain⟨an,am,ax⟩:=a;obtain⟨bn,bm,bx⟩:=b;obtain⟨⟨r1,r2,r3⟩,r4⟩:=R;refine fY6 Tryz.func136 rfl ?_;refine gYc h ?_;exact⟨lr rfl,leG⟩
theorem qbm{a b:Dy}(ha:VD a)(hb:VD b)(p:Nat)(hp:8<=p/\p<=512):Fn 137 G0 [.agg (dyC a),.agg (dyC b),.int .i64 p] (dyV (jr a b p true)) G0:=by
 have h:=v180 ha hb true p hp;generalize jr a b p true=R at*;clear ha hb;obtain⟨an,am,ax⟩:=a;obtain⟨bn,bm,bx⟩:=b;obtain⟨⟨r1,r2,r3⟩,r4⟩:=R;refine fY6 Tryz.func137 rfl ?_;refine gYc h ?_;exact⟨lr rfl,leG⟩
theorem v76{a b:Dy}(ha:VD a)(hb:VD b)(p:Nat)(hp:8<=p/\p<=512):Fn 93 G0 [.agg (dyC a),.agg (dyC b),.int .i64 p] (dyV (ku a b p false)) G0:=by
 have h:=v121 ha hb false p hp;generalize ku a b p false=R at*;clear ha hb;obtain⟨an,am,ax⟩:=a;obtain⟨bn,bm,bx⟩:=b;obtain⟨⟨r1,r2,r3⟩,r4⟩:=R;refine fY6 Tryz.func93 rfl ?_;refine gYc h ?_;exact⟨lr rfl,leG⟩
theorem v78{a b:Dy}(ha:VD a)(hb:VD b)(p:Nat)(hp:8<=p/\p<=512):Fn 95 G0 [.agg (dyC a),.agg (dyC b),.int .i64 p] (dyV (ku a b p true)) G0:=by
 have h:=v121 ha hb true p hp;generalize ku a b p true=R at*;clear ha hb;obtain⟨an,am,ax⟩:=a;obtain⟨bn,bm,bx⟩:=b;obtain⟨⟨r1,r2,r3⟩,r4⟩:=R;refine fY6 Tryz.func95 rfl ?_;refine gYc h ?_;exact⟨lr rfl,leG⟩
theorem v128{a b:Dy}(ha:VD a)(hb:VD b)(p:Nat)(hp:8<=p/\p<=512):Fn 132 G0 [.agg (dyC a),.agg (dyC b),.int .i64 p] (dyV (zbx a b p false)) G0:=by
 have h:=v179 ha hb false p hp;generalize zbx a b p false=R at*;clear ha hb;obtain⟨an,am,ax⟩:=a;obtain⟨bn,bm,bx⟩:=b;obtain⟨⟨r1,r2,r3⟩,r4⟩:=R;refine fY6 Tryz.func132 rfl ?_;refine gYc h ?_;exact⟨lr rfl,leG⟩
theorem v129{a b:Dy}(ha:VD a)(hb:VD b)(p:Nat)(hp:8<=p/\p<=512):Fn 133 G0 [.agg (dyC a),.agg (dyC b),.int .i64 p] (dyV (zbx a b p true)) G0:=by
 have h:=v179 ha hb true p hp;generalize zbx a b p true=R at*;clear ha hb;obtain⟨an,am,ax⟩:=a;obtain⟨bn,bm,bx⟩:=b;obtain⟨⟨r1,r2,r3⟩,r4⟩:=R;refine fY6 Tryz.func133 rfl ?_;refine gYc h ?_;exact⟨lr rfl,leG⟩
theorem v145{a:Dy}(ha:VD a)(hn:a.neg=false)(p:Nat)(hp:8<=p/\p<=512):Fn 149 G0 [.agg (dyC a),.int .i64 p] (dyV (xt a p false)) G0:=by
 have h:=v204 ha hn false p hp;generalize xt a p false=R at*;clear ha;obtain⟨an,am,ax⟩:=a;obtain⟨⟨r1,r2,r3⟩,r4⟩:=R;refine fY6 Tryz.func149 rfl ?_;refine gYc h ?_;exact⟨lr rfl,leG⟩
theorem v146{a:Dy}(ha:VD a)(hn:a.neg=false)(p:Nat)(hp:8<=p/\p<=512):Fn 150 G0 [.agg (dyC a),.int .i64 p] (dyV (xt a p true)) G0:=by
 have h:=v204 ha hn true p hp;generalize xt a p true=R at*;clear ha;obtain⟨an,am,ax⟩:=a;obtain⟨⟨r1,r2,r3⟩,r4⟩:=R;refine fY6 Tryz.func150 rfl ?_;refine gYc h ?_;exact⟨lr rfl,leG⟩
theorem qe0{x y:Nat}(h:bl x<bl y):x<y:=Nat.not_le.1 fun c=>by have:=qb c;omega
def cmA(a b:Dy):Int:=xg (nm a*2^(a.e-min a.e b.e).toNat) (nm b*2^(b.e-min a.e b.e).toNat)
theorem zzj{x y:Nat}(h:x<y):xg x y= -1:=by unfold xg;rw[Z4 h]
theorem zzk{x y:Nat}(h:y<x):xg x y=1:=by unfold xg;rw[Z5 O,Z4 h]
theorem v125{a b:Dy}(ha:VD a)(hb:VD b)(ha0:nm a≠0)(hb0:nm b≠0):Fn 66 [] [.agg (dyC a),.agg (dyC b)] (.int .i64 (cmA a b)) []:=by
 have a1:=ha.bits;have b1:=hb.bits;have a2:=ha.exp;have b2:=hb.exp;have h176a:=zmv ha;have h176b:=zmv hb;have ta:zk a=bl (nm a)+a.e:=by unfold zk;rw[Z5 ha0]
 have tb:zk b=bl (nm b)+b.e:=by unfold zk;rw[Z5 hb0]
 have m1:(if b.e<a.e then b.e else a.e)=min a.e b.e:=by split<;>omega
 have xa:=qt (nm a) (a.e-min a.e b.e).toNat ha0;have xb:=qt (nm b) (b.e-min a.e b.e).toNat hb0;have hlt:zk a<zk b->cmA a b= -1:=fun h=>zzj (qe0 O)
 have hgt:zk b<zk a->cmA a b=1:=fun h=>zzk (qe0 O)
 have g1:qC.wrap (a.e-min a.e b.e)=(((a.e-min a.e b.e).toNat :Nat):Int):=by rw[wI O];omega
 have g2:qC.wrap (b.e-min a.e b.e)=(((b.e-min a.e b.e).toNat :Nat):Int):=by rw[wI O];omega
 have h178a:zk a=zk b->Fn 112 [] [.sl .u32 (toL (nm a)),.int .i64 (qC.wrap (a.e-min a.e b.e))] (.sl .u32 (toL (nm a*2^(a.e-min a.e b.e).toNat))) []:=fun h=>by
  rw[g1];exact v178 _ _ O O O
 have h178b:zk a=zk b->Fn 112 [] [.sl .u32 (toL (nm b)),.int .i64 (qC.wrap (b.e-min a.e b.e))] (.sl .u32 (toL (nm b*2^(b.e-min a.e b.e).toNat))) []:=fun h=>by
  rw[g2];exact v178 _ _ O O O
 have h177:zk a=zk b->Fn 111 [] [.sl .u32 (toL (nm a*2^(a.e-min a.e b.e).toNat)),.sl .u32 (toL (nm b*2^(b.e-min a.e b.e).toNat))] (.int .i64 (cmA a b)) []:=fun h=>qcb _ _ O O
 generalize cmA a b=c at*;generalize nm a*2^(a.e-min a.e b.e).toNat =X at*;generalize nm b*2^(b.e-min a.e b.e).toNat =Y at*;generalize zk a=tA at*;generalize zk b=tB at*;generalize min a.e b.e=t at*;have ae:=ha.eq;have be:=hb.eq;clear ha hb xa xb;generalize nm a=na at*;generalize nm b=nb at*;obtain⟨an,am,ax⟩:=a;obtain⟨bn,bm,bx⟩:=b;simp only at ae be m1 h178a h178b;subst ae be;refine fY6 Tryz.func66 rfl ?_;refine gYn h176a ?_;refine gYn h176b ?_;refine gYd ?_;refine brI (fun h1=>?_) (fun h1=>?_)
 .rw[hlt (Z0 h1)];conv=>whnf
  exact⟨lr rfl,lh0⟩
 have h1:¬tA<tB:=Z1 h1;conv=>whnf
 refine brI (fun h2=>?_) (fun h2=>?_)
 .rw[hgt (Z0 h2)];conv=>whnf
  exact⟨lr rfl,lh0⟩
 have h2:¬tB<tA:=Z1 h2;have he:tA=tB:=O;conv=>whnf
 rw[m1];refine gYn (h178a he) ?_;refine gYn (h178b he) ?_;refine gYn (h177 he) ?_;refine gYd ?_;exact⟨lr rfl,lh0⟩
def zr5(x y:Int):Int:=if x<y then-1 else if y<x then 1 else 0
def zi(d:Dy)(t:Int):Int:=if d.neg=true then-((nm d*2^(d.e-t).toNat :Nat):Int)else((nm d*2^(d.e-t).toNat :Nat):Int)
def qr(a b:Dy):Int:=zr5 (zi a (min a.e b.e)) (zi b (min a.e b.e))
theorem zmo(d:Dy)(t:Int):wb d=zr5 (zi d t) 0:=by
 unfold wb zi zr5;have hp:=Nat.two_pow_pos (d.e-t).toNat;by_cases h:nm d=0
 .rw[Z4 h,h];split<;>simp
 .rw[Z5 h];have:0<nm d*2^(d.e-t).toNat :=Nat.mul_pos (Nat.pos_of_ne_zero h) hp;split<;>split<;>omega
theorem ztp{a b:Dy}(h:wb a=wb b)(h0:wb a≠0):qr a b=wb a*cmA a b:=by
 unfold qr cmA;unfold wb at h h0⊢;by_cases ha:nm a=0
 .rw[Z4 ha]at h0;exact absurd rfl h0
 .rw[Z5 ha]at h h0⊢;by_cases hb:nm b=0
  .rw[Z4 hb]at h;exact absurd h h0
  .rw[Z5 hb]at h;unfold zi zr5 xg;generalize nm a*2^(a.e-min a.e b.e).toNat =X;generalize nm b*2^(b.e-min a.e b.e).toNat =Y;by_cases hna:a.neg=true<;>by_cases hnb:b.neg=true<;>simp only[hna,hnb,if_true,if_false,Bool.false_eq_true]at h⊢
   .by_cases c1:X<Y
    .rw[Z4 c1,Z5 O,Z4 O];rfl
    .by_cases c2:Y<X
     .rw[Z5 c1,Z4 c2,Z4 O];rfl
     .rw[Z5 c1,Z5 c2,Z5 O,Z5 O];rfl
   .cases h
   .cases h
   .by_cases c1:X<Y
    .rw[Z4 c1,Z4 O];rfl
    .by_cases c2:Y<X
     .rw[Z5 c1,Z4 c2,Z5 O,Z4 O];rfl
     .rw[Z5 c1,Z5 c2,Z5 O,Z5 O];rfl
theorem zwm{a b:Dy}:(wb a<wb b->qr a b= -1)/\(wb b<wb a->qr a b=1)/\(wb a=wb b->wb a=0->qr a b=0):=by
 rw[zmo a (min a.e b.e),zmo b (min a.e b.e)];unfold qr;generalize zi a (min a.e b.e)=x;generalize zi b (min a.e b.e)=y;unfold zr5;refine⟨?_,?_,?_⟩
 .intro h;split at h<;>split at h<;>(try split at h)<;>(try split at h)<;>first|(rw[Z4 O])|omega
 .intro h;split at h<;>split at h<;>(try split at h)<;>(try split at h)<;>first|(rw[Z5 O,Z4 O])|omega
 .intro h h0;split at h0<;>(try split at h0)<;>split at h<;>(try split at h)<;>(try split at h)<;>first|(rw[Z5 O,Z5 O])|omega
theorem v81{a b:Dy}(ha:VD a)(hb:VD b):Fn 32 [] [.agg (dyC a),.agg (dyC b)] (.int .i64 (qr a b)) []:=by
 have h80a:=v80 ha;have h80b:=v80 hb;have h124a:=zql ha;have h124b:=zql hb;obtain⟨s1,s2,s3⟩:=zwm (a:=a) (b:=b);have s4:=ztp (a:=a) (b:=b);have h125:wb a=wb b->wb a≠0->Fn 66 [] [.agg (dyC a),.agg (dyC b)] (.int .i64 (cmA a b)) []:=fun h h0=>by
  refine v125 ha hb (fun c=>?_) (fun c=>?_)
  .unfold wb at h0;rw[Z4 c]at h0;exact h0 rfl
  .rw[h]at h0;unfold wb at h0;rw[Z4 c]at h0;exact h0 rfl
 have hb1: -1<=wb a/\wb a<=1:=by unfold wb;split;omega;split<;>omega
 have hb2: -1<=cmA a b/\cmA a b<=1:=by unfold cmA xg;split;omega;split<;>omega
 have hw:qC.wrap (wb a*cmA a b)=wb a*cmA a b:=by
  have:wb a= -1\/wb a=0\/wb a=1:=O;rcases this with h|h|h<;>rw[h]<;>exact wI O
 generalize cmA a b=C at*;generalize qr a b=R at*;generalize wb a=A at*;generalize wb b=B at*;clear ha hb;obtain⟨an,am,ax⟩:=a;obtain⟨bn,bm,bx⟩:=b;refine fY6 Tryz.func32 rfl ?_;refine gYn h80a ?_;refine gYn h80b ?_;refine gYn h124a ?_;refine gYn h124b ?_;refine gYd ?_;refine brI (fun h1=>?_) (fun h1=>?_)
 .rw[s1 (Z0 h1)];conv=>whnf
  exact⟨lr rfl,lh0⟩
 have h1:¬A<B:=Z1 h1;conv=>whnf
 refine brI (fun h2=>?_) (fun h2=>?_)
 .rw[s2 (Z0 h2)];conv=>whnf
  exact⟨lr rfl,lh0⟩
 have h2:¬B<A:=Z1 h2;have he:A=B:=O;conv=>whnf
 refine brI (fun h3=>?_) (fun h3=>?_)
 .have h3:A=0:=by simpa using h3
  rw[s3 he h3];conv=>whnf
  exact⟨lr rfl,lh0⟩
 have h3:A≠0:=by simpa using h3
 conv=>whnf
 refine gYn (h125 he h3) ?_;exact⟨ai0 (by rw[hw,s4 he h3]),lh0⟩
def wa(d:Dy)(k:Int):Dy×Int:=if exB k=false then(d0,1)else ckN d.neg (nm d) (d.e+k)
theorem v230{d:Dy}(hd:VD d)(k:Int):Fn 228 G0 [.agg (dyC d),.int .i64 k] (dyV (wa d k)) G0:=by
 have h80:=v80 hd;have h268:=y268 k;have a1:=hd.bits;have a2:=hd.exp;have hlen:=hd.len;have hlb:=hd.lb;by_cases hk:exB k=false
 .have hR:wa d k=(d0,1):=by unfold wa;rw[Z4 hk]
  rw[hR];rw[hk]at h268;obtain⟨an,am,ax⟩:=d;have h80:Fn 64 [] [.agg [.bool an,.sl .u32 am,.int .i64 ax]] (.bool true) []:=h80;show Fn 228 G0 [.agg [.bool an,.sl .u32 am,.int .i64 ax],.int .i64 k] _ G0;refine fY6 Tryz.func228 rfl ?_;refine gYn h80 ?_;refine gYn h268 ?_;exact⟨zqf,leG⟩
 .have hR:wa d k=ckN d.neg (nm d) (d.e+k):=by unfold wa;rw[Z5 hk]
  rw[hR];have hk:exB k=true:=by simpa using hk
  rw[hk]at h268;unfold exB at hk;simp only[q0,Z2]at hk;have h122:=v122 d.neg d.m (d.e+k) hlb O (O:bl (nm d)<=8192) O;have h122:Fn 129 G0 [.bool d.neg,.sl .u32 d.m,.int .i64 (d.e+k)] (.agg (dyC (cnN d.neg (nm d) (d.e+k)))) G0:=h122;have hc:=y269 (cnN d.neg (nm d) (d.e+k)) (by unfold cnN;split;exact vg.lb;exact qn _) (by
   unfold cnN;split
   .simp[d0]
   .have:=qb (q7 (nm d) (2^tz (nm d)));have:=(vi (nm d/2^tz (nm d)) 1000000).2 O;exact this)
  rw[ztq]at hc;have hw:qC.wrap (d.e+k)=d.e+k:=wI O;generalize ckN d.neg (nm d) (d.e+k)=R at*;generalize cnN d.neg (nm d) (d.e+k)=C at*;clear hR hd;obtain⟨an,am,ax⟩:=d;obtain⟨⟨r1,r2,r3⟩,r4⟩:=R;obtain⟨c1,c2,c3⟩:=C;simp only at h122 hw;have h80:Fn 64 [] [.agg [.bool an,.sl .u32 am,.int .i64 ax]] (.bool true) []:=h80;have hc:Fn 267 [] [.agg [.bool c1,.sl .u32 c2,.int .i64 c3]] (dyV (⟨r1,r2,r3⟩,r4)) []:=hc;show Fn 228 G0 [.agg [.bool an,.sl .u32 am,.int .i64 ax],.int .i64 k] _ G0;refine fY6 Tryz.func228 rfl ?_;refine gYn h80 ?_;refine gYn h268 ?_;rw[hw];refine gYc h122 ?_;refine gYn hc ?_;exact⟨lr rfl,leG⟩
def kr(n:Int):Dy:=cnN (decide (n<0)) n.natAbs 0
theorem v77(n:Int)(h: -4611686018427387904<=n/\n<=4611686018427387904):Fn 94 G0 [.int .i64 n] (.agg (dyC (kr n))) G0:=by
 have key:∀X:Int,X=n.natAbs->Fn 129 G0 [.bool (decide (n<0)),.sl .u32 [qD.wrap X,qD.wrap (X.fdiv 4294967296)],.int .i64 0] (.agg (dyC (kr n))) G0:=by
  intro X hX;have e1:qD.wrap X=X % 4294967296:=by simp[qF,qE,qG]
  have e2:qD.wrap (X.fdiv 4294967296)=X/4294967296:=by
   rw[Int.fdiv_eq_ediv_of_nonneg _ OA,zw6 O]
  rw[e1,e2];have hv:val [X % 4294967296,X/4294967296]=n.natAbs:=by
   rw[qy,qy];show(X % 4294967296).toNat +4294967296*((X/4294967296).toNat +4294967296*0)=n.natAbs;omega
  have h1:=v122 (decide (n<0)) [X % 4294967296,X/4294967296] 0 (fun z hz=>by
   simp only[List.mem_cons,List.not_mem_nil,or_false]at hz;rcases hz with rfl|rfl<;>omega) OC (by rw[hv];exact Nat.le_trans (jo.2 (O:n.natAbs<2^64)) OA) OA
  rw[hv]at h1;exact h1
 generalize kr n=R at*;refine fY6 Tryz.func94 rfl ?_;refine brI (fun h1=>?_) (fun h1=>?_)
 .have h1':n<0:=Z0 h1;have e:qH.wrap (0-qH.wrap n)=n.natAbs:=by
   simp[qF,qE,qG];omega
  conv=>whnf
  refine⟨OA,?_⟩;conv=>whnf
  refine gYc (key _ e) ?_;exact⟨lr rfl,leG⟩
 .have h1':¬n<0:=Z1 h1;have e:qH.wrap n=n.natAbs:=by
   simp[qF,qE,qG];omega
  conv=>whnf
  refine⟨OA,?_⟩;conv=>whnf
  refine gYc (key _ e) ?_;exact⟨lr rfl,leG⟩
structure RI(x:Iv):Prop where
 lo:LB x.lo.m
 hi:LB x.hi.m
 l1:x.lo.m.length<9223372036854775808
 l2:x.hi.m.length<9223372036854775808
def zrB(d:Dy):Bool:= !d.neg&&decide (d.m.length=0)&&decide (d.e=0)
def viB(x:Iv):Bool:=if x.all=true then zrB x.lo&&zrB x.hi else vB x.lo&&vB x.hi&&decide (qr x.lo x.hi<=0)
def kB(x:Iv):Bool:= !x.all&&viB x
structure KI(x:Iv):Prop where
 all:x.all=false
 lo:VD x.lo
 hi:VD x.hi
 le:qr x.lo x.hi<=0
def wI0:Iv:=⟨d0,d0,true⟩
def VI(x:Iv):Prop:=KI x\/x=wI0
theorem zyi{d:Dy}:zrB d=true<->d=d0:=by
 obtain⟨a,b,c⟩:=d;unfold zrB d0;simp only[q0,q9,Z2,List.length_eq_zero_iff,Dy.mk.injEq];constructor
 .rintro⟨⟨h1,h2⟩,h3⟩;exact⟨h1,h2,h3⟩
 .rintro⟨h1,h2,h3⟩;exact⟨⟨h1,h2⟩,h3⟩
theorem qh{x:Iv}(h:RI x):kB x=true<->KI x:=by
 unfold kB viB;constructor
 .intro e;simp only[q0,q9]at e;obtain⟨e1,e2⟩:=e;rw[Z5 (by rw[e1];simp)]at e2;simp only[q0,Z2]at e2;exact⟨e1,(zap h.lo).1 e2.1.1,(zap h.hi).1 e2.1.2,e2.2⟩
 .intro k;rw[k.all,Z5 OC,(zap h.lo).2 k.lo,(zap h.hi).2 k.hi,Z6 k.le];rfl
theorem zh2{x:Iv}(h:RI x):viB x=true<->VI x:=by
 by_cases ha:x.all=true
 .unfold viB VI;rw[Z4 ha];simp only[q0,zyi];constructor
  .rintro⟨h1,h2⟩;obtain⟨lo,hi,al⟩:=x;simp only at h1 h2 ha;subst h1 h2 ha;exact .inr rfl
  .rintro(k|rfl)
   .rw[k.all]at ha;cases ha
   .exact⟨rfl,rfl⟩
 .have e:viB x=kB x:=by unfold kB;rw[show x.all=false by simpa using ha];rfl
  rw[e,qh h];unfold VI;constructor
  .exact .inl
  .rintro(k|rfl)
   .exact k
   .exact absurd rfl ha
theorem KI.ri{x:Iv}(k:KI x):RI x:=⟨k.lo.lb,k.hi.lb,by have:=k.lo.len;omega,by have:=k.hi.len;omega⟩
theorem zjd:RI wI0:=⟨vg.lb,vg.lb,OA,OA⟩
theorem VI.ri{x:Iv}(k:VI x):RI x:=by
 rcases k with k|rfl
 .exact k.ri
 .exact zjd
theorem i79(d:Dy):Fn 63 [] [.agg (dyC d)] (.bool (zrB d)) []:=by
 obtain⟨R,hR⟩:∃R,zrB d=R:=⟨_,rfl⟩;rw[hR];unfold zrB at hR;obtain⟨d1,d2,d3⟩:=d;simp only at hR;show Fn 63 [] [.agg [.bool d1,.sl .u32 d2,.int .i64 d3]] _ [];refine fY6 Tryz.func63 rfl ?_
 cases d1 with
 |true=>
  conv=>whnf
  exact⟨ab0 hR,lh0⟩
 |false=>
  conv=>whnf
  refine brI (fun h1=>?_) (fun h1=>?_)
  .have h2:d2.length=0:=by have h1:((d2.length:Int)==0)=true:=h1;rw[beq_iff_eq]at h1;omega
   rw[Z6 h2]at hR;conv=>whnf
   exact⟨ab0 (by rw[<-hR];simp;rw[qA];simp),lh0⟩
  .have h2:¬d2.length=0:=by have h1:((d2.length:Int)==0)=false:=h1;rw[beq_eq_false_iff_ne]at h1;omega
   rw[Z7 h2]at hR;conv=>whnf
   exact⟨ab0 (by rw[<-hR];simp),lh0⟩
theorem i51(x:Iv)(h:RI x):Fn 29 [] [.agg (ivC x)] (.bool (viB x)) []:=by
 have hlo:=y80 x.lo h.lo h.l1;have hhi:=y80 x.hi h.hi h.l2;have zlo:=i79 x.lo;have zhi:=i79 x.hi;have hc:vB x.lo=true->vB x.hi=true->Fn 32 [] [.agg (dyC x.lo),.agg (dyC x.hi)] (.int .i64 (qr x.lo x.hi)) []:=fun h1 h2=>v81 ((zap h.lo).1 h1) ((zap h.hi).1 h2)
 obtain⟨R,hR⟩:∃R,viB x=R:=⟨_,rfl⟩;rw[hR];unfold viB at hR;generalize vB x.lo=a at*;generalize vB x.hi=b at*;generalize zrB x.lo=c at*;generalize zrB x.hi=d at*;generalize qr x.lo x.hi=C at*;clear h;obtain⟨⟨x1,x2,x3⟩,⟨x4,x5,x6⟩,x7⟩:=x;simp only at hR;have hlo:Fn 64 [] [.agg [.bool x1,.sl .u32 x2,.int .i64 x3]] (.bool a) []:=hlo;have hhi:Fn 64 [] [.agg [.bool x4,.sl .u32 x5,.int .i64 x6]] (.bool b) []:=hhi;have zlo:Fn 63 [] [.agg [.bool x1,.sl .u32 x2,.int .i64 x3]] (.bool c) []:=zlo;have zhi:Fn 63 [] [.agg [.bool x4,.sl .u32 x5,.int .i64 x6]] (.bool d) []:=zhi;have hc:a=true->b=true->Fn 32 [] [.agg [.bool x1,.sl .u32 x2,.int .i64 x3],.agg [.bool x4,.sl .u32 x5,.int .i64 x6]] (.int .i64 C) []:=hc;show Fn 29 [] [.agg [.bool x1,.sl .u32 x2,.int .i64 x3,.bool x4,.sl .u32 x5,.int .i64 x6,.bool x7]] _ [];refine fY6 Tryz.func29 rfl ?_
 cases x7 with
 |true=>
  rw[Z4 rfl]at hR
  cases c with
  |false=>
   conv=>whnf
   refine gYn zlo ?_;exact⟨ab0 hR,lh0⟩
  |true=>
   conv=>whnf
   refine gYn zlo ?_;refine gYn zhi ?_;exact⟨ab0 (by rw[<-hR,Bool.true_and]),lh0⟩
 |false=>
  rw[Z5 OC]at hR
  cases a with
  |false=>
   conv=>whnf
   refine gYn hlo ?_;exact⟨ab0 (by rw[<-hR];rfl),lh0⟩
  |true=>
   cases b with
   |false=>
    conv=>whnf
    refine gYn hlo ?_;refine gYn hhi ?_;exact⟨ab0 (by rw[<-hR];rfl),lh0⟩
   |true=>
    conv=>whnf
    refine gYn hlo ?_;refine gYn hhi ?_;refine gYn (hc rfl rfl) ?_;exact⟨ab0 (by rw[<-hR];rfl),lh0⟩
theorem zn5(l:List Iv)(hl:l.length<=1000000)(h:∀x∈l,RI x):Fn 130 [] [.sl .iv l] (.bool (l.all kB)) []:=by
 obtain⟨A,hA⟩:∃A,l.all kB=A:=⟨_,rfl⟩;rw[hA];refine fY6 Tryz.func130 rfl ?_;refine⟨Nat,fun i=>i<=l.length/\(l.drop i).all kB=A,fun i=> [(7,.int .i64 i)],fun _=> [],fun i=>l.length-i,0,⟨OC,by simpa using hA⟩,?_,fun i hi=>?_⟩
 .exact KZ0
 refine gYe ?_;obtain⟨hi1,hi2⟩:=hi;refine brI (fun h1=>?_) (fun h1=>?_)
 .conv=>whnf
  have hi:i<l.length:=by simp only[Z2]at h1;omega
  refine⟨⟨O,O⟩,fun(x:Iv)hx=>?_⟩;have hx:l[i]? =some x:=by simpa using hx
  have hr:=h x (List.mem_of_getElem? hx);have h51:=i51 x hr;rw[va hx,List.all_cons]at hi2;have hk:kB x=(!x.all&&viB x):=rfl;generalize kB x=K at*;generalize viB x=V at*;clear hr;obtain⟨⟨x1,x2,x3⟩,⟨x4,x5,x6⟩,x7⟩:=x;have h51:Fn 29 [] [.agg [.bool x1,.sl .u32 x2,.int .i64 x3,.bool x4,.sl .u32 x5,.int .i64 x6,.bool x7]] (.bool V) []:=h51;simp only at hk;conv=>whnf
  cases x7 with
  |true=>
   rw[hk]at hi2;subst hi2;conv=>whnf
   exact⟨lr rfl,lh0⟩
  |false=>
   cases V with
   |false=>
    rw[hk]at hi2;subst hi2;conv=>whnf
    refine gYn h51 ?_;exact⟨lr rfl,lh0⟩
   |true=>
    rw[hk]at hi2;conv=>whnf
    refine gYn h51 ?_;refine⟨i+1,⟨O,by simpa using hi2⟩,by show l.length-(i+1)<l.length-i;omega,?_⟩;exact KZ0
 .have hi:¬i<l.length:=by simp only[Z3]at h1;omega
  rw[List.drop_of_length_le O]at hi2;conv=>whnf
  exact⟨ab0 hi2,lh0⟩
theorem zxy(p:Int):Fn 131 [] [.int .i64 p] (.bool (pcB p)) []:=by
 refine fY6 Tryz.func131 rfl ?_;refine brI (fun h1=>?_) (fun h1=>?_)
 .have h1:8<=p:=by simpa using h1
  conv=>whnf
  exact⟨ab0 (by simp[pcB,h1]),lh0⟩
 .have h1:¬8<=p:=by simpa using h1
  conv=>whnf
  exact⟨ab0 (by simp[pcB,h1]),lh0⟩
theorem leW{h h':Hp}:leA h h' (.agg [.bool false,.nilsl,.int .i64 0,.bool false,.nilsl,.int .i64 0,.bool true]) (.agg (ivC wI0)):=
 lg0 (lc (lr rfl) (lc (li0 rfl) (lc (lr rfl) (lc (lr rfl) (lc (li0 rfl) (lc (lr rfl) (lc (lr rfl) ln0)))))))
theorem i25:Fn 26 [] [] (.agg (ivC wI0)) []:=by
 refine fY6 Tryz.func26 rfl ?_;exact⟨leW,lh0⟩
def wm(a b:Dy×Int):Iv:=if a.2≠0\/b.2≠0 then wI0 else⟨a.1,b.1,false⟩
theorem qbu(a b:Dy×Int):Fn 134 [] [.agg (dyC a.1),.int .i64 a.2,.agg (dyC b.1),.int .i64 b.2] (.agg (ivC (wm a b))) []:=by
 obtain⟨R,hR⟩:∃R,wm a b=R:=⟨_,rfl⟩;rw[hR];unfold wm at hR;have h25:=i25;have e25:ivC wI0= [.bool false,.sl .u32 [],.int .i64 0,.bool false,.sl .u32 [],.int .i64 0,.bool true]:=rfl;rw[e25]at h25;obtain⟨⟨a1,a2,a3⟩,e⟩:=a;obtain⟨⟨b1,b2,b3⟩,f⟩:=b;simp only at hR;refine fY6 Tryz.func134 rfl ?_;refine brI (fun h1=>?_) (fun h1=>?_)
 .have h1:e≠0:=by simpa using h1
  rw[Z4 (.inl h1)]at hR;subst hR;conv=>whnf
  refine gYn h25 ?_;exact⟨lr rfl,lh0⟩
 have h1:e=0:=by simpa using h1
 conv=>whnf
 refine brI (fun h2=>?_) (fun h2=>?_)
 .have h2:f≠0:=by simpa using h2
  rw[Z4 (.inr h2)]at hR;subst hR;conv=>whnf
  refine gYn h25 ?_;exact⟨lr rfl,lh0⟩
 have h2:f=0:=by simpa using h2
 rw[Z5 (by simp[h1,h2])]at hR;subst hR;conv=>whnf
 exact⟨lr rfl,lh0⟩
theorem zdk{d:Dy}(h:VD d):VD (xy d):=by
 unfold xy;split
 .exact vg
 .rename_i h0;refine⟨h.eq,.inr ?_⟩;rcases h.ok with ⟨h1,_⟩|h1
  .exact absurd h1 h0
  .exact h1
theorem zdm{d:Dy}(h:VD d):VD (zax d):=by
 refine⟨h.eq,?_⟩;rcases h.ok with ⟨h1,h2,h3⟩|h1
 .exact .inl ⟨h1,rfl,h3⟩
 .exact .inr h1
theorem zo6(neg:Bool)(m:Nat)(e:Int)(more up:Bool)(p:Nat)(hp:8<=p/\p<=512):VD (zay neg m e more p up).1:=by
 have h:=zmh m e more (up != neg) p hp;unfold zay;split
 .exact zdk h
 .exact h
theorem jq(d:Dy)(up:Bool)(p:Nat)(hp:8<=p/\p<=512):VD (qp d p up).1:=zo6 _ _ _ _ _ _ hp
theorem ul(a b:Dy)(up:Bool)(p:Nat)(hp:8<=p/\p<=512):VD (jr a b p up).1:=zo6 _ _ _ _ _ _ hp
theorem zau(a b:Dy)(up:Bool)(p:Nat)(hp:8<=p/\p<=512):VD (ku a b p up).1:=by
 unfold ku;split
 .exact vg
 .exact zo6 _ _ _ _ _ _ hp
theorem zuf(a b:Dy)(up:Bool)(p:Nat)(hp:8<=p/\p<=512):VD (zbx a b p up).1:=by
 unfold zbx;split
 .exact jq _ _ _ hp
 .split
  .exact jq _ _ _ hp
  .unfold qa9;split
   .exact vg
   .exact zo6 _ _ _ _ _ _ hp
theorem zuc(d:Dy)(up:Bool)(p:Nat)(hp:8<=p/\p<=512):VD (xt d p up).1:=by
 unfold xt;split
 .exact vg
 .exact zmh _ _ _ _ _ hp
theorem VD_ck(neg:Bool)(n:Nat)(e:Int):VD (ckN neg n e).1:=by
 unfold ckN;split
 .rename_i h;exact zk6 h
 .exact vg
theorem zby(d:Dy)(k:Int):VD (wa d k).1:=by
 unfold wa;split
 .exact vg
 .exact VD_ck _ _ _
theorem xm{p:Int}:pcB p=true<->∃q:Nat,p=q/\8<=q/\q<=512:=by
 unfold pcB;simp only[q0,Z2];constructor
 .intro h;exact⟨p.toNat,O,O,O⟩
 .rintro⟨q,rfl,h⟩;omega
theorem e25:ivC wI0= [.bool false,.sl .u32 [],.int .i64 0,.bool false,.sl .u32 [],.int .i64 0,.bool true]:=rfl
theorem k1(x:Iv): [x].all kB=kB x:=OC
theorem k2(x y:Iv): [x,y].all kB=(kB x&&kB y):=OC
def zk8(x:Iv):Iv:=if kB x=true then⟨xy x.hi,xy x.lo,false⟩else wI0
theorem i86(x:Iv)(h:RI x):Fn 100 [] [.agg (ivC x)] (.agg (ivC (zk8 x))) []:=by
 have h126:=zn5 [x] OC (by simpa using h);rw[k1]at h126;have h25:=i25;rw[e25]at h25;by_cases hk:kB x=true
 .have k:=(qh h).1 hk;have hR:zk8 x=⟨xy x.hi,xy x.lo,false⟩:=by unfold zk8;rw[Z4 hk]
  rw[hR];rw[hk]at h126;have n1:Fn 139 [] [.agg (dyC x.lo)] (.agg (dyC (xy x.lo))) []:=zyo k.lo;have n2:Fn 139 [] [.agg (dyC x.hi)] (.agg (dyC (xy x.hi))) []:=zyo k.hi;generalize xy x.lo=a at*;generalize xy x.hi=b at*;clear hR k hk h;refine fY6 Tryz.func100 rfl ?_;refine gYn h126 ?_;refine gYn n2 ?_;refine gYn n1 ?_;refine gYd ?_;exact⟨lr rfl,lh0⟩
 .have hR:zk8 x=wI0:=by unfold zk8;rw[Z5 hk]
  rw[hR];rw[show kB x=false by simpa using hk]at h126;clear hR hk h;refine fY6 Tryz.func100 rfl ?_;refine gYn h126 ?_;refine gYn h25 ?_;exact⟨lr rfl,lh0⟩
def zln(x:Iv):Int:=if kB x=true then(if 0<wb x.lo then 1 else if wb x.hi<0 then-1 else 0)else 0
theorem i134(x:Iv)(h:RI x):Fn 138 [] [.agg (ivC x)] (.int .i64 (zln x)) []:=by
 have h126:=zn5 [x] OC (by simpa using h);rw[k1]at h126;by_cases hk:kB x=true
 .have k:=(qh h).1 hk;have hR:zln x=(if 0<wb x.lo then 1 else if wb x.hi<0 then-1 else 0):=by unfold zln;rw[Z4 hk]
  rw[hk]at h126;have n1:=zql k.lo;have n2:=zql k.hi;generalize zln x=R at*;generalize wb x.lo=a at*;generalize wb x.hi=b at*;clear k hk h;refine fY6 Tryz.func138 rfl ?_;refine gYn h126 ?_;refine gYn n1 ?_;refine brI (fun h1=>?_) (fun h1=>?_)
  .have h1:0<a:=Z0 h1;rw[Z4 h1]at hR;subst hR;conv=>whnf
   exact⟨lr rfl,lh0⟩
  have h1:¬0<a:=Z1 h1;rw[Z5 h1]at hR;conv=>whnf
  refine gYn n2 ?_;refine brI (fun h2=>?_) (fun h2=>?_)
  .have h2:b<0:=Z0 h2;rw[Z4 h2]at hR;subst hR;conv=>whnf
   exact⟨lr rfl,lh0⟩
  .have h2:¬b<0:=Z1 h2;rw[Z5 h2]at hR;subst hR;conv=>whnf
   exact⟨lr rfl,lh0⟩
 .have hR:zln x=0:=by unfold zln;rw[Z5 hk]
  rw[hR];rw[show kB x=false by simpa using hk]at h126;clear hR hk h;refine fY6 Tryz.func138 rfl ?_;refine gYn h126 ?_;exact⟨lr rfl,lh0⟩
def vp(d:Dy):Iv:=⟨d,d,false⟩
theorem qbt{d:Dy}(h:VD d):Fn 140 [] [.agg (dyC d)] (.agg (ivC (vp d))) []:=by
 have h80:=v80 h;clear h;refine fY6 Tryz.func140 rfl ?_;refine gYn h80 ?_;exact⟨lr rfl,lh0⟩
def yj(x y:Iv)(p:Int):Iv:=if(kB x&&kB y)=true/\pcB p=true then wm (zbx x.lo y.lo p.toNat false) (zbx x.hi y.hi p.toNat true)else wI0
theorem i82(x y:Iv)(hx:RI x)(hy:RI y)(p:Int):Fn 96 G0 [.agg (ivC x),.agg (ivC y),.int .i64 p] (.agg (ivC (yj x y p))) G0:=by
 have h126:=zn5 [x,y] OC (by simpa using⟨hx,hy⟩);rw[k2]at h126;have h127:=zxy p;have h25:=i25;rw[e25]at h25;by_cases hk:(kB x&&kB y)=true
 .rw[hk]at h126;by_cases hp:pcB p=true
  .rw[hp]at h127;have hR:yj x y p=wm (zbx x.lo y.lo p.toNat false) (zbx x.hi y.hi p.toNat true):=by unfold yj;rw[Z4 ⟨hk,hp⟩]
   rw[hR];rw[q0]at hk;have kx:=(qh hx).1 hk.1;have ky:=(qh hy).1 hk.2;obtain⟨q,rfl,hq⟩:=xm.1 hp;rw[Int.toNat_natCast];have n1:=v128 kx.lo ky.lo q hq;have n2:=v129 kx.hi ky.hi q hq;have h130:=qbu (zbx x.lo y.lo q false) (zbx x.hi y.hi q true);generalize wm (zbx x.lo y.lo q false) (zbx x.hi y.hi q true)=M at*;generalize zbx x.lo y.lo q false=A at*;generalize zbx x.hi y.hi q true=B at*;clear hR hk kx ky hx hy;obtain⟨⟨a1,a2,a3⟩,e⟩:=A;obtain⟨⟨b1,b2,b3⟩,f⟩:=B;refine fY6 Tryz.func96 rfl ?_;refine gYn h126 ?_;refine gYn h127 ?_;refine gYc n1 ?_;refine gYc n2 ?_;refine gYn h130 ?_;exact⟨lr rfl,leG⟩
  .have hR:yj x y p=wI0:=by unfold yj;rw[Z5 fun c=>hp c.2]
   rw[hR];rw[show pcB p=false by simpa using hp]at h127;clear hR hk hx hy;refine fY6 Tryz.func96 rfl ?_;refine gYn h126 ?_;refine gYn h127 ?_;refine gYn h25 ?_;exact⟨lr rfl,leG⟩
 .have hR:yj x y p=wI0:=by unfold yj;rw[Z5 fun c=>hk c.1]
  rw[hR];rw[show(kB x&&kB y)=false by simpa using hk]at h126;clear hR hk hx hy;refine fY6 Tryz.func96 rfl ?_;refine gYn h126 ?_;refine gYn h25 ?_;exact⟨lr rfl,leG⟩
theorem zzx{x:Iv}(h:RI x):RI (zk8 x):=by
 unfold zk8;split
 .rename_i hk;have k:=(qh h).1 hk;have h1:=zdk k.hi;have h2:=zdk k.lo;exact⟨h1.lb,h2.lb,by have:=h1.len;simp only;omega,by have:=h2.len;simp only;omega⟩
 .exact zjd
def qcm(x y:Iv)(p:Int):Iv:=yj x (zk8 y) p
theorem i83(x y:Iv)(hx:RI x)(hy:RI y)(p:Int):Fn 97 G0 [.agg (ivC x),.agg (ivC y),.int .i64 p] (.agg (ivC (qcm x y p))) G0:=by
 have h86:=i86 y hy;have h82:=i82 x (zk8 y) hx (zzx hy) p;unfold qcm;generalize yj x (zk8 y) p=M at*;generalize zk8 y=N at*;clear hx hy;refine fY6 Tryz.func97 rfl ?_;refine gYn h86 ?_;refine gYc h82 ?_;refine gYd ?_;exact⟨lr rfl,leG⟩
