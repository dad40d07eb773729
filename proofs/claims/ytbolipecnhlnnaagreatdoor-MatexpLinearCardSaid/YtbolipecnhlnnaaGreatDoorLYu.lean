/- Rounding: quotients, square roots. -/
import Derived.Test.YtbolipecnhlnnaaGreatDoorLYr
set_option linter.all false
open Bool renaming and_eq_true->q0,not_eq_true'->q8,eq_iff_iff->q9
open Nat renaming div_le_self->q7,sub_le->qA,zero_mul->qB
open Go.IntKind renaming i64->qC,u32->qD,signed->qE,wrap->qF,bits->qG,u64->qH
namespace Go.Proofs.YtbolipecnhlnnaaGreatDoor
open Go Go.Sx
set_option maxRecDepth 100000
set_option maxHeartbeats 8000000
def zan(a b:Dy)(p:Nat):Nat:=p+3+bl (nm b)-bl (nm a)
def uy(a b:Dy)(p:Nat)(up:Bool):Dy×Int:=
 if nm b=0 then(d0,10)else xz (a.neg != b.neg) (nm a*2^zan a b p/nm b) (a.e-zan a b p-b.e) (decide (nm a*2^zan a b p % nm b≠0)) p up
theorem zfs(n:Nat):decide ((bl n:Int)>0)=decide (n≠0):=by
 rw[q9];simp only[Z2];constructor
 .intro h e;subst e;simp[wo]at h
 .intro h;have hb:bl n≠0:=fun e=>h (xv.1 e)
  omega
theorem v121{a b:Dy}(ha:VD a)(hb:VD b)(up:Bool)(p:Nat)(hp:8<=p/\p<=512):Fn 343 G0 [.agg (dyC a),.agg (dyC b),.int .i64 p,.bool up] (dyV (uy a b p up)) G0:=by
 have a1:=ha.bits;have b1:=hb.bits;have a2:=ha.exp;have b2:=hb.exp;have h164:=v164 (p:=p) (l:= [a,b]) hp OC (by simpa using⟨ha,hb⟩);have h165a:=v165 ha;have h165b:=v165 hb;have hz:nm b≠0->nm a=0->uy a b p up=(d0,0):=fun h0 h=>by
  unfold uy zan;rw[Z5 h0,h];have e1:0*2^(p+3+bl (nm b)-bl 0)=0:=qB _;rw[e1,Nat.zero_div,Nat.zero_mod];refine zaq _ _ _ _ ?_;rcases ha.ok with ⟨_,_,h3⟩|⟨h3,_⟩<;>omega
 have hz0:nm b=0->uy a b p up=(d0,10):=fun h=>by unfold uy;rw[Z4 h]
 have hk:bl (nm a*2^zan a b p)<=8192:=by
  by_cases h:nm a=0
  .rw[h,qB];decide
  .rw[zw _ _ h];unfold zan;omega
 have hkb:zan a b p<=8000:=by unfold zan;omega
 have hke:(if qC.wrap (qC.wrap (qC.wrap ((p:Int)+3)+(bl (nm b):Int))-(bl (nm a):Int))>0 then qC.wrap (qC.wrap (qC.wrap ((p:Int)+3)+(bl (nm b):Int))-(bl (nm a):Int))else 0)=((zan a b p:Nat):Int):=by
  rw[wI (x:=(p:Int)+3) O,wI (x:=(p:Int)+3+(bl (nm b):Int)) O,wI O];unfold zan;split<;>omega
 have h167:=qf1 (nm a) (zan a b p) O hk O;have h166:=y166 (nm a*2^zan a b p) (nm b) O O;rw[Z5 O]at h166;have hq:bl (nm a*2^zan a b p/nm b)<=8192:=by have:=kv (q7 (nm a*2^zan a b p) (nm b));omega
 have hr:bl (nm a*2^zan a b p % nm b)<=8192:=by have:=kv (Nat.mod_le (nm a*2^zan a b p) (nm b));omega
 have h169:=v169 (nm a*2^zan a b p % nm b) O;have h168:=v168 (a.neg != b.neg) (nm a*2^zan a b p/nm b) (a.e-zan a b p-b.e) (decide (nm a*2^zan a b p % nm b≠0)) up p O O hp;rw[<-zfs]at h168;have hR:nm b≠0->xz (a.neg != b.neg) (nm a*2^zan a b p/nm b) (a.e-zan a b p-b.e) (decide ((bl (nm a*2^zan a b p % nm b):Int)>0)) p up=uy a b p up:=fun h=>by unfold uy;rw[Z5 h,<-zfs]
 have hw:qC.wrap (qC.wrap (a.e-(zan a b p:Int))-b.e)=a.e-zan a b p-b.e:=by rw[wI (x:=a.e-(zan a b p:Int)) O,wI O]
 have ae:=ha.eq;have be:=hb.eq;generalize uy a b p up=R at*;generalize zan a b p=k at*;generalize nm a=x at*;generalize nm b=y at*;obtain⟨an,am,ax⟩:=a;obtain⟨bn,bm,bx⟩:=b;simp only at ae be a2 b2 h168 hR hw;subst ae be;by_cases hy0:y=0
 .rw[hz0 hy0];subst hy0;rw[jx]at*;refine fZ6 Tryz.func343 rfl rfl ?_;conv=>whnf
  refine gZn h164 ?_;conv=>whnf
  exact⟨zwo,leG⟩
 rw[hR hy0]at h168;rw[Z5 hy0]at h166;by_cases hx0:x=0
 .rw[hz hy0 hx0];subst hx0;rw[jx]at*;refine fZ6 Tryz.func343 rfl rfl ?_;conv=>whnf
  refine gZn h164 ?_;conv=>whnf
  refine brI (fun h6=>?_) (fun h6=>?_)
  .have h6:(((toL y).length :Int)==0)=true:=h6;rw[zeb hy0]at h6;cases h6
  conv=>whnf
  exact⟨zwo,leG⟩
 obtain⟨⟨r1,r2,r3⟩,r4⟩:=R;refine fZ6 Tryz.func343 rfl rfl ?_;conv=>whnf
 refine gZn h164 ?_;conv=>whnf
 refine brI (fun h6=>?_) (fun h6=>?_)
 .have h6:(((toL y).length :Int)==0)=true:=h6;rw[zeb hy0]at h6;cases h6
 conv=>whnf
 refine brI (fun h6=>?_) (fun h6=>?_)
 .have h6:(((toL x).length :Int)==0)=true:=h6;rw[zeb hx0]at h6;cases h6
 conv=>whnf
 refine gZn h165b ?_;conv=>whnf
 refine gZn h165a ?_;conv=>whnf
 (refine⟨Z,Z,?_⟩;(conv=>whnf))
 rw[hke];refine gZn h167 ?_;conv=>whnf
 refine gZn h166 ?_;conv=>whnf
 (refine⟨Z,Z,?_⟩;(conv=>whnf))
 refine gZn h169 ?_;conv=>whnf
 rw[hw];refine gZc h168 ?_;conv=>whnf
 (refine⟨Z,Z,?_⟩;(conv=>whnf))
 exact⟨lr rfl,leG⟩
def jv(a b:Dy)(p:Nat):Int:=if qd a-qd b<=2 then min (min a.e (qd a-p-8)) b.e else min a.e (qd a-p-8)
def zij(a b:Dy)(p:Nat):(Nat×Int×Bool)×Bool:=
 if a.neg=b.neg then((nm a*2^(a.e-jv a b p).toNat +(wk (nm b) b.e false (jv a b p)).1,jv a b p,(wk (nm b) b.e false (jv a b p)).2),false)
 else if nm a*2^(a.e-jv a b p).toNat <upN (wk (nm b) b.e false (jv a b p)) true then((upN (wk (nm b) b.e false (jv a b p)) true-nm a*2^(a.e-jv a b p).toNat,jv a b p,false),true)
 else((nm a*2^(a.e-jv a b p).toNat -upN (wk (nm b) b.e false (jv a b p)) true,jv a b p,(wk (nm b) b.e false (jv a b p)).2),false)
theorem v263(x y:Nat)(hx:bl x<=8190)(hy:bl y<=8190):Fn 320 [] [.sl .u32 (toL x),.sl .u32 (toL y)] (dnV (toL (x+y),0)) []:=by
 have h:=y263 x y O O;have hs:bl (x+y)<=8191:=by
  exact zv1 hx hy
 rw[Z5 O]at h;unfold dnN at h
 rwa [Z5 O]at h
theorem v264(x y:Nat)(hx:bl x<=8192)(hy:bl y<=8192)(h:y<=x):Fn 321 [] [.sl .u32 (toL x),.sl .u32 (toL y)] (dnV (toL (x-y),0)) []:=by
 have h264:=y264 x y O O;have:=kv (qA x y);rw[Z5 O,Z5 O]at h264;unfold dnN at h264
 rwa [Z5 O]at h264
theorem zoc{a b:Dy}{p:Nat}(ha:VD a)(hb:VD b)(h0:nm a≠0)(hle:qd b<=qd a)(hb0:nm b≠0)(hp:8<=p/\p<=512):
 jv a b p<=a.e/\qd a-4200<=jv a b p/\ -40000<=jv a b p/\jv a b p<=16384:=by
 have a1:=ha.bits;have b1:=hb.bits;have a2:=ha.exp;have b2:=hb.exp;have ta:qd a=bl (nm a)+a.e:=by unfold qd;rw[Z5 h0]
 have tb:qd b=bl (nm b)+b.e:=by unfold qd;rw[Z5 hb0]
 unfold jv;split<;>omega
theorem v224{a b:Dy}(ha:VD a)(hb:VD b)(ha0:nm a≠0)(hb0:nm b≠0)(hle:qd b<=qd a)(p:Nat)(hp:8<=p/\p<=512):
 Fn 232 [] [.agg (dyC a),.agg (dyC b),.int .i64 p] (.tup [.agg (xcC (zij a b p).1.1 (zij a b p).1.2.1 (zij a b p).1.2.2),.bool (zij a b p).2]) []:=by
 have a1:=ha.bits;have b1:=hb.bits;have a2:=ha.exp;have b2:=hb.exp;have h176a:=zzx ha;have h176b:=zzx hb;obtain⟨l1,l2,l3,l4⟩:=zoc ha hb ha0 hle hb0 hp;have ta:qd a=bl (nm a)+a.e:=by unfold qd;rw[Z5 ha0]
 have tb:qd b=bl (nm b)+b.e:=by unfold qd;rw[Z5 hb0]
 have xb:bl (nm a*2^(a.e-jv a b p).toNat)<=4200:=by rw[zw _ _ ha0];omega
 have fb:bl (wk (nm b) b.e false (jv a b p)).1<=4200:=by
  unfold wk;split
  .simp only;rw[zw _ _ hb0];omega
  .simp only;have:=kv (q7 (nm b) (2^(jv a b p-b.e).toNat));omega
 have hf1:jv a b p<=b.e->wk (nm b) b.e false (jv a b p)=(nm b*2^(b.e-jv a b p).toNat,false):=fun h=>by unfold wk;rw[Z4 h]
 have hf2:¬jv a b p<=b.e->wk (nm b) b.e false (jv a b p)=(nm b/2^(jv a b p-b.e).toNat,decide (nm b % 2^(jv a b p-b.e).toNat ≠0)):=fun h=>by unfold wk;rw[Z5 h,Bool.false_or]
 have g1:qC.wrap (a.e-jv a b p)=(((a.e-jv a b p).toNat :Nat):Int):=by rw[wI O];omega
 have g2:jv a b p<=b.e->qC.wrap (b.e-jv a b p)=(((b.e-jv a b p).toNat :Nat):Int):=fun h=>by rw[wI O];omega
 have g3:¬jv a b p<=b.e->qC.wrap (jv a b p-b.e)=(((jv a b p-b.e).toNat :Nat):Int):=fun h=>by rw[wI O];omega
 have m1:(if qC.wrap (qC.wrap (qd a-(p:Int))-8)<a.e then qC.wrap (qC.wrap (qd a-(p:Int))-8)else a.e)=min a.e (qd a-p-8):=by
  rw[wI (x:=qd a-(p:Int)) O,wI O];split<;>omega
 have m2:qC.wrap (qd a-qd b)=qd a-qd b:=wI O;have m3:qd a-qd b<=2->(if b.e<min a.e (qd a-p-8)then b.e else min a.e (qd a-p-8))=jv a b p:=fun h=>by unfold jv;rw[Z4 h];split<;>omega
 have m4:¬qd a-qd b<=2->min a.e (qd a-p-8)=jv a b p:=fun h=>by unfold jv;rw[Z5 h]
 have h167a:=qf1 (nm a) (a.e-jv a b p).toNat O O O;unfold zij;generalize jv a b p=low at*;obtain⟨F,hF⟩:∃F,wk (nm b) b.e false low=F:=⟨_,rfl⟩;rw[hF]at fb hf1 hf2⊢;have h167b:low<=b.e->Fn 318 [] [.sl .u32 (toL (nm b)),.int .i64 (qC.wrap (b.e-low))] (.sl .u32 (toL F.1)) []/\F.2=false:=fun h=>by
  have e:=hf1 h;rw[e]at fb⊢;simp only at fb;rw[g2 h];exact⟨qf1 (nm b) _ O O O,rfl⟩
 have h262b:¬low<=b.e->Fn 319 [] [.sl .u32 (toL (nm b)),.int .i64 (qC.wrap (low-b.e))] (.tup [.sl .u32 (toL F.1),.bool F.2]) []:=fun h=>by
  rw[hf2 h];exact v262 (nm b) _ (g3 h) O O
 obtain⟨x,hx⟩:∃x,nm a*2^(a.e-low).toNat =x:=⟨_,rfl⟩;rw[hx]at xb h167a⊢;have ae:=ha.eq;have be:=hb.eq;clear hF hf1 hf2 g2 g3 ha hb hx;generalize qd a=tA at*;generalize qd b=tB at*;generalize nm a=na at*;generalize nm b=nb at*;obtain⟨an,am,ax⟩:=a;obtain⟨bn,bm,bx⟩:=b;simp only at ae be a2 b2 g1 m1 m3 m4 h167a h167b h262b⊢;subst ae be;rw[<-g1]at h167a;have h263:=v263 x F.1 O O;have h1:=v263 F.1 1 O OA;rw[zkl]at h1;have ub:bl (upN F true)<=4300:=by
  unfold upN;split
  .have:=zfr F.1;omega
  .omega
 have hu1:F.2=true->upN F true=F.1+1:=fun h=>by unfold upN;rw[h];rfl
 have hu2:F.2=false->upN F true=F.1:=fun h=>by unfold upN;rw[h];rfl
 have h177:=v177 x (upN F true) O O;have h264a:=v264 x (upN F true) O O;have h264b:=v264 (upN F true) x O O;obtain⟨y,lost⟩:=F;simp only at*;generalize hU:upN (y,lost) true=U at*;refine qy (code:=Tryz.f232.body.getD .skip) hT6 hmx Tryz.func232 rfl rfl (ex:= []) ?_;conv=>whnf
 refine je hT6 hmx 7 (fun _:Unit=>⟨[.any,.any,.int .i64 p,.ptr 3 0,.ptr 4 0,.any,.ptr 6 0,.bool false,.int .i64 low,.sl .u32 (toL x),.sl .u32 (toL y),.bool lost]++jr 97,[(3,.cells [.bool an,.sl .u32 (toL na),.int .i64 ax]),(4,.cells [.bool bn,.sl .u32 (toL nb),.int .i64 bx]),(6,.cells [.nilsl,.int .i64 0,.bool false])]⟩) (fun _=>Z) ?_ (fun _=>?_)
 .conv=>whnf
  refine gZn h176a ?_;conv=>whnf
  (refine⟨Z,Z,?_⟩;(conv=>whnf))
  rw[m1];refine gZn h176a ?_;conv=>whnf
  refine gZn h176b ?_;conv=>whnf
  (refine⟨Z,Z,?_⟩;(conv=>whnf))
  rw[m2];have tail:True:=trivial;refine brI (fun h5=>?_) (fun h5=>?_)
  .have h5:tA-tB<=2:=Z0 h5;conv=>whnf
   rw[m3 h5];refine gZn h167a ?_;conv=>whnf
   refine brI (fun h6=>?_) (fun h6=>?_)
   .have h6:low<=bx:=Z0 h6;obtain⟨hb1,hb2⟩:=h167b h6;subst hb2;conv=>whnf
    refine gZn hb1 ?_;conv=>whnf
    refine⟨(),?_⟩;exact KZ0
   .have h6:¬low<=bx:=Z1 h6;conv=>whnf
    refine gZn (h262b h6) ?_;conv=>whnf
    refine⟨(),?_⟩;exact KZ0
  .have h5:¬tA-tB<=2:=Z1 h5;conv=>whnf
   rw[m4 h5];refine gZn h167a ?_;conv=>whnf
   refine brI (fun h6=>?_) (fun h6=>?_)
   .have h6:low<=bx:=Z0 h6;obtain⟨hb1,hb2⟩:=h167b h6;subst hb2;conv=>whnf
    refine gZn hb1 ?_;conv=>whnf
    refine⟨(),?_⟩;exact KZ0
   .have h6:¬low<=bx:=Z1 h6;conv=>whnf
    refine gZn (h262b h6) ?_;conv=>whnf
    refine⟨(),?_⟩;exact KZ0
 .refine wx hT6 hmx ?_;conv=>whnf
  refine brI (fun h5=>?_) (fun h5=>?_)
  .have h5:an=bn:=by have h5:(an==bn)=true:=h5;rwa [beq_iff_eq]at h5
   rw[Z4 h5];conv=>whnf
   refine gZn h263 ?_;conv=>whnf
   exact⟨lr rfl,lh0⟩
  .have h5:an≠bn:=by have h5:(an==bn)=false:=h5;rwa [beq_eq_false_iff_ne]at h5
   rw[Z5 h5];conv=>whnf
   cases lost with
   |true=>
    have e:=hu1 rfl;rw[<-e]at h1;conv=>whnf
    refine gZn h1 ?_;conv=>whnf
    refine gZn h177 ?_;conv=>whnf
    refine brI (fun h6=>?_) (fun h6=>?_)
    .have h6:yc x U<0:=Z0 h6;have h6:x<U:=by unfold yc at h6;split at h6;assumption;split at h6<;>omega
     rw[Z4 h6];conv=>whnf
     refine gZn (h264b O) ?_;conv=>whnf
     exact⟨lr rfl,lh0⟩
    .have h6:¬yc x U<0:=Z1 h6;have h6:¬x<U:=fun h=>h6 (by unfold yc;rw[Z4 h];decide)
     rw[Z5 h6];conv=>whnf
     refine gZn (h264a O) ?_;conv=>whnf
     exact⟨lr rfl,lh0⟩
   |false=>
    have e:=hu2 rfl;subst e;conv=>whnf
    refine gZn h177 ?_;conv=>whnf
    refine brI (fun h6=>?_) (fun h6=>?_)
    .have h6:yc x U<0:=Z0 h6;have h6:x<U:=by unfold yc at h6;split at h6;assumption;split at h6<;>omega
     rw[Z4 h6];conv=>whnf
     refine gZn (h264b O) ?_;conv=>whnf
     exact⟨lr rfl,lh0⟩
    .have h6:¬yc x U<0:=Z1 h6;have h6:¬x<U:=fun h=>h6 (by unfold yc;rw[Z4 h];decide)
     rw[Z5 h6];conv=>whnf
     refine gZn (h264a O) ?_;conv=>whnf
     exact⟨lr rfl,lh0⟩
theorem qcb{a b:Dy}{p:Nat}(ha:VD a)(hb:VD b)(ha0:nm a≠0)(hb0:nm b≠0)(hle:qd b<=qd a)(hp:8<=p/\p<=512):
 bl (zij a b p).1.1<=8000/\ -100000<=(zij a b p).1.2.1/\(zij a b p).1.2.1<=100000:=by
 have a1:=ha.bits;have b1:=hb.bits;have a2:=ha.exp;have b2:=hb.exp;obtain⟨l1,l2,l3,l4⟩:=zoc ha hb ha0 hle hb0 hp;have ta:qd a=bl (nm a)+a.e:=by unfold qd;rw[Z5 ha0]
 have tb:qd b=bl (nm b)+b.e:=by unfold qd;rw[Z5 hb0]
 have xb:bl (nm a*2^(a.e-jv a b p).toNat)<=4200:=by rw[zw _ _ ha0];omega
 have fb:bl (wk (nm b) b.e false (jv a b p)).1<=4200:=by
  unfold wk;split
  .simp only;rw[zw _ _ hb0];omega
  .simp only;have:=kv (q7 (nm b) (2^(jv a b p-b.e).toNat));omega
 unfold zij;generalize jv a b p=low at*;generalize nm a*2^(a.e-low).toNat =x at*;generalize wk (nm b) b.e false low=F at*;have hu:bl (upN F true)<=4201:=by
  unfold upN;split
  .have:=zfr F.1;omega
  .omega
 split
 .refine⟨?_,OD,OD⟩;simp only;have:bl (x+F.1)<=4201:=zv1 xb fb;omega
 .split
  .refine⟨?_,OD,OD⟩;have:=kv (qA (upN F true) x);simp only;omega
  .refine⟨?_,OD,OD⟩;have:=kv (qA x (upN F true));simp only;omega
def ziq(a b:Dy):Dy:=if qd a<qd b then b else a
def ziy(a b:Dy):Dy:=if qd a<qd b then a else b
def qe2(c d:Dy)(p:Nat)(up:Bool):Dy×Int:=
 if(zij c d p).1.1=0/\(zij c d p).1.2.2=false then(d0,0)else xz (c.neg != (zij c d p).2) (zij c d p).1.1 (zij c d p).1.2.1 (zij c d p).1.2.2 p up
def za7(a b:Dy)(p:Nat)(up:Bool):Dy×Int:=
 if nm a=0 then wp b p up else if nm b=0 then wp a p up else qe2 (ziq a b) (ziy a b) p up
theorem v179{a b:Dy}(ha:VD a)(hb:VD b)(up:Bool)(p:Nat)(hp:8<=p/\p<=512):Fn 158 G0 [.agg (dyC a),.agg (dyC b),.int .i64 p,.bool up] (dyV (za7 a b p up)) G0:=by
 have h164:=v164 (p:=p) (l:= [a,b]) hp OC (by simpa using⟨ha,hb⟩);by_cases ha0:nm a=0
 .have h223:=v223 hb up p hp;have hR:za7 a b p up=wp b p up:=by unfold za7;rw[Z4 ha0]
  rw[hR];generalize wp b p up=R at*;have ae:=ha.eq;rw[ha0]at ae;clear ha hb hR ha0;obtain⟨an,am,ax⟩:=a;obtain⟨bn,bm,bx⟩:=b;obtain⟨⟨r1,r2,r3⟩,r4⟩:=R;simp only at ae;subst ae;refine fZ6 Tryz.func158 rfl rfl ?_;conv=>whnf
  refine gZn h164 ?_;conv=>whnf
  refine gZc h223 ?_;conv=>whnf
  exact⟨lr rfl,leG⟩
 by_cases hb0:nm b=0
 .have h223:=v223 ha up p hp;have hR:za7 a b p up=wp a p up:=by unfold za7;rw[Z5 ha0,Z4 hb0]
  rw[hR];generalize wp a p up=R at*;have ae:=ha.eq;have be:=hb.eq;rw[hb0]at be;clear ha hb hR hb0;generalize nm a=na at*;obtain⟨an,am,ax⟩:=a;obtain⟨bn,bm,bx⟩:=b;obtain⟨⟨r1,r2,r3⟩,r4⟩:=R;simp only at ae be;subst ae be;refine fZ6 Tryz.func158 rfl rfl ?_;conv=>whnf
  refine gZn h164 ?_;conv=>whnf
  refine brI (fun h6=>?_) (fun h6=>?_)
  .have h6:(((toL na).length :Int)==0)=true:=h6;rw[zeb ha0]at h6;cases h6
  conv=>whnf
  refine gZc h223 ?_;conv=>whnf
  exact⟨lr rfl,leG⟩
 have hR:za7 a b p up=qe2 (ziq a b) (ziy a b) p up:=by unfold za7;rw[Z5 ha0,Z5 hb0]
 rw[hR];have h176a:=zzx ha;have h176b:=zzx hb;have hc:VD (ziq a b)/\VD (ziy a b)/\nm (ziq a b)≠0/\nm (ziy a b)≠0/\qd (ziy a b)<=qd (ziq a b):=by
  unfold ziq ziy;split
  .exact⟨hb,ha,hb0,ha0,O⟩
  .exact⟨ha,hb,ha0,hb0,O⟩
 obtain⟨c1,c2,c3,c4,c5⟩:=hc;have h224:=v224 c1 c2 c3 c4 c5 p hp;obtain⟨s1,s2,s3⟩:=qcb c1 c2 c3 c4 c5 hp;have h168:=v168 ((ziq a b).neg != (zij (ziq a b) (ziy a b) p).2) (zij (ziq a b) (ziy a b) p).1.1 (zij (ziq a b) (ziy a b) p).1.2.1 (zij (ziq a b) (ziy a b) p).1.2.2 up p O ⟨s2,s3⟩ hp;have hf1:qd a<qd b->ziq a b=b/\ziy a b=a:=fun h=>by unfold ziq ziy;rw[Z4 h,Z4 h];exact⟨rfl,rfl⟩
 have hf2:¬qd a<qd b->ziq a b=a/\ziy a b=b:=fun h=>by unfold ziq ziy;rw[Z5 h,Z5 h];exact⟨rfl,rfl⟩
 unfold qe2;generalize ziq a b=c at*;generalize ziy a b=d at*;generalize zij c d p=S at*;obtain⟨⟨sm,sl,sx⟩,st⟩:=S;simp only at h224 h168 s1 s2 s3⊢;generalize xz (c.neg != st) sm sl sx p up=R at*;have ae:=ha.eq;have be:=hb.eq;clear ha hb c1 c2 c3 c4 c5 hR;generalize qd a=tA at*;generalize qd b=tB at*;generalize nm a=na at*;generalize nm b=nb at*;obtain⟨an,am,ax⟩:=a;obtain⟨bn,bm,bx⟩:=b;obtain⟨cn,cm,cx⟩:=c;obtain⟨dn,dm,dx⟩:=d;obtain⟨⟨r1,r2,r3⟩,r4⟩:=R;simp only at ae be h168;subst ae be;refine qy (code:=Tryz.f158.body.getD .skip) hT6 hmx Tryz.func158 rfl rfl (ex:= []) ?_;conv=>whnf
 refine je hT6 hmx 4 (fun _:Unit=>⟨[.any,.any,.int .i64 p,.bool up,.ptr 4 0,.ptr 5 0,.any,.any,.ptr 8 0,.int .i64 0,.int .i64 0]++jr 67,[(4,.cells [.bool cn,.sl .u32 cm,.int .i64 cx]),(5,.cells [.bool dn,.sl .u32 dm,.int .i64 dx]),(8,.cells [.bool false,.nilsl,.int .i64 0]),(11,.free),(qa,.gst JT)]⟩) (fun _=>Z) ?_ (fun _=>?_)
 .conv=>whnf
  refine gZn h164 ?_;conv=>whnf
  refine brI (fun h6=>?_) (fun h6=>?_)
  .have h6:(((toL na).length :Int)==0)=true:=h6;rw[zeb ha0]at h6;cases h6
  conv=>whnf
  refine brI (fun h6=>?_) (fun h6=>?_)
  .have h6:(((toL nb).length :Int)==0)=true:=h6;rw[zeb hb0]at h6;cases h6
  conv=>whnf
  refine gZn h176a ?_;conv=>whnf
  refine gZn h176b ?_;conv=>whnf
  (refine⟨Z,Z,?_⟩;(conv=>whnf))
  refine brI (fun h6=>?_) (fun h6=>?_)
  .have h6:tA<tB:=Z0 h6;obtain⟨e1,e2⟩:=hf1 h6;injection e1 with q1 q2 q3
   injection e2 with q4 q5 q6
   subst q1 q2 q3 q4 q5 q6;conv=>whnf
   refine⟨(),?_⟩;exact KZ0
  .have h6:¬tA<tB:=Z1 h6;obtain⟨e1,e2⟩:=hf2 h6;injection e1 with q1 q2 q3
   injection e2 with q4 q5 q6
   subst q1 q2 q3 q4 q5 q6;conv=>whnf
   refine⟨(),?_⟩;exact KZ0
 .refine wx hT6 hmx ?_;conv=>whnf
  refine gZn h224 ?_;conv=>whnf
  refine brI (fun h6=>?_) (fun h6=>?_)
  .have h6:(toL sm).length =0:=by have h6:(((toL sm).length :Int)==0)=true:=h6;rw[beq_iff_eq]at h6;omega
   have h6:=wv.1 h6
   cases sx with
   |false=>
    rw[Z4 ⟨h6,rfl⟩];conv=>whnf
    exact⟨zwo,leG⟩
   |true=>
    rw[Z5 OC];conv=>whnf
    refine gZc h168 ?_;conv=>whnf
    exact⟨lr rfl,leG⟩
  .have h6:sm≠0:=fun e=>by
    subst e;have h6:(((toL 0).length :Int)==0)=false:=h6;simp[jx]at h6
   rw[Z5 (fun c=>h6 c.1)];conv=>whnf
   refine gZc h168 ?_;conv=>whnf
   exact⟨lr rfl,leG⟩
theorem v132{a b:Dy}(ha:VD a)(hb:VD b)(p:Nat)(hp:8<=p/\p<=512):Fn 72 G0 [.agg (dyC a),.agg (dyC b),.int .i64 p] (dyV (ug a b p false)) G0:=by
 have h:=v180 ha hb false p hp;generalize ug a b p false=R at*;clear ha hb;obtain⟨an,am,ax⟩:=a;obtain⟨bn,bm,bx⟩:=b;obtain⟨⟨r1,r2,r3⟩,r4⟩:=R;refine fZ6 Tryz.func72 rfl rfl ?_;conv=>whnf
 refine gZc h ?_;conv=>whnf
 exact⟨lr rfl,leG⟩
theorem v133{a b:Dy}(ha:VD a)(hb:VD b)(p:Nat)(hp:8<=p/\p<=512):Fn 73 G0 [.agg (dyC a),.agg (dyC b),.int .i64 p] (dyV (ug a b p true)) G0:=by
 have h:=v180 ha hb true p hp;generalize ug a b p true=R at*;clear ha hb;obtain⟨an,am,ax⟩:=a;obtain⟨bn,bm,bx⟩:=b;obtain⟨⟨r1,r2,r3⟩,r4⟩:=R;refine fZ6 Tryz.func73 rfl rfl ?_;conv=>whnf
 refine gZc h ?_;conv=>whnf
 exact⟨lr rfl,leG⟩
theorem v76{a b:Dy}(ha:VD a)(hb:VD b)(p:Nat)(hp:8<=p/\p<=512):Fn 265 G0 [.agg (dyC a),.agg (dyC b),.int .i64 p] (dyV (uy a b p false)) G0:=by
 have h:=v121 ha hb false p hp;generalize uy a b p false=R at*;clear ha hb;obtain⟨an,am,ax⟩:=a;obtain⟨bn,bm,bx⟩:=b;obtain⟨⟨r1,r2,r3⟩,r4⟩:=R;refine fZ6 Tryz.func265 rfl rfl ?_;conv=>whnf
 refine gZc h ?_;conv=>whnf
 exact⟨lr rfl,leG⟩
theorem v78{a b:Dy}(ha:VD a)(hb:VD b)(p:Nat)(hp:8<=p/\p<=512):Fn 266 G0 [.agg (dyC a),.agg (dyC b),.int .i64 p] (dyV (uy a b p true)) G0:=by
 have h:=v121 ha hb true p hp;generalize uy a b p true=R at*;clear ha hb;obtain⟨an,am,ax⟩:=a;obtain⟨bn,bm,bx⟩:=b;obtain⟨⟨r1,r2,r3⟩,r4⟩:=R;refine fZ6 Tryz.func266 rfl rfl ?_;conv=>whnf
 refine gZc h ?_;conv=>whnf
 exact⟨lr rfl,leG⟩
theorem v128{a b:Dy}(ha:VD a)(hb:VD b)(p:Nat)(hp:8<=p/\p<=512):Fn 77 G0 [.agg (dyC a),.agg (dyC b),.int .i64 p] (dyV (za7 a b p false)) G0:=by
 have h:=v179 ha hb false p hp;generalize za7 a b p false=R at*;clear ha hb;obtain⟨an,am,ax⟩:=a;obtain⟨bn,bm,bx⟩:=b;obtain⟨⟨r1,r2,r3⟩,r4⟩:=R;refine fZ6 Tryz.func77 rfl rfl ?_;conv=>whnf
 refine gZc h ?_;conv=>whnf
 exact⟨lr rfl,leG⟩
theorem v129{a b:Dy}(ha:VD a)(hb:VD b)(p:Nat)(hp:8<=p/\p<=512):Fn 78 G0 [.agg (dyC a),.agg (dyC b),.int .i64 p] (dyV (za7 a b p true)) G0:=by
 have h:=v179 ha hb true p hp;generalize za7 a b p true=R at*;clear ha hb;obtain⟨an,am,ax⟩:=a;obtain⟨bn,bm,bx⟩:=b;obtain⟨⟨r1,r2,r3⟩,r4⟩:=R;refine fZ6 Tryz.func78 rfl rfl ?_;conv=>whnf
 refine gZc h ?_;conv=>whnf
 exact⟨lr rfl,leG⟩
theorem zzc{x y:Nat}(h:bl x<bl y):x<y:=Nat.not_le.1 fun c=>by have:=kv c;omega
def cmA(a b:Dy):Int:=yc (nm a*2^(a.e-min a.e b.e).toNat) (nm b*2^(b.e-min a.e b.e).toNat)
theorem zki{x y:Nat}(h:x<y):yc x y= -1:=by unfold yc;rw[Z4 h]
theorem zkj{x y:Nat}(h:y<x):yc x y=1:=by unfold yc;rw[Z5 O,Z4 h]
theorem v125{a b:Dy}(ha:VD a)(hb:VD b)(ha0:nm a≠0)(hb0:nm b≠0):Fn 180 [] [.agg (dyC a),.agg (dyC b)] (.int .i64 (cmA a b)) []:=by
 have a1:=ha.bits;have b1:=hb.bits;have a2:=ha.exp;have b2:=hb.exp;have h176a:=zzx ha;have h176b:=zzx hb;have ta:qd a=bl (nm a)+a.e:=by unfold qd;rw[Z5 ha0]
 have tb:qd b=bl (nm b)+b.e:=by unfold qd;rw[Z5 hb0]
 have m1:(if b.e<a.e then b.e else a.e)=min a.e b.e:=by split<;>omega
 have xa:=zw (nm a) (a.e-min a.e b.e).toNat ha0;have xb:=zw (nm b) (b.e-min a.e b.e).toNat hb0;have hlt:qd a<qd b->cmA a b= -1:=fun h=>zki (zzc O)
 have hgt:qd b<qd a->cmA a b=1:=fun h=>zkj (zzc O)
 have g1:qC.wrap (a.e-min a.e b.e)=(((a.e-min a.e b.e).toNat :Nat):Int):=by rw[wI O];omega
 have g2:qC.wrap (b.e-min a.e b.e)=(((b.e-min a.e b.e).toNat :Nat):Int):=by rw[wI O];omega
 have h178a:qd a=qd b->Fn 274 [] [.sl .u32 (toL (nm a)),.int .i64 (qC.wrap (a.e-min a.e b.e))] (.sl .u32 (toL (nm a*2^(a.e-min a.e b.e).toNat))) []:=fun h=>by
  rw[g1];exact v178 _ _ O O O
 have h178b:qd a=qd b->Fn 274 [] [.sl .u32 (toL (nm b)),.int .i64 (qC.wrap (b.e-min a.e b.e))] (.sl .u32 (toL (nm b*2^(b.e-min a.e b.e).toNat))) []:=fun h=>by
  rw[g2];exact v178 _ _ O O O
 have h177:qd a=qd b->Fn 273 [] [.sl .u32 (toL (nm a*2^(a.e-min a.e b.e).toNat)),.sl .u32 (toL (nm b*2^(b.e-min a.e b.e).toNat))] (.int .i64 (cmA a b)) []:=fun h=>v177 _ _ O O
 generalize cmA a b=c at*;generalize nm a*2^(a.e-min a.e b.e).toNat =X at*;generalize nm b*2^(b.e-min a.e b.e).toNat =Y at*;generalize qd a=tA at*;generalize qd b=tB at*;generalize min a.e b.e=t at*;have ae:=ha.eq;have be:=hb.eq;clear ha hb xa xb;generalize nm a=na at*;generalize nm b=nb at*;obtain⟨an,am,ax⟩:=a;obtain⟨bn,bm,bx⟩:=b;simp only at ae be m1 h178a h178b;subst ae be;refine fZ6 Tryz.func180 rfl rfl ?_;conv=>whnf
 refine gZn h176a ?_;conv=>whnf
 refine gZn h176b ?_;conv=>whnf
 (refine⟨Z,Z,?_⟩;(conv=>whnf))
 refine brI (fun h1=>?_) (fun h1=>?_)
 .rw[hlt (Z0 h1)];conv=>whnf
  exact⟨lr rfl,lh0⟩
 have h1:¬tA<tB:=Z1 h1;conv=>whnf
 refine brI (fun h2=>?_) (fun h2=>?_)
 .rw[hgt (Z0 h2)];conv=>whnf
  exact⟨lr rfl,lh0⟩
 have h2:¬tB<tA:=Z1 h2;have he:tA=tB:=O;conv=>whnf
 rw[m1];refine gZn (h178a he) ?_;conv=>whnf
 refine gZn (h178b he) ?_;conv=>whnf
 refine gZn (h177 he) ?_;conv=>whnf
 (refine⟨Z,Z,?_⟩;(conv=>whnf))
 exact⟨lr rfl,lh0⟩
def zxt(x y:Int):Int:=if x<y then-1 else if y<x then 1 else 0
def zi(d:Dy)(t:Int):Int:=if d.neg=true then-((nm d*2^(d.e-t).toNat :Nat):Int)else((nm d*2^(d.e-t).toNat :Nat):Int)
def qh(a b:Dy):Int:=zxt (zi a (min a.e b.e)) (zi b (min a.e b.e))
theorem zr0(d:Dy)(t:Int):jh d=zxt (zi d t) 0:=by
 unfold jh zi zxt;have hp:=Nat.two_pow_pos (d.e-t).toNat;by_cases h:nm d=0
 .rw[Z4 h,h];split<;>simp
 .rw[Z5 h];have:0<nm d*2^(d.e-t).toNat :=Nat.mul_pos (Nat.pos_of_ne_zero h) hp;split<;>split<;>omega
theorem zna{a b:Dy}(h:jh a=jh b)(h0:jh a≠0):qh a b=jh a*cmA a b:=by
 unfold qh cmA;unfold jh at h h0⊢;by_cases ha:nm a=0
 .rw[Z4 ha]at h0;exact absurd rfl h0
 .rw[Z5 ha]at h h0⊢;by_cases hb:nm b=0
  .rw[Z4 hb]at h;exact absurd h h0
  .rw[Z5 hb]at h;unfold zi zxt yc;generalize nm a*2^(a.e-min a.e b.e).toNat =X;generalize nm b*2^(b.e-min a.e b.e).toNat =Y;by_cases hna:a.neg=true<;>by_cases hnb:b.neg=true<;>simp only[hna,hnb,if_true,if_false,Bool.false_eq_true]at h⊢
   .by_cases c1:X<Y
    .rw[Z4 c1,Z5 O,Z4 O];rfl
    .by_cases c2:Y<X
     .rw[Z5 c1,Z4 c2,Z4 O];rfl
     .rw[Z5 c1,Z5 c2,Z5 O,Z5 O];rfl
   .cases h
   .cases h
   .by_cases c1:X<Y
    .rw[Z4 c1,Z4 O];rfl
    .by_cases c2:Y<X
     .rw[Z5 c1,Z4 c2,Z5 O,Z4 O];rfl
     .rw[Z5 c1,Z5 c2,Z5 O,Z5 O];rfl
theorem zqp{a b:Dy}:(jh a<jh b->qh a b= -1)/\(jh b<jh a->qh a b=1)/\(jh a=jh b->jh a=0->qh a b=0):=by
 rw[zr0 a (min a.e b.e),zr0 b (min a.e b.e)];unfold qh;generalize zi a (min a.e b.e)=x;generalize zi b (min a.e b.e)=y;unfold zxt;refine⟨?_,?_,?_⟩
 .intro h;split at h<;>split at h<;>(try split at h)<;>(try split at h)<;>first|(rw[Z4 O])|omega
 .intro h;split at h<;>split at h<;>(try split at h)<;>(try split at h)<;>first|(rw[Z5 O,Z4 O])|omega
 .intro h h0;split at h0<;>(try split at h0)<;>split at h<;>(try split at h)<;>(try split at h)<;>first|(rw[Z5 O,Z5 O])|omega
theorem v81{a b:Dy}(ha:VD a)(hb:VD b):Fn 101 [] [.agg (dyC a),.agg (dyC b)] (.int .i64 (qh a b)) []:=by
 have h80a:=v80 ha;have h80b:=v80 hb;have h124a:=qf2 ha;have h124b:=qf2 hb;obtain⟨s1,s2,s3⟩:=zqp (a:=a) (b:=b);have s4:=zna (a:=a) (b:=b);have h125:jh a=jh b->jh a≠0->Fn 180 [] [.agg (dyC a),.agg (dyC b)] (.int .i64 (cmA a b)) []:=fun h h0=>by
  refine v125 ha hb (fun c=>?_) (fun c=>?_)
  .unfold jh at h0;rw[Z4 c]at h0;exact h0 rfl
  .rw[h]at h0;unfold jh at h0;rw[Z4 c]at h0;exact h0 rfl
 have hb1: -1<=jh a/\jh a<=1:=by unfold jh;split;omega;split<;>omega
 have hb2: -1<=cmA a b/\cmA a b<=1:=by unfold cmA yc;split;omega;split<;>omega
 have hw:qC.wrap (jh a*cmA a b)=jh a*cmA a b:=by
  have:jh a= -1\/jh a=0\/jh a=1:=O;rcases this with h|h|h<;>rw[h]<;>exact wI O
 generalize cmA a b=C at*;generalize qh a b=R at*;generalize jh a=A at*;generalize jh b=B at*;clear ha hb;obtain⟨an,am,ax⟩:=a;obtain⟨bn,bm,bx⟩:=b;refine fZ6 Tryz.func101 rfl rfl ?_;conv=>whnf
 refine gZn h80a ?_;conv=>whnf
 refine gZn h80b ?_;conv=>whnf
 refine gZn h124a ?_;conv=>whnf
 refine gZn h124b ?_;conv=>whnf
 (refine⟨Z,Z,?_⟩;(conv=>whnf))
 refine brI (fun h1=>?_) (fun h1=>?_)
 .rw[s1 (Z0 h1)];conv=>whnf
  exact⟨lr rfl,lh0⟩
 have h1:¬A<B:=Z1 h1;conv=>whnf
 refine brI (fun h2=>?_) (fun h2=>?_)
 .rw[s2 (Z0 h2)];conv=>whnf
  exact⟨lr rfl,lh0⟩
 have h2:¬B<A:=Z1 h2;have he:A=B:=O;conv=>whnf
 refine brI (fun h3=>?_) (fun h3=>?_)
 .have h3:A=0:=by simpa using h3
  rw[s3 he h3];conv=>whnf
  exact⟨lr rfl,lh0⟩
 have h3:A≠0:=by simpa using h3
 conv=>whnf
 refine gZn (h125 he h3) ?_;conv=>whnf
 exact⟨ai0 (by rw[hw,s4 he h3]),lh0⟩
def qg(d:Dy)(k:Int):Dy×Int:=if exB k=false then(d0,1)else ckN d.neg (nm d) (d.e+k)
theorem v230{d:Dy}(hd:VD d)(k:Int):Fn 207 G0 [.agg (dyC d),.int .i64 k] (dyV (qg d k)) G0:=by
 have h80:=v80 hd;have h268:=y268 k;have a1:=hd.bits;have a2:=hd.exp;have hlen:=hd.len;have hlb:=hd.lb;by_cases hk:exB k=false
 .have hR:qg d k=(d0,1):=by unfold qg;rw[Z4 hk]
  rw[hR];rw[hk]at h268;obtain⟨an,am,ax⟩:=d;have h80:Fn 100 [] [.agg [.bool an,.sl .u32 am,.int .i64 ax]] (.bool true) []:=h80;show Fn 207 G0 [.agg [.bool an,.sl .u32 am,.int .i64 ax],.int .i64 k] _ G0;refine fZ6 Tryz.func207 rfl rfl ?_;conv=>whnf
  refine gZn h80 ?_;conv=>whnf
  refine gZn h268 ?_;conv=>whnf
  exact⟨zwo,leG⟩
 .have hR:qg d k=ckN d.neg (nm d) (d.e+k):=by unfold qg;rw[Z5 hk]
  rw[hR];have hk:exB k=true:=by simpa using hk
  rw[hk]at h268;unfold exB at hk;simp only[q0,Z2]at hk;have h122:=v122 d.neg d.m (d.e+k) hlb O (O:bl (nm d)<=8192) O;have h122:Fn 159 G0 [.bool d.neg,.sl .u32 d.m,.int .i64 (d.e+k)] (.agg (dyC (cnN d.neg (nm d) (d.e+k)))) G0:=h122;have hc:=y269 (cnN d.neg (nm d) (d.e+k)) (by unfold cnN;split;exact qf.lb;exact zo _) (by
   unfold cnN;split
   .simp[d0]
   .have:=kv (q7 (nm d) (2^tz (nm d)));have:=(qm (nm d/2^tz (nm d)) 1000000).2 O;exact this)
  rw[zvt]at hc;have hw:qC.wrap (d.e+k)=d.e+k:=wI O;generalize ckN d.neg (nm d) (d.e+k)=R at*;generalize cnN d.neg (nm d) (d.e+k)=C at*;clear hR hd;obtain⟨an,am,ax⟩:=d;obtain⟨⟨r1,r2,r3⟩,r4⟩:=R;obtain⟨c1,c2,c3⟩:=C;simp only at h122 hw;have h80:Fn 100 [] [.agg [.bool an,.sl .u32 am,.int .i64 ax]] (.bool true) []:=h80;have hc:Fn 297 [] [.agg [.bool c1,.sl .u32 c2,.int .i64 c3]] (dyV (⟨r1,r2,r3⟩,r4)) []:=hc;show Fn 207 G0 [.agg [.bool an,.sl .u32 am,.int .i64 ax],.int .i64 k] _ G0;refine fZ6 Tryz.func207 rfl rfl ?_;conv=>whnf
  refine gZn h80 ?_;conv=>whnf
  refine gZn h268 ?_;conv=>whnf
  rw[hw];refine gZc h122 ?_;conv=>whnf
  refine gZn hc ?_;conv=>whnf
  exact⟨lr rfl,leG⟩
def zcb(n:Int):Dy:=cnN (decide (n<0)) n.natAbs 0
theorem v77(n:Int)(h: -4611686018427387904<=n/\n<=4611686018427387904):Fn 83 G0 [.int .i64 n] (.agg (dyC (zcb n))) G0:=by
 have key:∀X:Int,X=n.natAbs->Fn 159 G0 [.bool (decide (n<0)),.sl .u32 [qD.wrap X,qD.wrap (X.fdiv 4294967296)],.int .i64 0] (.agg (dyC (zcb n))) G0:=by
  intro X hX;have e1:qD.wrap X=X % 4294967296:=by simp[qF,qE,qG]
  have e2:qD.wrap (X.fdiv 4294967296)=X/4294967296:=by
   rw[Int.fdiv_eq_ediv_of_nonneg _ OA,zrw O]
  rw[e1,e2];have hv:val [X % 4294967296,X/4294967296]=n.natAbs:=by
   rw[qt,qt];show(X % 4294967296).toNat +4294967296*((X/4294967296).toNat +4294967296*0)=n.natAbs;omega
  have h1:=v122 (decide (n<0)) [X % 4294967296,X/4294967296] 0 (fun z hz=>by
   simp only[List.mem_cons,List.not_mem_nil,or_false]at hz;rcases hz with rfl|rfl<;>omega) OC (by rw[hv];exact Nat.le_trans (ur.2 (O:n.natAbs<2^64)) OA) OA
  rw[hv]at h1;exact h1
 generalize zcb n=R at*;refine fZ6 Tryz.func83 rfl rfl ?_;conv=>whnf
 refine brI (fun h1=>?_) (fun h1=>?_)
 .have h1':n<0:=Z0 h1;have e:qH.wrap (0-qH.wrap n)=n.natAbs:=by
   simp[qF,qE,qG];omega
  conv=>whnf
  refine⟨OA,?_⟩;conv=>whnf
  refine gZc (key _ e) ?_;conv=>whnf
  exact⟨lr rfl,leG⟩
 .have h1':¬n<0:=Z1 h1;have e:qH.wrap n=n.natAbs:=by
   simp[qF,qE,qG];omega
  conv=>whnf
  refine⟨OA,?_⟩;conv=>whnf
  refine gZc (key _ e) ?_;conv=>whnf
  exact⟨lr rfl,leG⟩
structure RI(x:Iv):Prop where
 lo:LB x.lo.m
 hi:LB x.hi.m
 l1:x.lo.m.length<9223372036854775808
 l2:x.hi.m.length<9223372036854775808
def zrB(d:Dy):Bool:= !d.neg&&decide (d.m.length=0)&&decide (d.e=0)
def viB(x:Iv):Bool:=if x.all=true then zrB x.lo&&zrB x.hi else vB x.lo&&vB x.hi&&decide (qh x.lo x.hi<=0)
def kB(x:Iv):Bool:= !x.all&&viB x
structure KI(x:Iv):Prop where
 all:x.all=false
 lo:VD x.lo
 hi:VD x.hi
 le:qh x.lo x.hi<=0
def wI0:Iv:=⟨d0,d0,true⟩
def VI(x:Iv):Prop:=KI x\/x=wI0
theorem qbx{d:Dy}:zrB d=true<->d=d0:=by
 obtain⟨a,b,c⟩:=d;unfold zrB d0;simp only[q0,q8,Z2,List.length_eq_zero_iff,Dy.mk.injEq];constructor
 .rintro⟨⟨h1,h2⟩,h3⟩;exact⟨h1,h2,h3⟩
 .rintro⟨h1,h2,h3⟩;exact⟨⟨h1,h2⟩,h3⟩
theorem qb{x:Iv}(h:RI x):kB x=true<->KI x:=by
 unfold kB viB;constructor
 .intro e;simp only[q0,q8]at e;obtain⟨e1,e2⟩:=e;rw[Z5 (by rw[e1];simp)]at e2;simp only[q0,Z2]at e2;exact⟨e1,(jt h.lo).1 e2.1.1,(jt h.hi).1 e2.1.2,e2.2⟩
 .intro k;rw[k.all,Z5 OC,(jt h.lo).2 k.lo,(jt h.hi).2 k.hi,Z6 k.le];rfl
theorem wu{x:Iv}(h:RI x):viB x=true<->VI x:=by
 by_cases ha:x.all=true
 .unfold viB VI;rw[Z4 ha];simp only[q0,qbx];constructor
  .rintro⟨h1,h2⟩;obtain⟨lo,hi,al⟩:=x;simp only at h1 h2 ha;subst h1 h2 ha;exact .inr rfl
  .rintro(k|rfl)
   .rw[k.all]at ha;cases ha
   .exact⟨rfl,rfl⟩
 .have e:viB x=kB x:=by unfold kB;rw[show x.all=false by simpa using ha];rfl
  rw[e,qb h];unfold VI;constructor
  .exact .inl
  .rintro(k|rfl)
   .exact k
   .exact absurd rfl ha
theorem KI.ri{x:Iv}(k:KI x):RI x:=⟨k.lo.lb,k.hi.lb,by have:=k.lo.len;omega,by have:=k.hi.len;omega⟩
theorem zzu:RI wI0:=⟨qf.lb,qf.lb,OA,OA⟩
theorem VI.ri{x:Iv}(k:VI x):RI x:=by
 rcases k with k|rfl
 .exact k.ri
 .exact zzu
theorem i79(d:Dy):Fn 99 [] [.agg (dyC d)] (.bool (zrB d)) []:=by
 obtain⟨R,hR⟩:∃R,zrB d=R:=⟨_,rfl⟩;rw[hR];unfold zrB at hR;obtain⟨d1,d2,d3⟩:=d;simp only at hR;show Fn 99 [] [.agg [.bool d1,.sl .u32 d2,.int .i64 d3]] _ [];refine fZ6 Tryz.func99 rfl rfl ?_;conv=>whnf
 cases d1 with
 |true=>
  conv=>whnf
  exact⟨ab0 hR,lh0⟩
 |false=>
  conv=>whnf
  refine brI (fun h1=>?_) (fun h1=>?_)
  .have h2:d2.length=0:=by have h1:((d2.length:Int)==0)=true:=h1;rw[beq_iff_eq]at h1;omega
   rw[Z6 h2]at hR;conv=>whnf
   exact⟨ab0 (by rw[<-hR];simp;rw[q9];simp),lh0⟩
  .have h2:¬d2.length=0:=by have h1:((d2.length:Int)==0)=false:=h1;rw[beq_eq_false_iff_ne]at h1;omega
   rw[Z7 h2]at hR;conv=>whnf
   exact⟨ab0 (by rw[<-hR];simp),lh0⟩
theorem i51(x:Iv)(h:RI x):Fn 35 [] [.agg (ivC x)] (.bool (viB x)) []:=by
 have hlo:=y80 x.lo h.lo h.l1;have hhi:=y80 x.hi h.hi h.l2;have zlo:=i79 x.lo;have zhi:=i79 x.hi;have hc:vB x.lo=true->vB x.hi=true->Fn 101 [] [.agg (dyC x.lo),.agg (dyC x.hi)] (.int .i64 (qh x.lo x.hi)) []:=fun h1 h2=>v81 ((jt h.lo).1 h1) ((jt h.hi).1 h2)
 obtain⟨R,hR⟩:∃R,viB x=R:=⟨_,rfl⟩;rw[hR];unfold viB at hR;generalize vB x.lo=a at*;generalize vB x.hi=b at*;generalize zrB x.lo=c at*;generalize zrB x.hi=d at*;generalize qh x.lo x.hi=C at*;clear h;obtain⟨⟨x1,x2,x3⟩,⟨x4,x5,x6⟩,x7⟩:=x;simp only at hR;have hlo:Fn 100 [] [.agg [.bool x1,.sl .u32 x2,.int .i64 x3]] (.bool a) []:=hlo;have hhi:Fn 100 [] [.agg [.bool x4,.sl .u32 x5,.int .i64 x6]] (.bool b) []:=hhi;have zlo:Fn 99 [] [.agg [.bool x1,.sl .u32 x2,.int .i64 x3]] (.bool c) []:=zlo;have zhi:Fn 99 [] [.agg [.bool x4,.sl .u32 x5,.int .i64 x6]] (.bool d) []:=zhi;have hc:a=true->b=true->Fn 101 [] [.agg [.bool x1,.sl .u32 x2,.int .i64 x3],.agg [.bool x4,.sl .u32 x5,.int .i64 x6]] (.int .i64 C) []:=hc;show Fn 35 [] [.agg [.bool x1,.sl .u32 x2,.int .i64 x3,.bool x4,.sl .u32 x5,.int .i64 x6,.bool x7]] _ [];refine fZ6 Tryz.func35 rfl rfl ?_;conv=>whnf
 cases x7 with
 |true=>
  rw[Z4 rfl]at hR
  cases c with
  |false=>
   conv=>whnf
   refine gZn zlo ?_;conv=>whnf
   exact⟨ab0 hR,lh0⟩
  |true=>
   conv=>whnf
   refine gZn zlo ?_;conv=>whnf
   refine gZn zhi ?_;conv=>whnf
   exact⟨ab0 (by rw[<-hR,Bool.true_and]),lh0⟩
 |false=>
  rw[Z5 OC]at hR
  cases a with
  |false=>
   conv=>whnf
   refine gZn hlo ?_;conv=>whnf
   exact⟨ab0 (by rw[<-hR];rfl),lh0⟩
  |true=>
   cases b with
   |false=>
    conv=>whnf
    refine gZn hlo ?_;conv=>whnf
    refine gZn hhi ?_;conv=>whnf
    exact⟨ab0 (by rw[<-hR];rfl),lh0⟩
   |true=>
    conv=>whnf
    refine gZn hlo ?_;conv=>whnf
    refine gZn hhi ?_;conv=>whnf
    refine gZn (hc rfl rfl) ?_;conv=>whnf
    exact⟨ab0 (by rw[<-hR];rfl),lh0⟩
theorem zyp(l:List Iv)(hl:l.length<=1000000)(h:∀x∈l,RI x):Fn 69 [] [.sl .iv l] (.bool (l.all kB)) []:=by
 obtain⟨A,hA⟩:∃A,l.all kB=A:=⟨_,rfl⟩;rw[hA];refine fZ6 Tryz.func69 rfl rfl ?_;conv=>whnf
 refine⟨Nat,fun i=>i<=l.length/\(l.drop i).all kB=A,fun i=> [(7,.int .i64 i)],fun _=> [],fun i=>l.length-i,0,⟨OC,by simpa using hA⟩,?_,fun i hi=>?_⟩
 .exact KZ0
 (refine⟨Z,?_⟩;(conv=>whnf))
 obtain⟨hi1,hi2⟩:=hi;refine brI (fun h1=>?_) (fun h1=>?_)
 .conv=>whnf
  have hi:i<l.length:=by simp only[Z2]at h1;omega
  refine⟨⟨O,O⟩,fun(x:Iv)hx=>?_⟩;have hx:l[i]? =some x:=by simpa using hx
  have hr:=h x (List.mem_of_getElem? hx);have h51:=i51 x hr;rw[zu hx,List.all_cons]at hi2;have hk:kB x=(!x.all&&viB x):=rfl;generalize kB x=K at*;generalize viB x=V at*;clear hr;obtain⟨⟨x1,x2,x3⟩,⟨x4,x5,x6⟩,x7⟩:=x;have h51:Fn 35 [] [.agg [.bool x1,.sl .u32 x2,.int .i64 x3,.bool x4,.sl .u32 x5,.int .i64 x6,.bool x7]] (.bool V) []:=h51;simp only at hk;conv=>whnf
  cases x7 with
  |true=>
   rw[hk]at hi2;subst hi2;conv=>whnf
   exact⟨lr rfl,lh0⟩
  |false=>
   cases V with
   |false=>
    rw[hk]at hi2;subst hi2;conv=>whnf
    refine gZn h51 ?_;conv=>whnf
    exact⟨lr rfl,lh0⟩
   |true=>
    rw[hk]at hi2;conv=>whnf
    refine gZn h51 ?_;conv=>whnf
    refine⟨i+1,⟨O,by simpa using hi2⟩,by show l.length-(i+1)<l.length-i;omega,?_⟩;exact KZ0
 .have hi:¬i<l.length:=by simp only[Z3]at h1;omega
  rw[List.drop_of_length_le O]at hi2;conv=>whnf
  exact⟨ab0 hi2,lh0⟩
theorem i127(p:Int):Fn 70 [] [.int .i64 p] (.bool (pcB p)) []:=by
 refine fZ6 Tryz.func70 rfl rfl ?_;conv=>whnf
 refine brI (fun h1=>?_) (fun h1=>?_)
 .have h1:8<=p:=by simpa using h1
  conv=>whnf
  exact⟨ab0 (by simp[pcB,h1]),lh0⟩
 .have h1:¬8<=p:=by simpa using h1
  conv=>whnf
  exact⟨ab0 (by simp[pcB,h1]),lh0⟩
theorem leW{h h':Hp}:leA h h' (.agg [.bool false,.nilsl,.int .i64 0,.bool false,.nilsl,.int .i64 0,.bool true]) (.agg (ivC wI0)):=
 lg0 (lc (lr rfl) (lc (li0 rfl) (lc (lr rfl) (lc (lr rfl) (lc (li0 rfl) (lc (lr rfl) (lc (lr rfl) ln0)))))))
theorem i25:Fn 66 [] [] (.agg (ivC wI0)) []:=by
 refine fZ6 Tryz.func66 rfl rfl ?_;conv=>whnf
 exact⟨leW,lh0⟩
def jc(a b:Dy×Int):Iv:=if a.2≠0\/b.2≠0 then wI0 else⟨a.1,b.1,false⟩
theorem i130(a b:Dy×Int):Fn 79 [] [.agg (dyC a.1),.int .i64 a.2,.agg (dyC b.1),.int .i64 b.2] (.agg (ivC (jc a b))) []:=by
 obtain⟨R,hR⟩:∃R,jc a b=R:=⟨_,rfl⟩;rw[hR];unfold jc at hR;have h25:=i25;have e25:ivC wI0= [.bool false,.sl .u32 [],.int .i64 0,.bool false,.sl .u32 [],.int .i64 0,.bool true]:=rfl;rw[e25]at h25;obtain⟨⟨a1,a2,a3⟩,e⟩:=a;obtain⟨⟨b1,b2,b3⟩,f⟩:=b;simp only at hR;refine fZ6 Tryz.func79 rfl rfl ?_;conv=>whnf
 refine brI (fun h1=>?_) (fun h1=>?_)
 .have h1:e≠0:=by simpa using h1
  rw[Z4 (.inl h1)]at hR;subst hR;conv=>whnf
  refine gZn h25 ?_;conv=>whnf
  exact⟨lr rfl,lh0⟩
 have h1:e=0:=by simpa using h1
 conv=>whnf
 refine brI (fun h2=>?_) (fun h2=>?_)
 .have h2:f≠0:=by simpa using h2
  rw[Z4 (.inr h2)]at hR;subst hR;conv=>whnf
  refine gZn h25 ?_;conv=>whnf
  exact⟨lr rfl,lh0⟩
 have h2:f=0:=by simpa using h2
 rw[Z5 (by simp[h1,h2])]at hR;subst hR;conv=>whnf
 exact⟨lr rfl,lh0⟩
theorem ze1{d:Dy}(h:VD d):VD (jm d):=by
 unfold jm;split
 .exact qf
 .rename_i h0;refine⟨h.eq,.inr ?_⟩;rcases h.ok with ⟨h1,_⟩|h1
  .exact absurd h1 h0
  .exact h1
theorem zqy{d:Dy}(h:VD d):VD (zge d):=by
 refine⟨h.eq,?_⟩;rcases h.ok with ⟨h1,h2,h3⟩|h1
 .exact .inl ⟨h1,rfl,h3⟩
 .exact .inr h1
theorem zjw(neg:Bool)(m:Nat)(e:Int)(more up:Bool)(p:Nat)(hp:8<=p/\p<=512):VD (xz neg m e more p up).1:=by
 have h:=zvo m e more (up != neg) p hp;unfold xz;split
 .exact ze1 h
 .exact h
theorem zc3(d:Dy)(up:Bool)(p:Nat)(hp:8<=p/\p<=512):VD (wp d p up).1:=zjw _ _ _ _ _ _ hp
theorem zcj(a b:Dy)(up:Bool)(p:Nat)(hp:8<=p/\p<=512):VD (ug a b p up).1:=zjw _ _ _ _ _ _ hp
theorem zbq(a b:Dy)(up:Bool)(p:Nat)(hp:8<=p/\p<=512):VD (uy a b p up).1:=by
 unfold uy;split
 .exact qf
 .exact zjw _ _ _ _ _ _ hp
theorem zdb(a b:Dy)(up:Bool)(p:Nat)(hp:8<=p/\p<=512):VD (za7 a b p up).1:=by
 unfold za7;split
 .exact zc3 _ _ _ hp
 .split
  .exact zc3 _ _ _ hp
  .unfold qe2;split
   .exact qf
   .exact zjw _ _ _ _ _ _ hp
theorem VD_ck(neg:Bool)(n:Nat)(e:Int):VD (ckN neg n e).1:=by
 unfold ckN;split
 .rename_i h;exact zie h
 .exact qf
theorem zqw(d:Dy)(k:Int):VD (qg d k).1:=by
 unfold qg;split
 .exact qf
 .exact VD_ck _ _ _
theorem yu{p:Int}:pcB p=true<->∃q:Nat,p=q/\8<=q/\q<=512:=by
 unfold pcB;simp only[q0,Z2];constructor
 .intro h;exact⟨p.toNat,O,O,O⟩
 .rintro⟨q,rfl,h⟩;omega
theorem e25:ivC wI0= [.bool false,.sl .u32 [],.int .i64 0,.bool false,.sl .u32 [],.int .i64 0,.bool true]:=rfl
theorem k1(x:Iv): [x].all kB=kB x:=OC
theorem k2(x y:Iv): [x,y].all kB=(kB x&&kB y):=OC
def ze6(x:Iv):Iv:=if kB x=true then⟨jm x.hi,jm x.lo,false⟩else wI0
theorem i86(x:Iv)(h:RI x):Fn 26 [] [.agg (ivC x)] (.agg (ivC (ze6 x))) []:=by
 have h126:=zyp [x] OC (by simpa using h);rw[k1]at h126;have h25:=i25;rw[e25]at h25;by_cases hk:kB x=true
 .have k:=(qb h).1 hk;have hR:ze6 x=⟨jm x.hi,jm x.lo,false⟩:=by unfold ze6;rw[Z4 hk]
  rw[hR];rw[hk]at h126;have n1:Fn 85 [] [.agg (dyC x.lo)] (.agg (dyC (jm x.lo))) []:=v135 k.lo;have n2:Fn 85 [] [.agg (dyC x.hi)] (.agg (dyC (jm x.hi))) []:=v135 k.hi;generalize jm x.lo=a at*;generalize jm x.hi=b at*;clear hR k hk h;refine fZ6 Tryz.func26 rfl rfl ?_;conv=>whnf
  refine gZn h126 ?_;conv=>whnf
  refine gZn n2 ?_;conv=>whnf
  refine gZn n1 ?_;conv=>whnf
  (refine⟨Z,Z,?_⟩;(conv=>whnf))
  exact⟨lr rfl,lh0⟩
 .have hR:ze6 x=wI0:=by unfold ze6;rw[Z5 hk]
  rw[hR];rw[show kB x=false by simpa using hk]at h126;clear hR hk h;refine fZ6 Tryz.func26 rfl rfl ?_;conv=>whnf
  refine gZn h126 ?_;conv=>whnf
  refine gZn h25 ?_;conv=>whnf
  exact⟨lr rfl,lh0⟩
def zig(x:Iv):Int:=if kB x=true then(if 0<jh x.lo then 1 else if jh x.hi<0 then-1 else 0)else 0
theorem i134(x:Iv)(h:RI x):Fn 298 [] [.agg (ivC x)] (.int .i64 (zig x)) []:=by
 have h126:=zyp [x] OC (by simpa using h);rw[k1]at h126;by_cases hk:kB x=true
 .have k:=(qb h).1 hk;have hR:zig x=(if 0<jh x.lo then 1 else if jh x.hi<0 then-1 else 0):=by unfold zig;rw[Z4 hk]
  rw[hk]at h126;have n1:=qf2 k.lo;have n2:=qf2 k.hi;generalize zig x=R at*;generalize jh x.lo=a at*;generalize jh x.hi=b at*;clear k hk h;refine fZ6 Tryz.func298 rfl rfl ?_;conv=>whnf
  refine gZn h126 ?_;conv=>whnf
  refine gZn n1 ?_;conv=>whnf
  refine brI (fun h1=>?_) (fun h1=>?_)
  .have h1:0<a:=Z0 h1;rw[Z4 h1]at hR;subst hR;conv=>whnf
   exact⟨lr rfl,lh0⟩
  have h1:¬0<a:=Z1 h1;rw[Z5 h1]at hR;conv=>whnf
  refine gZn n2 ?_;conv=>whnf
  refine brI (fun h2=>?_) (fun h2=>?_)
  .have h2:b<0:=Z0 h2;rw[Z4 h2]at hR;subst hR;conv=>whnf
   exact⟨lr rfl,lh0⟩
  .have h2:¬b<0:=Z1 h2;rw[Z5 h2]at hR;subst hR;conv=>whnf
   exact⟨lr rfl,lh0⟩
 .have hR:zig x=0:=by unfold zig;rw[Z5 hk]
  rw[hR];rw[show kB x=false by simpa using hk]at h126;clear hR hk h;refine fZ6 Tryz.func298 rfl rfl ?_;conv=>whnf
  refine gZn h126 ?_;conv=>whnf
  exact⟨lr rfl,lh0⟩
def zx(d:Dy):Iv:=⟨d,d,false⟩
theorem i136{d:Dy}(h:VD d):Fn 82 [] [.agg (dyC d)] (.agg (ivC (zx d))) []:=by
 have h80:=v80 h;clear h;refine fZ6 Tryz.func82 rfl rfl ?_;conv=>whnf
 refine gZn h80 ?_;conv=>whnf
 exact⟨lr rfl,lh0⟩
def yp(x y:Iv)(p:Int):Iv:=if(kB x&&kB y)=true/\pcB p=true then jc (za7 x.lo y.lo p.toNat false) (za7 x.hi y.hi p.toNat true)else wI0
theorem i82(x y:Iv)(hx:RI x)(hy:RI y)(p:Int):Fn 23 G0 [.agg (ivC x),.agg (ivC y),.int .i64 p] (.agg (ivC (yp x y p))) G0:=by
 have h126:=zyp [x,y] OC (by simpa using⟨hx,hy⟩);rw[k2]at h126;have h127:=i127 p;have h25:=i25;rw[e25]at h25;by_cases hk:(kB x&&kB y)=true
 .rw[hk]at h126;by_cases hp:pcB p=true
  .rw[hp]at h127;have hR:yp x y p=jc (za7 x.lo y.lo p.toNat false) (za7 x.hi y.hi p.toNat true):=by unfold yp;rw[Z4 ⟨hk,hp⟩]
   rw[hR];rw[q0]at hk;have kx:=(qb hx).1 hk.1;have ky:=(qb hy).1 hk.2;obtain⟨q,rfl,hq⟩:=yu.1 hp;rw[Int.toNat_natCast];have n1:=v128 kx.lo ky.lo q hq;have n2:=v129 kx.hi ky.hi q hq;have h130:=i130 (za7 x.lo y.lo q false) (za7 x.hi y.hi q true);generalize jc (za7 x.lo y.lo q false) (za7 x.hi y.hi q true)=M at*;generalize za7 x.lo y.lo q false=A at*;generalize za7 x.hi y.hi q true=B at*;clear hR hk kx ky hx hy;obtain⟨⟨a1,a2,a3⟩,e⟩:=A;obtain⟨⟨b1,b2,b3⟩,f⟩:=B;refine fZ6 Tryz.func23 rfl rfl ?_;conv=>whnf
   refine gZn h126 ?_;conv=>whnf
   refine gZn h127 ?_;conv=>whnf
   refine gZc n1 ?_;conv=>whnf
   refine gZc n2 ?_;conv=>whnf
   refine gZn h130 ?_;conv=>whnf
   exact⟨lr rfl,leG⟩
  .have hR:yp x y p=wI0:=by unfold yp;rw[Z5 fun c=>hp c.2]
   rw[hR];rw[show pcB p=false by simpa using hp]at h127;clear hR hk hx hy;refine fZ6 Tryz.func23 rfl rfl ?_;conv=>whnf
   refine gZn h126 ?_;conv=>whnf
   refine gZn h127 ?_;conv=>whnf
   refine gZn h25 ?_;conv=>whnf
   exact⟨lr rfl,leG⟩
 .have hR:yp x y p=wI0:=by unfold yp;rw[Z5 fun c=>hk c.1]
  rw[hR];rw[show(kB x&&kB y)=false by simpa using hk]at h126;clear hR hk hx hy;refine fZ6 Tryz.func23 rfl rfl ?_;conv=>whnf
  refine gZn h126 ?_;conv=>whnf
  refine gZn h25 ?_;conv=>whnf
  exact⟨lr rfl,leG⟩
