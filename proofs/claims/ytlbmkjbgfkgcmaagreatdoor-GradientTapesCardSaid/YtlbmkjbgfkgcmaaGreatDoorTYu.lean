/- Rounding: quotients, square roots. -/
import Derived.Test.YtlbmkjbgfkgcmaaGreatDoorTYr
set_option linter.all false
open Bool renaming and_eq_true->q0,not_eq_true'->qC,eq_iff_iff->qD
open Nat renaming div_le_self->qA,zero_mul->qB,sub_le->qE,le_trans->qF
open Go.IntKind renaming i64->qG,u32->qH,signed->qI,wrap->qJ,bits->qK,u64->qL
namespace Go.Proofs.YtlbmkjbgfkgcmaaGreatDoor
open Go Go.Sx
set_option maxRecDepth 100000
set_option maxHeartbeats 8000000
def zaf(a b:Dy)(p:Nat):Nat:=p+3+bl (nm b)-bl (nm a)
def zbv(a b:Dy)(p:Nat)(up:Bool):Dy×Int:=
 if nm b=0 then(d0,10)else xi (a.neg != b.neg) (nm a*2^zaf a b p/nm b) (a.e-zaf a b p-b.e) (decide (nm a*2^zaf a b p % nm b≠0)) p up
theorem ze7(n:Nat):decide ((bl n:Int)>0)=decide (n≠0):=by
 rw[qD];simp only[Z4];constructor
 .intro h e;subst e;simp[qx]at h
 .intro h;have hb:bl n≠0:=fun e=>h (kj.1 e)
  omega
theorem v121{a b:Dy}(ha:VD a)(hb:VD b)(up:Bool)(p:Nat)(hp:8<=p/\p<=512):Fn 179 G0 [.agg (dyC a),.agg (dyC b),.int .i64 p,.bool up] (dyV (zbv a b p up)) G0:=by
 have a1:=ha.bits;have b1:=hb.bits;have a2:=ha.exp;have b2:=hb.exp;have h164:=qdi (p:=p) (l:= [a,b]) hp OC (by simpa using⟨ha,hb⟩);have h165a:=v165 ha;have h165b:=v165 hb;have hz:nm b≠0->nm a=0->zbv a b p up=(d0,0):=fun h0 h=>by
  unfold zbv zaf;rw[Z7 h0,h];have e1:0*2^(p+3+bl (nm b)-bl 0)=0:=qB _;rw[e1,Nat.zero_div,Nat.zero_mod];refine zah _ _ _ _ ?_;rcases ha.ok with ⟨_,_,h3⟩|⟨h3,_⟩<;>omega
 have hz0:nm b=0->zbv a b p up=(d0,10):=fun h=>by unfold zbv;rw[Z6 h]
 have hk:bl (nm a*2^zaf a b p)<=8192:=by
  by_cases h:nm a=0
  .rw[h,qB];decide
  .rw[zq _ _ h];unfold zaf;omega
 have hkb:zaf a b p<=8000:=by unfold zaf;omega
 have hke:(if qG.wrap (qG.wrap (qG.wrap ((p:Int)+3)+(bl (nm b):Int))-(bl (nm a):Int))>0 then qG.wrap (qG.wrap (qG.wrap ((p:Int)+3)+(bl (nm b):Int))-(bl (nm a):Int))else 0)=((zaf a b p:Nat):Int):=by
  rw[wI (x:=(p:Int)+3) O,wI (x:=(p:Int)+3+(bl (nm b):Int)) O,wI O];unfold zaf;split<;>omega
 have h167:=qcn (nm a) (zaf a b p) O hk O;have h166:=y166 (nm a*2^zaf a b p) (nm b) O O;rw[Z7 O]at h166;have hq:bl (nm a*2^zaf a b p/nm b)<=8192:=by have:=zz (qA (nm a*2^zaf a b p) (nm b));omega
 have hr:bl (nm a*2^zaf a b p % nm b)<=8192:=by have:=zz (Nat.mod_le (nm a*2^zaf a b p) (nm b));omega
 have h169:=qcm (nm a*2^zaf a b p % nm b) O;have h168:=v168 (a.neg != b.neg) (nm a*2^zaf a b p/nm b) (a.e-zaf a b p-b.e) (decide (nm a*2^zaf a b p % nm b≠0)) up p O O hp;rw[<-ze7]at h168;have hR:nm b≠0->xi (a.neg != b.neg) (nm a*2^zaf a b p/nm b) (a.e-zaf a b p-b.e) (decide ((bl (nm a*2^zaf a b p % nm b):Int)>0)) p up=zbv a b p up:=fun h=>by unfold zbv;rw[Z7 h,<-ze7]
 have hw:qG.wrap (qG.wrap (a.e-(zaf a b p:Int))-b.e)=a.e-zaf a b p-b.e:=by rw[wI (x:=a.e-(zaf a b p:Int)) O,wI O]
 have ae:=ha.eq;have be:=hb.eq;generalize zbv a b p up=R at*;generalize zaf a b p=k at*;generalize nm a=x at*;generalize nm b=y at*;obtain⟨an,am,ax⟩:=a;obtain⟨bn,bm,bx⟩:=b;simp only at ae be a2 b2 h168 hR hw;subst ae be;by_cases hy0:y=0
 .rw[hz0 hy0];subst hy0;rw[wp]at*;refine fY6 Tryz.func179 rfl ?_;refine gYn h164 ?_;exact⟨zq5,leG⟩
 rw[hR hy0]at h168;rw[Z7 hy0]at h166;by_cases hx0:x=0
 .rw[hz hy0 hx0];subst hx0;rw[wp]at*;refine fY6 Tryz.func179 rfl ?_;refine gYn h164 ?_;refine brI (fun h6=>?_) (fun h6=>?_)
  .have h6:(((toL y).length :Int)==0)=true:=h6;rw[zbn hy0]at h6;cases h6
  conv=>whnf
  exact⟨zq5,leG⟩
 obtain⟨⟨r1,r2,r3⟩,r4⟩:=R;refine fY6 Tryz.func179 rfl ?_;refine gYn h164 ?_;refine brI (fun h6=>?_) (fun h6=>?_)
 .have h6:(((toL y).length :Int)==0)=true:=h6;rw[zbn hy0]at h6;cases h6
 conv=>whnf
 refine brI (fun h6=>?_) (fun h6=>?_)
 .have h6:(((toL x).length :Int)==0)=true:=h6;rw[zbn hx0]at h6;cases h6
 conv=>whnf
 refine gYn h165b ?_;refine gYn h165a ?_;refine gYd ?_;rw[hke];refine gYn h167 ?_;refine gYn h166 ?_;refine gYd ?_;refine gYn h169 ?_;rw[hw];refine gYc h168 ?_;refine gYd ?_;exact⟨lr rfl,leG⟩
def sqK(d:Dy)(p:Nat):Nat:=if(d.e-(2*p+4-bl (nm d):Nat)) % 2=0 then 2*p+4-bl (nm d)else 2*p+4-bl (nm d)+1
def ku(d:Dy)(p:Nat)(up:Bool):Dy×Int:=
 if nm d=0 then(d0,0)else za8 (sqN (nm d*2^sqK d p)) ((d.e-sqK d p)/2) (decide (sqN (nm d*2^sqK d p)*sqN (nm d*2^sqK d p)≠nm d*2^sqK d p)) p up
theorem qds(a:Nat):sqN a<=a:=by
 obtain⟨h1,_⟩:=zfr a;rcases Nat.eq_zero_or_pos (sqN a)with h|h
 .omega
 .exact qF (Nat.le_mul_of_pos_left _ h) h1
theorem v204{d:Dy}(hd:VD d)(hn:d.neg=false)(up:Bool)(p:Nat)(hp:8<=p/\p<=512):Fn 252 G0 [.agg (dyC d),.int .i64 p,.bool up] (dyV (ku d p up)) G0:=by
 have a1:=hd.bits;have a2:=hd.exp;have h164:=qdi (p:=p) (l:= [d]) hp OC (by simpa using hd);have h165:=v165 hd;have hz:nm d=0->ku d p up=(d0,0):=fun h=>by unfold ku;rw[Z6 h]
 have hR:nm d≠0->ku d p up=za8 (sqN (nm d*2^sqK d p)) ((d.e-sqK d p)/2) (decide (sqN (nm d*2^sqK d p)*sqN (nm d*2^sqK d p)≠nm d*2^sqK d p)) p up:=fun h=>by unfold ku;rw[Z7 h]
 obtain⟨k0,hk0⟩:∃k0,2*p+4-bl (nm d)=k0:=⟨_,rfl⟩;have hk0e:(if qG.wrap (qG.wrap (qG.wrap (2*(p:Int))+4)-(bl (nm d):Int))>0 then qG.wrap (qG.wrap (qG.wrap (2*(p:Int))+4)-(bl (nm d):Int))else 0)=((k0:Nat):Int):=by
  rw[wI (x:=2*(p:Int)) O,wI (x:=2*(p:Int)+4) O,wI O];split<;>omega
 have hkk:sqK d p=if(d.e-k0) % 2=0 then k0 else k0+1:=by unfold sqK;rw[hk0]
 have hkb:sqK d p<=2*p+5:=by rw[hkk];split<;>omega
 have hpar:(d.e-sqK d p) % 2=0:=by rw[hkk];split<;>omega
 have hbits:bl (nm d*2^sqK d p)<=5200:=by
  by_cases h:nm d=0
  .rw[h,qB];decide
  .rw[zq _ _ h];omega
 have h167:=qcn (nm d) (sqK d p) O O O;have hsb:bl (sqN (nm d*2^sqK d p))<=4000:=by
  obtain⟨h1,_⟩:=zfr (nm d*2^sqK d p);exact bl_sq h1 (k:=4000) O
 have hss:bl (sqN (nm d*2^sqK d p)*sqN (nm d*2^sqK d p))<=8192:=by have:=yi (sqN (nm d*2^sqK d p)) (sqN (nm d*2^sqK d p));omega
 have h246:=y246 (nm d*2^sqK d p) O;rw[Z7 O]at h246;have h225:=qde (sqN (nm d*2^sqK d p)) (sqN (nm d*2^sqK d p)) O O hss;have h177:=qdg (sqN (nm d*2^sqK d p)*sqN (nm d*2^sqK d p)) (nm d*2^sqK d p) O O;have hne:=zjt (sqN (nm d*2^sqK d p)*sqN (nm d*2^sqK d p)) (nm d*2^sqK d p);have h219:=v219 (sqN (nm d*2^sqK d p)) ((d.e-sqK d p)/2) (decide (sqN (nm d*2^sqK d p)*sqN (nm d*2^sqK d p)≠nm d*2^sqK d p)) up p O O hp;rw[<-hne]at h219 hR;have hw:qG.wrap ((qG.wrap (d.e-(sqK d p:Int))).tdiv 2)=(d.e-sqK d p)/2:=by
  rw[wI (x:=d.e-(sqK d p:Int)) O];obtain⟨t,ht⟩:∃t,d.e-(sqK d p:Int)=t*2:=⟨(d.e-sqK d p)/2,O⟩;rw[ht,Int.mul_tdiv_cancel _ OA,wI O];omega
 have hk1:∀z:Int,z=qG.wrap (d.e-(k0:Int))->((z.tmod 2 != 0)=true->qG.wrap ((k0:Int)+1)=((sqK d p:Nat):Int))/\((z.tmod 2 != 0)=false->(k0:Int)=((sqK d p:Nat):Int)):=by
  intro z hz;rw[wI O]at hz;subst hz;rw[hkk,bne_iff_ne,bne_eq_false_iff_eq];have ht:(d.e-(k0:Int)).tmod 2=0<->(d.e-(k0:Int)) % 2=0:=by
   constructor
   .intro h;have:=Int.dvd_of_tmod_eq_zero h;omega
   .intro h;exact Int.tmod_eq_zero_of_dvd O
  constructor
  .intro h;rw[Z7 fun c=>h (ht.2 c),wI O];omega
  .intro h;rw[Z6 (ht.1 h)]
 have ae:=hd.eq;generalize ku d p up=R at*;generalize sqN (nm d*2^sqK d p)=s at*;generalize nm d*2^sqK d p=m at*;generalize sqK d p=k at*;generalize nm d=x at*;obtain⟨an,am,ax⟩:=d;simp only at ae a2 h219 hR hw hn hk1;subst ae hn;by_cases hx0:x=0
 .rw[hz hx0];subst hx0;rw[wp]at*;refine fY6 Tryz.func252 rfl ?_;refine gYn h164 ?_;exact⟨zq5,leG⟩
 rw[<-hR hx0]at h219;obtain⟨⟨r1,r2,r3⟩,r4⟩:=R;refine fY6 Tryz.func252 rfl ?_;refine gYn h164 ?_;refine brI (fun h6=>?_) (fun h6=>?_)
 .have h6:(((toL x).length :Int)==0)=true:=h6;rw[zbn hx0]at h6;cases h6
 conv=>whnf
 refine gYn h165 ?_;rw[hk0e];refine⟨OA,?_⟩;conv=>whnf
 obtain⟨hka,hkb2⟩:=hk1 _ rfl;refine brI (fun h6=>?_) (fun h6=>?_)
 .have e:=hka h6;conv=>whnf
  rw[e];refine gYn h167 ?_;refine gYn h246 ?_;refine gYn h225 ?_;refine⟨OA,?_⟩;conv=>whnf
  refine gYn h177 ?_;rw[hw];refine gYc h219 ?_;refine gYd ?_;exact⟨lr rfl,leG⟩
 .have e:=hkb2 h6;conv=>whnf
  rw[e];refine gYn h167 ?_;refine gYn h246 ?_;refine gYn h225 ?_;refine⟨OA,?_⟩;conv=>whnf
  refine gYn h177 ?_;rw[hw];refine gYc h219 ?_;refine gYd ?_;exact⟨lr rfl,leG⟩
def kg(a b:Dy)(p:Nat):Int:=if zn a-zn b<=2 then min (min a.e (zn a-p-8)) b.e else min a.e (zn a-p-8)
def zhy(a b:Dy)(p:Nat):(Nat×Int×Bool)×Bool:=
 if a.neg=b.neg then((nm a*2^(a.e-kg a b p).toNat +(wz (nm b) b.e false (kg a b p)).1,kg a b p,(wz (nm b) b.e false (kg a b p)).2),false)
 else if nm a*2^(a.e-kg a b p).toNat <upN (wz (nm b) b.e false (kg a b p)) true then((upN (wz (nm b) b.e false (kg a b p)) true-nm a*2^(a.e-kg a b p).toNat,kg a b p,false),true)
 else((nm a*2^(a.e-kg a b p).toNat -upN (wz (nm b) b.e false (kg a b p)) true,kg a b p,(wz (nm b) b.e false (kg a b p)).2),false)
theorem v263(x y:Nat)(hx:bl x<=8190)(hy:bl y<=8190):Fn 269 [] [.sl .u32 (toL x),.sl .u32 (toL y)] (dnV (toL (x+y),0)) []:=by
 have h:=y263 x y O O;have hs:bl (x+y)<=8191:=by
  exact zhp hx hy
 rw[Z7 O]at h;unfold dnN at h
 rwa [Z7 O]at h
theorem v264(x y:Nat)(hx:bl x<=8192)(hy:bl y<=8192)(h:y<=x):Fn 270 [] [.sl .u32 (toL x),.sl .u32 (toL y)] (dnV (toL (x-y),0)) []:=by
 have h264:=y264 x y O O;have:=zz (qE x y);rw[Z7 O,Z7 O]at h264;unfold dnN at h264
 rwa [Z7 O]at h264
theorem zm9{a b:Dy}{p:Nat}(ha:VD a)(hb:VD b)(h0:nm a≠0)(hle:zn b<=zn a)(hb0:nm b≠0)(hp:8<=p/\p<=512):
 kg a b p<=a.e/\zn a-4200<=kg a b p/\ -40000<=kg a b p/\kg a b p<=16384:=by
 have a1:=ha.bits;have b1:=hb.bits;have a2:=ha.exp;have b2:=hb.exp;have ta:zn a=bl (nm a)+a.e:=by unfold zn;rw[Z7 h0]
 have tb:zn b=bl (nm b)+b.e:=by unfold zn;rw[Z7 hb0]
 unfold kg;split<;>omega
theorem v224{a b:Dy}(ha:VD a)(hb:VD b)(ha0:nm a≠0)(hb0:nm b≠0)(hle:zn b<=zn a)(p:Nat)(hp:8<=p/\p<=512):
 Fn 220 [] [.agg (dyC a),.agg (dyC b),.int .i64 p] (.tup [.agg (xcC (zhy a b p).1.1 (zhy a b p).1.2.1 (zhy a b p).1.2.2),.bool (zhy a b p).2]) []:=by
 have a1:=ha.bits;have b1:=hb.bits;have a2:=ha.exp;have b2:=hb.exp;have h176a:=zn0 ha;have h176b:=zn0 hb;obtain⟨l1,l2,l3,l4⟩:=zm9 ha hb ha0 hle hb0 hp;have ta:zn a=bl (nm a)+a.e:=by unfold zn;rw[Z7 ha0]
 have tb:zn b=bl (nm b)+b.e:=by unfold zn;rw[Z7 hb0]
 have xb:bl (nm a*2^(a.e-kg a b p).toNat)<=4200:=by rw[zq _ _ ha0];omega
 have fb:bl (wz (nm b) b.e false (kg a b p)).1<=4200:=by
  unfold wz;split
  .simp only;rw[zq _ _ hb0];omega
  .simp only;have:=zz (qA (nm b) (2^(kg a b p-b.e).toNat));omega
 have hf1:kg a b p<=b.e->wz (nm b) b.e false (kg a b p)=(nm b*2^(b.e-kg a b p).toNat,false):=fun h=>by unfold wz;rw[Z6 h]
 have hf2:¬kg a b p<=b.e->wz (nm b) b.e false (kg a b p)=(nm b/2^(kg a b p-b.e).toNat,decide (nm b % 2^(kg a b p-b.e).toNat ≠0)):=fun h=>by unfold wz;rw[Z7 h,Bool.false_or]
 have g1:qG.wrap (a.e-kg a b p)=(((a.e-kg a b p).toNat :Nat):Int):=by rw[wI O];omega
 have g2:kg a b p<=b.e->qG.wrap (b.e-kg a b p)=(((b.e-kg a b p).toNat :Nat):Int):=fun h=>by rw[wI O];omega
 have g3:¬kg a b p<=b.e->qG.wrap (kg a b p-b.e)=(((kg a b p-b.e).toNat :Nat):Int):=fun h=>by rw[wI O];omega
 have m1:(if qG.wrap (qG.wrap (zn a-(p:Int))-8)<a.e then qG.wrap (qG.wrap (zn a-(p:Int))-8)else a.e)=min a.e (zn a-p-8):=by
  rw[wI (x:=zn a-(p:Int)) O,wI O];split<;>omega
 have m2:qG.wrap (zn a-zn b)=zn a-zn b:=wI O;have m3:zn a-zn b<=2->(if b.e<min a.e (zn a-p-8)then b.e else min a.e (zn a-p-8))=kg a b p:=fun h=>by unfold kg;rw[Z6 h];split<;>omega
 have m4:¬zn a-zn b<=2->min a.e (zn a-p-8)=kg a b p:=fun h=>by unfold kg;rw[Z7 h]
 have h167a:=qcn (nm a) (a.e-kg a b p).toNat O O O;unfold zhy;generalize kg a b p=low at*;obtain⟨F,hF⟩:∃F,wz (nm b) b.e false low=F:=⟨_,rfl⟩;rw[hF]at fb hf1 hf2⊢;have h167b:low<=b.e->Fn 230 [] [.sl .u32 (toL (nm b)),.int .i64 (qG.wrap (b.e-low))] (.sl .u32 (toL F.1)) []/\F.2=false:=fun h=>by
  have e:=hf1 h;rw[e]at fb⊢;simp only at fb;rw[g2 h];exact⟨qcn (nm b) _ O O O,rfl⟩
 have h262b:¬low<=b.e->Fn 268 [] [.sl .u32 (toL (nm b)),.int .i64 (qG.wrap (low-b.e))] (.tup [.sl .u32 (toL F.1),.bool F.2]) []:=fun h=>by
  rw[hf2 h];exact v262 (nm b) _ (g3 h) O O
 obtain⟨x,hx⟩:∃x,nm a*2^(a.e-low).toNat =x:=⟨_,rfl⟩;rw[hx]at xb h167a⊢;have ae:=ha.eq;have be:=hb.eq;clear hF hf1 hf2 g2 g3 ha hb hx;generalize zn a=tA at*;generalize zn b=tB at*;generalize nm a=na at*;generalize nm b=nb at*;obtain⟨an,am,ax⟩:=a;obtain⟨bn,bm,bx⟩:=b;simp only at ae be a2 b2 g1 m1 m3 m4 h167a h167b h262b⊢;subst ae be;rw[<-g1]at h167a;have h263:=v263 x F.1 O O;have h1:=v263 F.1 1 O OA;rw[zjz]at h1;have ub:bl (upN F true)<=4300:=by
  unfold upN;split
  .have:=zbz F.1;omega
  .omega
 have hu1:F.2=true->upN F true=F.1+1:=fun h=>by unfold upN;rw[h];rfl
 have hu2:F.2=false->upN F true=F.1:=fun h=>by unfold upN;rw[h];rfl
 have h177:=qdg x (upN F true) O O;have h264a:=v264 x (upN F true) O O;have h264b:=v264 (upN F true) x O O;obtain⟨y,lost⟩:=F;simp only at*;generalize hU:upN (y,lost) true=U at*;refine qr (code:=Tryz.f220.body.getD .skip) hT6 hmx Tryz.func220 rfl rfl (ex:= []) ?_;conv=>whnf
 refine jm hT6 hmx 7 (fun _:Unit=>⟨[.any,.any,.int .i64 p,.ptr 3 0,.ptr 4 0,.any,.ptr 6 0,.bool false,.int .i64 low,.sl .u32 (toL x),.sl .u32 (toL y),.bool lost]++uo 97,[(3,.cells [.bool an,.sl .u32 (toL na),.int .i64 ax]),(4,.cells [.bool bn,.sl .u32 (toL nb),.int .i64 bx]),(6,.cells [.nilsl,.int .i64 0,.bool false])]⟩) (fun _=>Z) ?_ (fun _=>?_)
 .conv=>whnf
  refine gYn h176a ?_;refine gYd ?_;rw[m1];refine gYn h176a ?_;refine gYn h176b ?_;refine gYd ?_;rw[m2];have tail:True:=trivial;refine brI (fun h5=>?_) (fun h5=>?_)
  .have h5:tA-tB<=2:=Z0 h5;conv=>whnf
   rw[m3 h5];refine gYn h167a ?_;refine brI (fun h6=>?_) (fun h6=>?_)
   .have h6:low<=bx:=Z0 h6;obtain⟨hb1,hb2⟩:=h167b h6;subst hb2;conv=>whnf
    refine gYn hb1 ?_;refine⟨(),?_⟩;exact KZ0
   .have h6:¬low<=bx:=Z3 h6;conv=>whnf
    refine gYn (h262b h6) ?_;refine⟨(),?_⟩;exact KZ0
  .have h5:¬tA-tB<=2:=Z3 h5;conv=>whnf
   rw[m4 h5];refine gYn h167a ?_;refine brI (fun h6=>?_) (fun h6=>?_)
   .have h6:low<=bx:=Z0 h6;obtain⟨hb1,hb2⟩:=h167b h6;subst hb2;conv=>whnf
    refine gYn hb1 ?_;refine⟨(),?_⟩;exact KZ0
   .have h6:¬low<=bx:=Z3 h6;conv=>whnf
    refine gYn (h262b h6) ?_;refine⟨(),?_⟩;exact KZ0
 .refine ww hT6 hmx ?_;conv=>whnf
  refine brI (fun h5=>?_) (fun h5=>?_)
  .have h5:an=bn:=by have h5:(an==bn)=true:=h5;rwa [beq_iff_eq]at h5
   rw[Z6 h5];conv=>whnf
   refine gYn h263 ?_;exact⟨lr rfl,lh0⟩
  .have h5:an≠bn:=by have h5:(an==bn)=false:=h5;rwa [beq_eq_false_iff_ne]at h5
   rw[Z7 h5];conv=>whnf
   cases lost with
   |true=>
    have e:=hu1 rfl;rw[<-e]at h1;conv=>whnf
    refine gYn h1 ?_;refine gYn h177 ?_;refine brI (fun h6=>?_) (fun h6=>?_)
    .have h6:kd x U<0:=Z0 h6;have h6:x<U:=by unfold kd at h6;split at h6;assumption;split at h6<;>omega
     rw[Z6 h6];conv=>whnf
     refine gYn (h264b O) ?_;exact⟨lr rfl,lh0⟩
    .have h6:¬kd x U<0:=Z3 h6;have h6:¬x<U:=fun h=>h6 (by unfold kd;rw[Z6 h];decide)
     rw[Z7 h6];conv=>whnf
     refine gYn (h264a O) ?_;exact⟨lr rfl,lh0⟩
   |false=>
    have e:=hu2 rfl;subst e;conv=>whnf
    refine gYn h177 ?_;refine brI (fun h6=>?_) (fun h6=>?_)
    .have h6:kd x U<0:=Z0 h6;have h6:x<U:=by unfold kd at h6;split at h6;assumption;split at h6<;>omega
     rw[Z6 h6];conv=>whnf
     refine gYn (h264b O) ?_;exact⟨lr rfl,lh0⟩
    .have h6:¬kd x U<0:=Z3 h6;have h6:¬x<U:=fun h=>h6 (by unfold kd;rw[Z6 h];decide)
     rw[Z7 h6];conv=>whnf
     refine gYn (h264a O) ?_;exact⟨lr rfl,lh0⟩
theorem zzz{a b:Dy}{p:Nat}(ha:VD a)(hb:VD b)(ha0:nm a≠0)(hb0:nm b≠0)(hle:zn b<=zn a)(hp:8<=p/\p<=512):
 bl (zhy a b p).1.1<=8000/\ -100000<=(zhy a b p).1.2.1/\(zhy a b p).1.2.1<=100000:=by
 have a1:=ha.bits;have b1:=hb.bits;have a2:=ha.exp;have b2:=hb.exp;obtain⟨l1,l2,l3,l4⟩:=zm9 ha hb ha0 hle hb0 hp;have ta:zn a=bl (nm a)+a.e:=by unfold zn;rw[Z7 ha0]
 have tb:zn b=bl (nm b)+b.e:=by unfold zn;rw[Z7 hb0]
 have xb:bl (nm a*2^(a.e-kg a b p).toNat)<=4200:=by rw[zq _ _ ha0];omega
 have fb:bl (wz (nm b) b.e false (kg a b p)).1<=4200:=by
  unfold wz;split
  .simp only;rw[zq _ _ hb0];omega
  .simp only;have:=zz (qA (nm b) (2^(kg a b p-b.e).toNat));omega
 unfold zhy;generalize kg a b p=low at*;generalize nm a*2^(a.e-low).toNat =x at*;generalize wz (nm b) b.e false low=F at*;have hu:bl (upN F true)<=4201:=by
  unfold upN;split
  .have:=zbz F.1;omega
  .omega
 split
 .refine⟨?_,OD,OD⟩;simp only;have:bl (x+F.1)<=4201:=zhp xb fb;omega
 .split
  .refine⟨?_,OD,OD⟩;have:=zz (qE (upN F true) x);simp only;omega
  .refine⟨?_,OD,OD⟩;have:=zz (qE x (upN F true));simp only;omega
def zh3(a b:Dy):Dy:=if zn a<zn b then b else a
def zid(a b:Dy):Dy:=if zn a<zn b then a else b
def qb9(c d:Dy)(p:Nat)(up:Bool):Dy×Int:=
 if(zhy c d p).1.1=0/\(zhy c d p).1.2.2=false then(d0,0)else xi (c.neg != (zhy c d p).2) (zhy c d p).1.1 (zhy c d p).1.2.1 (zhy c d p).1.2.2 p up
def zay(a b:Dy)(p:Nat)(up:Bool):Dy×Int:=
 if nm a=0 then qm b p up else if nm b=0 then qm a p up else qb9 (zh3 a b) (zid a b) p up
theorem v179{a b:Dy}(ha:VD a)(hb:VD b)(up:Bool)(p:Nat)(hp:8<=p/\p<=512):Fn 170 G0 [.agg (dyC a),.agg (dyC b),.int .i64 p,.bool up] (dyV (zay a b p up)) G0:=by
 have h164:=qdi (p:=p) (l:= [a,b]) hp OC (by simpa using⟨ha,hb⟩);by_cases ha0:nm a=0
 .have h223:=v223 hb up p hp;have hR:zay a b p up=qm b p up:=by unfold zay;rw[Z6 ha0]
  rw[hR];generalize qm b p up=R at*;have ae:=ha.eq;rw[ha0]at ae;clear ha hb hR ha0;obtain⟨an,am,ax⟩:=a;obtain⟨bn,bm,bx⟩:=b;obtain⟨⟨r1,r2,r3⟩,r4⟩:=R;simp only at ae;subst ae;refine fY6 Tryz.func170 rfl ?_;refine gYn h164 ?_;refine gYc h223 ?_;exact⟨lr rfl,leG⟩
 by_cases hb0:nm b=0
 .have h223:=v223 ha up p hp;have hR:zay a b p up=qm a p up:=by unfold zay;rw[Z7 ha0,Z6 hb0]
  rw[hR];generalize qm a p up=R at*;have ae:=ha.eq;have be:=hb.eq;rw[hb0]at be;clear ha hb hR hb0;generalize nm a=na at*;obtain⟨an,am,ax⟩:=a;obtain⟨bn,bm,bx⟩:=b;obtain⟨⟨r1,r2,r3⟩,r4⟩:=R;simp only at ae be;subst ae be;refine fY6 Tryz.func170 rfl ?_;refine gYn h164 ?_;refine brI (fun h6=>?_) (fun h6=>?_)
  .have h6:(((toL na).length :Int)==0)=true:=h6;rw[zbn ha0]at h6;cases h6
  conv=>whnf
  refine gYc h223 ?_;exact⟨lr rfl,leG⟩
 have hR:zay a b p up=qb9 (zh3 a b) (zid a b) p up:=by unfold zay;rw[Z7 ha0,Z7 hb0]
 rw[hR];have h176a:=zn0 ha;have h176b:=zn0 hb;have hc:VD (zh3 a b)/\VD (zid a b)/\nm (zh3 a b)≠0/\nm (zid a b)≠0/\zn (zid a b)<=zn (zh3 a b):=by
  unfold zh3 zid;split
  .exact⟨hb,ha,hb0,ha0,O⟩
  .exact⟨ha,hb,ha0,hb0,O⟩
 obtain⟨c1,c2,c3,c4,c5⟩:=hc;have h224:=v224 c1 c2 c3 c4 c5 p hp;obtain⟨s1,s2,s3⟩:=zzz c1 c2 c3 c4 c5 hp;have h168:=v168 ((zh3 a b).neg != (zhy (zh3 a b) (zid a b) p).2) (zhy (zh3 a b) (zid a b) p).1.1 (zhy (zh3 a b) (zid a b) p).1.2.1 (zhy (zh3 a b) (zid a b) p).1.2.2 up p O ⟨s2,s3⟩ hp;have hf1:zn a<zn b->zh3 a b=b/\zid a b=a:=fun h=>by unfold zh3 zid;rw[Z6 h,Z6 h];exact⟨rfl,rfl⟩
 have hf2:¬zn a<zn b->zh3 a b=a/\zid a b=b:=fun h=>by unfold zh3 zid;rw[Z7 h,Z7 h];exact⟨rfl,rfl⟩
 unfold qb9;generalize zh3 a b=c at*;generalize zid a b=d at*;generalize zhy c d p=S at*;obtain⟨⟨sm,sl,sx⟩,st⟩:=S;simp only at h224 h168 s1 s2 s3⊢;generalize xi (c.neg != st) sm sl sx p up=R at*;have ae:=ha.eq;have be:=hb.eq;clear ha hb c1 c2 c3 c4 c5 hR;generalize zn a=tA at*;generalize zn b=tB at*;generalize nm a=na at*;generalize nm b=nb at*;obtain⟨an,am,ax⟩:=a;obtain⟨bn,bm,bx⟩:=b;obtain⟨cn,cm,cx⟩:=c;obtain⟨dn,dm,dx⟩:=d;obtain⟨⟨r1,r2,r3⟩,r4⟩:=R;simp only at ae be h168;subst ae be;refine qr (code:=Tryz.f170.body.getD .skip) hT6 hmx Tryz.func170 rfl rfl (ex:= []) ?_;conv=>whnf
 refine jm hT6 hmx 4 (fun _:Unit=>⟨[.any,.any,.int .i64 p,.bool up,.ptr 4 0,.ptr 5 0,.any,.any,.ptr 8 0,.int .i64 0,.int .i64 0]++uo 67,[(4,.cells [.bool cn,.sl .u32 cm,.int .i64 cx]),(5,.cells [.bool dn,.sl .u32 dm,.int .i64 dx]),(8,.cells [.bool false,.nilsl,.int .i64 0]),(11,.free),(qi,.gst JT)]⟩) (fun _=>Z) ?_ (fun _=>?_)
 .conv=>whnf
  refine gYn h164 ?_;refine brI (fun h6=>?_) (fun h6=>?_)
  .have h6:(((toL na).length :Int)==0)=true:=h6;rw[zbn ha0]at h6;cases h6
  conv=>whnf
  refine brI (fun h6=>?_) (fun h6=>?_)
  .have h6:(((toL nb).length :Int)==0)=true:=h6;rw[zbn hb0]at h6;cases h6
  conv=>whnf
  refine gYn h176a ?_;refine gYn h176b ?_;refine gYd ?_;refine brI (fun h6=>?_) (fun h6=>?_)
  .have h6:tA<tB:=Z0 h6;obtain⟨e1,e2⟩:=hf1 h6;injection e1 with q1 q2 q3
   injection e2 with q4 q5 q6
   subst q1 q2 q3 q4 q5 q6;conv=>whnf
   refine⟨(),?_⟩;exact KZ0
  .have h6:¬tA<tB:=Z3 h6;obtain⟨e1,e2⟩:=hf2 h6;injection e1 with q1 q2 q3
   injection e2 with q4 q5 q6
   subst q1 q2 q3 q4 q5 q6;conv=>whnf
   refine⟨(),?_⟩;exact KZ0
 .refine ww hT6 hmx ?_;conv=>whnf
  refine gYn h224 ?_;refine brI (fun h6=>?_) (fun h6=>?_)
  .have h6:(toL sm).length =0:=by have h6:(((toL sm).length :Int)==0)=true:=h6;rw[beq_iff_eq]at h6;omega
   have h6:=wv.1 h6
   cases sx with
   |false=>
    rw[Z6 ⟨h6,rfl⟩];conv=>whnf
    exact⟨zq5,leG⟩
   |true=>
    rw[Z7 OC];conv=>whnf
    refine gYc h168 ?_;exact⟨lr rfl,leG⟩
  .have h6:sm≠0:=fun e=>by
    subst e;have h6:(((toL 0).length :Int)==0)=false:=h6;simp[wp]at h6
   rw[Z7 (fun c=>h6 c.1)];conv=>whnf
   refine gYc h168 ?_;exact⟨lr rfl,leG⟩
theorem v132{a b:Dy}(ha:VD a)(hb:VD b)(p:Nat)(hp:8<=p/\p<=512):Fn 102 G0 [.agg (dyC a),.agg (dyC b),.int .i64 p] (dyV (ug a b p false)) G0:=by
 have h:=v180 ha hb false p hp;generalize ug a b p false=R at*;clear ha hb;obtain⟨an,am,ax⟩:=a;obtain⟨bn,bm,bx⟩:=b;obtain⟨⟨r1,r2,r3⟩,r4⟩:=R;refine fY6 Tryz.func102 rfl ?_;refine gYc h ?_;exact⟨lr rfl,leG⟩
theorem v133{a b:Dy}(ha:VD a)(hb:VD b)(p:Nat)(hp:8<=p/\p<=512):Fn 103 G0 [.agg (dyC a),.agg (dyC b),.int .i64 p] (dyV (ug a b p true)) G0:=by
 have h:=v180 ha hb true p hp;generalize ug a b p true=R at*;clear ha hb;obtain⟨an,am,ax⟩:=a;obtain⟨bn,bm,bx⟩:=b;obtain⟨⟨r1,r2,r3⟩,r4⟩:=R;refine fY6 Tryz.func103 rfl ?_;refine gYc h ?_;exact⟨lr rfl,leG⟩
theorem v76{a b:Dy}(ha:VD a)(hb:VD b)(p:Nat)(hp:8<=p/\p<=512):Fn 111 G0 [.agg (dyC a),.agg (dyC b),.int .i64 p] (dyV (zbv a b p false)) G0:=by
 have h:=v121 ha hb false p hp;generalize zbv a b p false=R at*;clear ha hb;obtain⟨an,am,ax⟩:=a;obtain⟨bn,bm,bx⟩:=b;obtain⟨⟨r1,r2,r3⟩,r4⟩:=R;refine fY6 Tryz.func111 rfl ?_;refine gYc h ?_;exact⟨lr rfl,leG⟩
theorem v78{a b:Dy}(ha:VD a)(hb:VD b)(p:Nat)(hp:8<=p/\p<=512):Fn 113 G0 [.agg (dyC a),.agg (dyC b),.int .i64 p] (dyV (zbv a b p true)) G0:=by
 have h:=v121 ha hb true p hp;generalize zbv a b p true=R at*;clear ha hb;obtain⟨an,am,ax⟩:=a;obtain⟨bn,bm,bx⟩:=b;obtain⟨⟨r1,r2,r3⟩,r4⟩:=R;refine fY6 Tryz.func113 rfl ?_;refine gYc h ?_;exact⟨lr rfl,leG⟩
theorem v128{a b:Dy}(ha:VD a)(hb:VD b)(p:Nat)(hp:8<=p/\p<=512):Fn 96 G0 [.agg (dyC a),.agg (dyC b),.int .i64 p] (dyV (zay a b p false)) G0:=by
 have h:=v179 ha hb false p hp;generalize zay a b p false=R at*;clear ha hb;obtain⟨an,am,ax⟩:=a;obtain⟨bn,bm,bx⟩:=b;obtain⟨⟨r1,r2,r3⟩,r4⟩:=R;refine fY6 Tryz.func96 rfl ?_;refine gYc h ?_;exact⟨lr rfl,leG⟩
theorem v129{a b:Dy}(ha:VD a)(hb:VD b)(p:Nat)(hp:8<=p/\p<=512):Fn 99 G0 [.agg (dyC a),.agg (dyC b),.int .i64 p] (dyV (zay a b p true)) G0:=by
 have h:=v179 ha hb true p hp;generalize zay a b p true=R at*;clear ha hb;obtain⟨an,am,ax⟩:=a;obtain⟨bn,bm,bx⟩:=b;obtain⟨⟨r1,r2,r3⟩,r4⟩:=R;refine fY6 Tryz.func99 rfl ?_;refine gYc h ?_;exact⟨lr rfl,leG⟩
theorem v145{a:Dy}(ha:VD a)(hn:a.neg=false)(p:Nat)(hp:8<=p/\p<=512):Fn 189 G0 [.agg (dyC a),.int .i64 p] (dyV (ku a p false)) G0:=by
 have h:=v204 ha hn false p hp;generalize ku a p false=R at*;clear ha;obtain⟨an,am,ax⟩:=a;obtain⟨⟨r1,r2,r3⟩,r4⟩:=R;refine fY6 Tryz.func189 rfl ?_;refine gYc h ?_;exact⟨lr rfl,leG⟩
theorem v146{a:Dy}(ha:VD a)(hn:a.neg=false)(p:Nat)(hp:8<=p/\p<=512):Fn 190 G0 [.agg (dyC a),.int .i64 p] (dyV (ku a p true)) G0:=by
 have h:=v204 ha hn true p hp;generalize ku a p true=R at*;clear ha;obtain⟨an,am,ax⟩:=a;obtain⟨⟨r1,r2,r3⟩,r4⟩:=R;refine fY6 Tryz.func190 rfl ?_;refine gYc h ?_;exact⟨lr rfl,leG⟩
theorem zxn{x y:Nat}(h:bl x<bl y):x<y:=Nat.not_le.1 fun c=>by have:=zz c;omega
def cmA(a b:Dy):Int:=kd (nm a*2^(a.e-min a.e b.e).toNat) (nm b*2^(b.e-min a.e b.e).toNat)
theorem zju{x y:Nat}(h:x<y):kd x y= -1:=by unfold kd;rw[Z6 h]
theorem zjv{x y:Nat}(h:y<x):kd x y=1:=by unfold kd;rw[Z7 O,Z6 h]
theorem v125{a b:Dy}(ha:VD a)(hb:VD b)(ha0:nm a≠0)(hb0:nm b≠0):Fn 93 [] [.agg (dyC a),.agg (dyC b)] (.int .i64 (cmA a b)) []:=by
 have a1:=ha.bits;have b1:=hb.bits;have a2:=ha.exp;have b2:=hb.exp;have h176a:=zn0 ha;have h176b:=zn0 hb;have ta:zn a=bl (nm a)+a.e:=by unfold zn;rw[Z7 ha0]
 have tb:zn b=bl (nm b)+b.e:=by unfold zn;rw[Z7 hb0]
 have m1:(if b.e<a.e then b.e else a.e)=min a.e b.e:=by split<;>omega
 have xa:=zq (nm a) (a.e-min a.e b.e).toNat ha0;have xb:=zq (nm b) (b.e-min a.e b.e).toNat hb0;have hlt:zn a<zn b->cmA a b= -1:=fun h=>zju (zxn O)
 have hgt:zn b<zn a->cmA a b=1:=fun h=>zjv (zxn O)
 have g1:qG.wrap (a.e-min a.e b.e)=(((a.e-min a.e b.e).toNat :Nat):Int):=by rw[wI O];omega
 have g2:qG.wrap (b.e-min a.e b.e)=(((b.e-min a.e b.e).toNat :Nat):Int):=by rw[wI O];omega
 have h178a:zn a=zn b->Fn 169 [] [.sl .u32 (toL (nm a)),.int .i64 (qG.wrap (a.e-min a.e b.e))] (.sl .u32 (toL (nm a*2^(a.e-min a.e b.e).toNat))) []:=fun h=>by
  rw[g1];exact v178 _ _ O O O
 have h178b:zn a=zn b->Fn 169 [] [.sl .u32 (toL (nm b)),.int .i64 (qG.wrap (b.e-min a.e b.e))] (.sl .u32 (toL (nm b*2^(b.e-min a.e b.e).toNat))) []:=fun h=>by
  rw[g2];exact v178 _ _ O O O
 have h177:zn a=zn b->Fn 168 [] [.sl .u32 (toL (nm a*2^(a.e-min a.e b.e).toNat)),.sl .u32 (toL (nm b*2^(b.e-min a.e b.e).toNat))] (.int .i64 (cmA a b)) []:=fun h=>qdg _ _ O O
 generalize cmA a b=c at*;generalize nm a*2^(a.e-min a.e b.e).toNat =X at*;generalize nm b*2^(b.e-min a.e b.e).toNat =Y at*;generalize zn a=tA at*;generalize zn b=tB at*;generalize min a.e b.e=t at*;have ae:=ha.eq;have be:=hb.eq;clear ha hb xa xb;generalize nm a=na at*;generalize nm b=nb at*;obtain⟨an,am,ax⟩:=a;obtain⟨bn,bm,bx⟩:=b;simp only at ae be m1 h178a h178b;subst ae be;refine fY6 Tryz.func93 rfl ?_;refine gYn h176a ?_;refine gYn h176b ?_;refine gYd ?_;refine brI (fun h1=>?_) (fun h1=>?_)
 .rw[hlt (Z0 h1)];conv=>whnf
  exact⟨lr rfl,lh0⟩
 have h1:¬tA<tB:=Z3 h1;conv=>whnf
 refine brI (fun h2=>?_) (fun h2=>?_)
 .rw[hgt (Z0 h2)];conv=>whnf
  exact⟨lr rfl,lh0⟩
 have h2:¬tB<tA:=Z3 h2;have he:tA=tB:=O;conv=>whnf
 rw[m1];refine gYn (h178a he) ?_;refine gYn (h178b he) ?_;refine gYn (h177 he) ?_;refine gYd ?_;exact⟨lr rfl,lh0⟩
def zsu(x y:Int):Int:=if x<y then-1 else if y<x then 1 else 0
def zi(d:Dy)(t:Int):Int:=if d.neg=true then-((nm d*2^(d.e-t).toNat :Nat):Int)else((nm d*2^(d.e-t).toNat :Nat):Int)
def wa(a b:Dy):Int:=zsu (zi a (min a.e b.e)) (zi b (min a.e b.e))
theorem zns(d:Dy)(t:Int):qs d=zsu (zi d t) 0:=by
 unfold qs zi zsu;have hp:=Nat.two_pow_pos (d.e-t).toNat;by_cases h:nm d=0
 .rw[Z6 h,h];split<;>simp
 .rw[Z7 h];have:0<nm d*2^(d.e-t).toNat :=Nat.mul_pos (Nat.pos_of_ne_zero h) hp;split<;>split<;>omega
theorem zmg{a b:Dy}(h:qs a=qs b)(h0:qs a≠0):wa a b=qs a*cmA a b:=by
 unfold wa cmA;unfold qs at h h0⊢;by_cases ha:nm a=0
 .rw[Z6 ha]at h0;exact absurd rfl h0
 .rw[Z7 ha]at h h0⊢;by_cases hb:nm b=0
  .rw[Z6 hb]at h;exact absurd h h0
  .rw[Z7 hb]at h;unfold zi zsu kd;generalize nm a*2^(a.e-min a.e b.e).toNat =X;generalize nm b*2^(b.e-min a.e b.e).toNat =Y;by_cases hna:a.neg=true<;>by_cases hnb:b.neg=true<;>simp only[hna,hnb,if_true,if_false,Bool.false_eq_true]at h⊢
   .by_cases c1:X<Y
    .rw[Z6 c1,Z7 O,Z6 O];rfl
    .by_cases c2:Y<X
     .rw[Z7 c1,Z6 c2,Z6 O];rfl
     .rw[Z7 c1,Z7 c2,Z7 O,Z7 O];rfl
   .cases h
   .cases h
   .by_cases c1:X<Y
    .rw[Z6 c1,Z6 O];rfl
    .by_cases c2:Y<X
     .rw[Z7 c1,Z6 c2,Z7 O,Z6 O];rfl
     .rw[Z7 c1,Z7 c2,Z7 O,Z7 O];rfl
theorem zpu{a b:Dy}:(qs a<qs b->wa a b= -1)/\(qs b<qs a->wa a b=1)/\(qs a=qs b->qs a=0->wa a b=0):=by
 rw[zns a (min a.e b.e),zns b (min a.e b.e)];unfold wa;generalize zi a (min a.e b.e)=x;generalize zi b (min a.e b.e)=y;unfold zsu;refine⟨?_,?_,?_⟩
 .intro h;split at h<;>split at h<;>(try split at h)<;>(try split at h)<;>first|(rw[Z6 O])|omega
 .intro h;split at h<;>split at h<;>(try split at h)<;>(try split at h)<;>first|(rw[Z7 O,Z6 O])|omega
 .intro h h0;split at h0<;>(try split at h0)<;>split at h<;>(try split at h)<;>(try split at h)<;>first|(rw[Z7 O,Z7 O])|omega
theorem v81{a b:Dy}(ha:VD a)(hb:VD b):Fn 53 [] [.agg (dyC a),.agg (dyC b)] (.int .i64 (wa a b)) []:=by
 have h80a:=v80 ha;have h80b:=v80 hb;have h124a:=zq9 ha;have h124b:=zq9 hb;obtain⟨s1,s2,s3⟩:=zpu (a:=a) (b:=b);have s4:=zmg (a:=a) (b:=b);have h125:qs a=qs b->qs a≠0->Fn 93 [] [.agg (dyC a),.agg (dyC b)] (.int .i64 (cmA a b)) []:=fun h h0=>by
  refine v125 ha hb (fun c=>?_) (fun c=>?_)
  .unfold qs at h0;rw[Z6 c]at h0;exact h0 rfl
  .rw[h]at h0;unfold qs at h0;rw[Z6 c]at h0;exact h0 rfl
 have hb1: -1<=qs a/\qs a<=1:=by unfold qs;split;omega;split<;>omega
 have hb2: -1<=cmA a b/\cmA a b<=1:=by unfold cmA kd;split;omega;split<;>omega
 have hw:qG.wrap (qs a*cmA a b)=qs a*cmA a b:=by
  have:qs a= -1\/qs a=0\/qs a=1:=O;rcases this with h|h|h<;>rw[h]<;>exact wI O
 generalize cmA a b=C at*;generalize wa a b=R at*;generalize qs a=A at*;generalize qs b=B at*;clear ha hb;obtain⟨an,am,ax⟩:=a;obtain⟨bn,bm,bx⟩:=b;refine fY6 Tryz.func53 rfl ?_;refine gYn h80a ?_;refine gYn h80b ?_;refine gYn h124a ?_;refine gYn h124b ?_;refine gYd ?_;refine brI (fun h1=>?_) (fun h1=>?_)
 .rw[s1 (Z0 h1)];conv=>whnf
  exact⟨lr rfl,lh0⟩
 have h1:¬A<B:=Z3 h1;conv=>whnf
 refine brI (fun h2=>?_) (fun h2=>?_)
 .rw[s2 (Z0 h2)];conv=>whnf
  exact⟨lr rfl,lh0⟩
 have h2:¬B<A:=Z3 h2;have he:A=B:=O;conv=>whnf
 refine brI (fun h3=>?_) (fun h3=>?_)
 .have h3:A=0:=by simpa using h3
  rw[s3 he h3];conv=>whnf
  exact⟨lr rfl,lh0⟩
 have h3:A≠0:=by simpa using h3
 conv=>whnf
 refine gYn (h125 he h3) ?_;exact⟨ai0 (by rw[hw,s4 he h3]),lh0⟩
def ql(d:Dy)(k:Int):Dy×Int:=if exB k=false then(d0,1)else ckN d.neg (nm d) (d.e+k)
theorem v230{d:Dy}(hd:VD d)(k:Int):Fn 97 G0 [.agg (dyC d),.int .i64 k] (dyV (ql d k)) G0:=by
 have h80:=v80 hd;have h268:=y268 k;have a1:=hd.bits;have a2:=hd.exp;have hlen:=hd.len;have hlb:=hd.lb;by_cases hk:exB k=false
 .have hR:ql d k=(d0,1):=by unfold ql;rw[Z6 hk]
  rw[hR];rw[hk]at h268;obtain⟨an,am,ax⟩:=d;have h80:Fn 49 [] [.agg [.bool an,.sl .u32 am,.int .i64 ax]] (.bool true) []:=h80;show Fn 97 G0 [.agg [.bool an,.sl .u32 am,.int .i64 ax],.int .i64 k] _ G0;refine fY6 Tryz.func97 rfl ?_;refine gYn h80 ?_;refine gYn h268 ?_;exact⟨zq5,leG⟩
 .have hR:ql d k=ckN d.neg (nm d) (d.e+k):=by unfold ql;rw[Z7 hk]
  rw[hR];have hk:exB k=true:=by simpa using hk
  rw[hk]at h268;unfold exB at hk;simp only[q0,Z4]at hk;have h122:=v122 d.neg d.m (d.e+k) hlb O (O:bl (nm d)<=8192) O;have h122:Fn 173 G0 [.bool d.neg,.sl .u32 d.m,.int .i64 (d.e+k)] (.agg (dyC (cnN d.neg (nm d) (d.e+k)))) G0:=h122;have hc:=y269 (cnN d.neg (nm d) (d.e+k)) (by unfold cnN;split;exact qv.lb;exact zk _) (by
   unfold cnN;split
   .simp[d0]
   .have:=zz (qA (nm d) (2^tz (nm d)));have:=(zu (nm d/2^tz (nm d)) 1000000).2 O;exact this)
  rw[zuk]at hc;have hw:qG.wrap (d.e+k)=d.e+k:=wI O;generalize ckN d.neg (nm d) (d.e+k)=R at*;generalize cnN d.neg (nm d) (d.e+k)=C at*;clear hR hd;obtain⟨an,am,ax⟩:=d;obtain⟨⟨r1,r2,r3⟩,r4⟩:=R;obtain⟨c1,c2,c3⟩:=C;simp only at h122 hw;have h80:Fn 49 [] [.agg [.bool an,.sl .u32 am,.int .i64 ax]] (.bool true) []:=h80;have hc:Fn 172 [] [.agg [.bool c1,.sl .u32 c2,.int .i64 c3]] (dyV (⟨r1,r2,r3⟩,r4)) []:=hc;show Fn 97 G0 [.agg [.bool an,.sl .u32 am,.int .i64 ax],.int .i64 k] _ G0;refine fY6 Tryz.func97 rfl ?_;refine gYn h80 ?_;refine gYn h268 ?_;rw[hw];refine gYc h122 ?_;refine gYn hc ?_;exact⟨lr rfl,leG⟩
def wg(n:Int):Dy:=cnN (decide (n<0)) n.natAbs 0
theorem v77(n:Int)(h: -4611686018427387904<=n/\n<=4611686018427387904):Fn 112 G0 [.int .i64 n] (.agg (dyC (wg n))) G0:=by
 have key:∀X:Int,X=n.natAbs->Fn 173 G0 [.bool (decide (n<0)),.sl .u32 [qH.wrap X,qH.wrap (X.fdiv 4294967296)],.int .i64 0] (.agg (dyC (wg n))) G0:=by
  intro X hX;have e1:qH.wrap X=X % 4294967296:=by simp[qJ,qI,qK]
  have e2:qH.wrap (X.fdiv 4294967296)=X/4294967296:=by
   rw[Int.fdiv_eq_ediv_of_nonneg _ OA,zp7 O]
  rw[e1,e2];have hv:val [X % 4294967296,X/4294967296]=n.natAbs:=by
   rw[qg,qg];show(X % 4294967296).toNat +4294967296*((X/4294967296).toNat +4294967296*0)=n.natAbs;omega
  have h1:=v122 (decide (n<0)) [X % 4294967296,X/4294967296] 0 (fun z hz=>by
   simp only[List.mem_cons,List.not_mem_nil,or_false]at hz;rcases hz with rfl|rfl<;>omega) OC (by rw[hv];exact qF (vr.2 (O:n.natAbs<2^64)) OA) OA
  rw[hv]at h1;exact h1
 generalize wg n=R at*;refine fY6 Tryz.func112 rfl ?_;refine brI (fun h1=>?_) (fun h1=>?_)
 .have h1':n<0:=Z0 h1;have e:qL.wrap (0-qL.wrap n)=n.natAbs:=by
   simp[qJ,qI,qK];omega
  conv=>whnf
  refine⟨OA,?_⟩;conv=>whnf
  refine gYc (key _ e) ?_;exact⟨lr rfl,leG⟩
 .have h1':¬n<0:=Z3 h1;have e:qL.wrap n=n.natAbs:=by
   simp[qJ,qI,qK];omega
  conv=>whnf
  refine⟨OA,?_⟩;conv=>whnf
  refine gYc (key _ e) ?_;exact⟨lr rfl,leG⟩
structure RI(x:Iv):Prop where
 lo:LB x.lo.m
 hi:LB x.hi.m
 l1:x.lo.m.length<9223372036854775808
 l2:x.hi.m.length<9223372036854775808
def zrB(d:Dy):Bool:= !d.neg&&decide (d.m.length=0)&&decide (d.e=0)
def viB(x:Iv):Bool:=if x.all=true then zrB x.lo&&zrB x.hi else vB x.lo&&vB x.hi&&decide (wa x.lo x.hi<=0)
def kB(x:Iv):Bool:= !x.all&&viB x
structure KI(x:Iv):Prop where
 all:x.all=false
 lo:VD x.lo
 hi:VD x.hi
 le:wa x.lo x.hi<=0
def wI0:Iv:=⟨d0,d0,true⟩
def VI(x:Iv):Prop:=KI x\/x=wI0
theorem zzi{d:Dy}:zrB d=true<->d=d0:=by
 obtain⟨a,b,c⟩:=d;unfold zrB d0;simp only[q0,qC,Z4,List.length_eq_zero_iff,Dy.mk.injEq];constructor
 .rintro⟨⟨h1,h2⟩,h3⟩;exact⟨h1,h2,h3⟩
 .rintro⟨h1,h2,h3⟩;exact⟨⟨h1,h2⟩,h3⟩
theorem zw{x:Iv}(h:RI x):kB x=true<->KI x:=by
 unfold kB viB;constructor
 .intro e;simp only[q0,qC]at e;obtain⟨e1,e2⟩:=e;rw[Z7 (by rw[e1];simp)]at e2;simp only[q0,Z4]at e2;exact⟨e1,(jc h.lo).1 e2.1.1,(jc h.hi).1 e2.1.2,e2.2⟩
 .intro k;rw[k.all,Z7 OC,(jc h.lo).2 k.lo,(jc h.hi).2 k.hi,Z8 k.le];rfl
theorem zgb{x:Iv}(h:RI x):viB x=true<->VI x:=by
 by_cases ha:x.all=true
 .unfold viB VI;rw[Z6 ha];simp only[q0,zzi];constructor
  .rintro⟨h1,h2⟩;obtain⟨lo,hi,al⟩:=x;simp only at h1 h2 ha;subst h1 h2 ha;exact .inr rfl
  .rintro(k|rfl)
   .rw[k.all]at ha;cases ha
   .exact⟨rfl,rfl⟩
 .have e:viB x=kB x:=by unfold kB;rw[show x.all=false by simpa using ha];rfl
  rw[e,zw h];unfold VI;constructor
  .exact .inl
  .rintro(k|rfl)
   .exact k
   .exact absurd rfl ha
theorem KI.ri{x:Iv}(k:KI x):RI x:=⟨k.lo.lb,k.hi.lb,by have:=k.lo.len;omega,by have:=k.hi.len;omega⟩
theorem zkt:RI wI0:=⟨qv.lb,qv.lb,OA,OA⟩
theorem VI.ri{x:Iv}(k:VI x):RI x:=by
 rcases k with k|rfl
 .exact k.ri
 .exact zkt
theorem i79(d:Dy):Fn 91 [] [.agg (dyC d)] (.bool (zrB d)) []:=by
 obtain⟨R,hR⟩:∃R,zrB d=R:=⟨_,rfl⟩;rw[hR];unfold zrB at hR;obtain⟨d1,d2,d3⟩:=d;simp only at hR;show Fn 91 [] [.agg [.bool d1,.sl .u32 d2,.int .i64 d3]] _ [];refine fY6 Tryz.func91 rfl ?_
 cases d1 with
 |true=>
  conv=>whnf
  exact⟨ab0 hR,lh0⟩
 |false=>
  conv=>whnf
  refine brI (fun h1=>?_) (fun h1=>?_)
  .have h2:d2.length=0:=by have h1:((d2.length:Int)==0)=true:=h1;rw[beq_iff_eq]at h1;omega
   rw[Z8 h2]at hR;conv=>whnf
   exact⟨ab0 (by rw[<-hR];simp;rw[qD];simp),lh0⟩
  .have h2:¬d2.length=0:=by have h1:((d2.length:Int)==0)=false:=h1;rw[beq_eq_false_iff_ne]at h1;omega
   rw[Z9 h2]at hR;conv=>whnf
   exact⟨ab0 (by rw[<-hR];simp),lh0⟩
theorem i51(x:Iv)(h:RI x):Fn 52 [] [.agg (ivC x)] (.bool (viB x)) []:=by
 have hlo:=y80 x.lo h.lo h.l1;have hhi:=y80 x.hi h.hi h.l2;have zlo:=i79 x.lo;have zhi:=i79 x.hi;have hc:vB x.lo=true->vB x.hi=true->Fn 53 [] [.agg (dyC x.lo),.agg (dyC x.hi)] (.int .i64 (wa x.lo x.hi)) []:=fun h1 h2=>v81 ((jc h.lo).1 h1) ((jc h.hi).1 h2)
 obtain⟨R,hR⟩:∃R,viB x=R:=⟨_,rfl⟩;rw[hR];unfold viB at hR;generalize vB x.lo=a at*;generalize vB x.hi=b at*;generalize zrB x.lo=c at*;generalize zrB x.hi=d at*;generalize wa x.lo x.hi=C at*;clear h;obtain⟨⟨x1,x2,x3⟩,⟨x4,x5,x6⟩,x7⟩:=x;simp only at hR;have hlo:Fn 49 [] [.agg [.bool x1,.sl .u32 x2,.int .i64 x3]] (.bool a) []:=hlo;have hhi:Fn 49 [] [.agg [.bool x4,.sl .u32 x5,.int .i64 x6]] (.bool b) []:=hhi;have zlo:Fn 91 [] [.agg [.bool x1,.sl .u32 x2,.int .i64 x3]] (.bool c) []:=zlo;have zhi:Fn 91 [] [.agg [.bool x4,.sl .u32 x5,.int .i64 x6]] (.bool d) []:=zhi;have hc:a=true->b=true->Fn 53 [] [.agg [.bool x1,.sl .u32 x2,.int .i64 x3],.agg [.bool x4,.sl .u32 x5,.int .i64 x6]] (.int .i64 C) []:=hc;show Fn 52 [] [.agg [.bool x1,.sl .u32 x2,.int .i64 x3,.bool x4,.sl .u32 x5,.int .i64 x6,.bool x7]] _ [];refine fY6 Tryz.func52 rfl ?_
 cases x7 with
 |true=>
  rw[Z6 rfl]at hR
  cases c with
  |false=>
   conv=>whnf
   refine gYn zlo ?_;exact⟨ab0 hR,lh0⟩
  |true=>
   conv=>whnf
   refine gYn zlo ?_;refine gYn zhi ?_;exact⟨ab0 (by rw[<-hR,Bool.true_and]),lh0⟩
 |false=>
  rw[Z7 OC]at hR
  cases a with
  |false=>
   conv=>whnf
   refine gYn hlo ?_;exact⟨ab0 (by rw[<-hR];rfl),lh0⟩
  |true=>
   cases b with
   |false=>
    conv=>whnf
    refine gYn hlo ?_;refine gYn hhi ?_;exact⟨ab0 (by rw[<-hR];rfl),lh0⟩
   |true=>
    conv=>whnf
    refine gYn hlo ?_;refine gYn hhi ?_;refine gYn (hc rfl rfl) ?_;exact⟨ab0 (by rw[<-hR];rfl),lh0⟩
theorem zni(l:List Iv)(hl:l.length<=1000000)(h:∀x∈l,RI x):Fn 94 [] [.sl .iv l] (.bool (l.all kB)) []:=by
 obtain⟨A,hA⟩:∃A,l.all kB=A:=⟨_,rfl⟩;rw[hA];refine fY6 Tryz.func94 rfl ?_;refine⟨Nat,fun i=>i<=l.length/\(l.drop i).all kB=A,fun i=> [(7,.int .i64 i)],fun _=> [],fun i=>l.length-i,0,⟨OC,by simpa using hA⟩,?_,fun i hi=>?_⟩
 .exact KZ0
 refine gYe ?_;obtain⟨hi1,hi2⟩:=hi;refine brI (fun h1=>?_) (fun h1=>?_)
 .conv=>whnf
  have hi:i<l.length:=by simp only[Z4]at h1;omega
  refine⟨⟨O,O⟩,fun(x:Iv)hx=>?_⟩;have hx:l[i]? =some x:=by simpa using hx
  have hr:=h x (List.mem_of_getElem? hx);have h51:=i51 x hr;rw[qh hx,List.all_cons]at hi2;have hk:kB x=(!x.all&&viB x):=rfl;generalize kB x=K at*;generalize viB x=V at*;clear hr;obtain⟨⟨x1,x2,x3⟩,⟨x4,x5,x6⟩,x7⟩:=x;have h51:Fn 52 [] [.agg [.bool x1,.sl .u32 x2,.int .i64 x3,.bool x4,.sl .u32 x5,.int .i64 x6,.bool x7]] (.bool V) []:=h51;simp only at hk;conv=>whnf
  cases x7 with
  |true=>
   rw[hk]at hi2;subst hi2;conv=>whnf
   exact⟨lr rfl,lh0⟩
  |false=>
   cases V with
   |false=>
    rw[hk]at hi2;subst hi2;conv=>whnf
    refine gYn h51 ?_;exact⟨lr rfl,lh0⟩
   |true=>
    rw[hk]at hi2;conv=>whnf
    refine gYn h51 ?_;refine⟨i+1,⟨O,by simpa using hi2⟩,by show l.length-(i+1)<l.length-i;omega,?_⟩;exact KZ0
 .have hi:¬i<l.length:=by simp only[Z5]at h1;omega
  rw[List.drop_of_length_le O]at hi2;conv=>whnf
  exact⟨ab0 hi2,lh0⟩
theorem zwz(p:Int):Fn 95 [] [.int .i64 p] (.bool (pcB p)) []:=by
 refine fY6 Tryz.func95 rfl ?_;refine brI (fun h1=>?_) (fun h1=>?_)
 .have h1:8<=p:=by simpa using h1
  conv=>whnf
  exact⟨ab0 (by simp[pcB,h1]),lh0⟩
 .have h1:¬8<=p:=by simpa using h1
  conv=>whnf
  exact⟨ab0 (by simp[pcB,h1]),lh0⟩
theorem leW{h h':Hp}:leA h h' (.agg [.bool false,.nilsl,.int .i64 0,.bool false,.nilsl,.int .i64 0,.bool true]) (.agg (ivC wI0)):=
 lg0 (lc (lr rfl) (lc (li0 rfl) (lc (lr rfl) (lc (lr rfl) (lc (li0 rfl) (lc (lr rfl) (lc (lr rfl) ln0)))))))
theorem i25:Fn 50 [] [] (.agg (ivC wI0)) []:=by
 refine fY6 Tryz.func50 rfl ?_;exact⟨leW,lh0⟩
def vl(a b:Dy×Int):Iv:=if a.2≠0\/b.2≠0 then wI0 else⟨a.1,b.1,false⟩
theorem qc2(a b:Dy×Int):Fn 100 [] [.agg (dyC a.1),.int .i64 a.2,.agg (dyC b.1),.int .i64 b.2] (.agg (ivC (vl a b))) []:=by
 obtain⟨R,hR⟩:∃R,vl a b=R:=⟨_,rfl⟩;rw[hR];unfold vl at hR;have h25:=i25;have e25:ivC wI0= [.bool false,.sl .u32 [],.int .i64 0,.bool false,.sl .u32 [],.int .i64 0,.bool true]:=rfl;rw[e25]at h25;obtain⟨⟨a1,a2,a3⟩,e⟩:=a;obtain⟨⟨b1,b2,b3⟩,f⟩:=b;simp only at hR;refine fY6 Tryz.func100 rfl ?_;refine brI (fun h1=>?_) (fun h1=>?_)
 .have h1:e≠0:=by simpa using h1
  rw[Z6 (.inl h1)]at hR;subst hR;conv=>whnf
  refine gYn h25 ?_;exact⟨lr rfl,lh0⟩
 have h1:e=0:=by simpa using h1
 conv=>whnf
 refine brI (fun h2=>?_) (fun h2=>?_)
 .have h2:f≠0:=by simpa using h2
  rw[Z6 (.inr h2)]at hR;subst hR;conv=>whnf
  refine gYn h25 ?_;exact⟨lr rfl,lh0⟩
 have h2:f=0:=by simpa using h2
 rw[Z7 (by simp[h1,h2])]at hR;subst hR;conv=>whnf
 exact⟨lr rfl,lh0⟩
theorem yt{d:Dy}(h:VD d):VD (jp d):=by
 unfold jp;split
 .exact qv
 .rename_i h0;refine⟨h.eq,.inr ?_⟩;rcases h.ok with ⟨h1,_⟩|h1
  .exact absurd h1 h0
  .exact h1
theorem zb4{d:Dy}(h:VD d):VD (yq d):=by
 refine⟨h.eq,?_⟩;rcases h.ok with ⟨h1,h2,h3⟩|h1
 .exact .inl ⟨h1,rfl,h3⟩
 .exact .inr h1
theorem zhr(neg:Bool)(m:Nat)(e:Int)(more up:Bool)(p:Nat)(hp:8<=p/\p<=512):VD (xi neg m e more p up).1:=by
 have h:=znn m e more (up != neg) p hp;unfold xi;split
 .exact yt h
 .exact h
theorem jk(d:Dy)(up:Bool)(p:Nat)(hp:8<=p/\p<=512):VD (qm d p up).1:=zhr _ _ _ _ _ _ hp
theorem zac(a b:Dy)(up:Bool)(p:Nat)(hp:8<=p/\p<=512):VD (ug a b p up).1:=zhr _ _ _ _ _ _ hp
theorem zc5(a b:Dy)(up:Bool)(p:Nat)(hp:8<=p/\p<=512):VD (zbv a b p up).1:=by
 unfold zbv;split
 .exact qv
 .exact zhr _ _ _ _ _ _ hp
theorem zjc(a b:Dy)(up:Bool)(p:Nat)(hp:8<=p/\p<=512):VD (zay a b p up).1:=by
 unfold zay;split
 .exact jk _ _ _ hp
 .split
  .exact jk _ _ _ hp
  .unfold qb9;split
   .exact qv
   .exact zhr _ _ _ _ _ _ hp
theorem zuz(d:Dy)(up:Bool)(p:Nat)(hp:8<=p/\p<=512):VD (ku d p up).1:=by
 unfold ku;split
 .exact qv
 .exact znn _ _ _ _ _ hp
theorem VD_ck(neg:Bool)(n:Nat)(e:Int):VD (ckN neg n e).1:=by
 unfold ckN;split
 .rename_i h;exact zhs h
 .exact qv
theorem zab(d:Dy)(k:Int):VD (ql d k).1:=by
 unfold ql;split
 .exact qv
 .exact VD_ck _ _ _
theorem ux{p:Int}:pcB p=true<->∃q:Nat,p=q/\8<=q/\q<=512:=by
 unfold pcB;simp only[q0,Z4];constructor
 .intro h;exact⟨p.toNat,O,O,O⟩
 .rintro⟨q,rfl,h⟩;omega
theorem e25:ivC wI0= [.bool false,.sl .u32 [],.int .i64 0,.bool false,.sl .u32 [],.int .i64 0,.bool true]:=rfl
theorem k1(x:Iv): [x].all kB=kB x:=OC
theorem k2(x y:Iv): [x,y].all kB=(kB x&&kB y):=OC
def zbm(x:Iv):Iv:=if kB x=true then⟨jp x.hi,jp x.lo,false⟩else wI0
theorem i86(x:Iv)(h:RI x):Fn 104 [] [.agg (ivC x)] (.agg (ivC (zbm x))) []:=by
 have h126:=zni [x] OC (by simpa using h);rw[k1]at h126;have h25:=i25;rw[e25]at h25;by_cases hk:kB x=true
 .have k:=(zw h).1 hk;have hR:zbm x=⟨jp x.hi,jp x.lo,false⟩:=by unfold zbm;rw[Z6 hk]
  rw[hR];rw[hk]at h126;have n1:Fn 175 [] [.agg (dyC x.lo)] (.agg (dyC (jp x.lo))) []:=zzq k.lo;have n2:Fn 175 [] [.agg (dyC x.hi)] (.agg (dyC (jp x.hi))) []:=zzq k.hi;generalize jp x.lo=a at*;generalize jp x.hi=b at*;clear hR k hk h;refine fY6 Tryz.func104 rfl ?_;refine gYn h126 ?_;refine gYn n2 ?_;refine gYn n1 ?_;refine gYd ?_;exact⟨lr rfl,lh0⟩
 .have hR:zbm x=wI0:=by unfold zbm;rw[Z7 hk]
  rw[hR];rw[show kB x=false by simpa using hk]at h126;clear hR hk h;refine fY6 Tryz.func104 rfl ?_;refine gYn h126 ?_;refine gYn h25 ?_;exact⟨lr rfl,lh0⟩
def zct(x:Iv):Int:=if kB x=true then(if 0<qs x.lo then 1 else if qs x.hi<0 then-1 else 0)else 0
theorem i134(x:Iv)(h:RI x):Fn 180 [] [.agg (ivC x)] (.int .i64 (zct x)) []:=by
 have h126:=zni [x] OC (by simpa using h);rw[k1]at h126;by_cases hk:kB x=true
 .have k:=(zw h).1 hk;have hR:zct x=(if 0<qs x.lo then 1 else if qs x.hi<0 then-1 else 0):=by unfold zct;rw[Z6 hk]
  rw[hk]at h126;have n1:=zq9 k.lo;have n2:=zq9 k.hi;generalize zct x=R at*;generalize qs x.lo=a at*;generalize qs x.hi=b at*;clear k hk h;refine fY6 Tryz.func180 rfl ?_;refine gYn h126 ?_;refine gYn n1 ?_;refine brI (fun h1=>?_) (fun h1=>?_)
  .have h1:0<a:=Z0 h1;rw[Z6 h1]at hR;subst hR;conv=>whnf
   exact⟨lr rfl,lh0⟩
  have h1:¬0<a:=Z3 h1;rw[Z7 h1]at hR;conv=>whnf
  refine gYn n2 ?_;refine brI (fun h2=>?_) (fun h2=>?_)
  .have h2:b<0:=Z0 h2;rw[Z6 h2]at hR;subst hR;conv=>whnf
   exact⟨lr rfl,lh0⟩
  .have h2:¬b<0:=Z3 h2;rw[Z7 h2]at hR;subst hR;conv=>whnf
   exact⟨lr rfl,lh0⟩
 .have hR:zct x=0:=by unfold zct;rw[Z7 hk]
  rw[hR];rw[show kB x=false by simpa using hk]at h126;clear hR hk h;refine fY6 Tryz.func180 rfl ?_;refine gYn h126 ?_;exact⟨lr rfl,lh0⟩
def qt(d:Dy):Iv:=⟨d,d,false⟩
theorem zyr{d:Dy}(h:VD d):Fn 20 [] [.agg (dyC d)] (.agg (ivC (qt d))) []:=by
 have h80:=v80 h;clear h;refine fY6 Tryz.func20 rfl ?_;refine gYn h80 ?_;exact⟨lr rfl,lh0⟩
def kp(x y:Iv)(p:Int):Iv:=if(kB x&&kB y)=true/\pcB p=true then vl (zay x.lo y.lo p.toNat false) (zay x.hi y.hi p.toNat true)else wI0
theorem i82(x y:Iv)(hx:RI x)(hy:RI y)(p:Int):Fn 57 G0 [.agg (ivC x),.agg (ivC y),.int .i64 p] (.agg (ivC (kp x y p))) G0:=by
 have h126:=zni [x,y] OC (by simpa using⟨hx,hy⟩);rw[k2]at h126;have h127:=zwz p;have h25:=i25;rw[e25]at h25;by_cases hk:(kB x&&kB y)=true
 .rw[hk]at h126;by_cases hp:pcB p=true
  .rw[hp]at h127;have hR:kp x y p=vl (zay x.lo y.lo p.toNat false) (zay x.hi y.hi p.toNat true):=by unfold kp;rw[Z6 ⟨hk,hp⟩]
   rw[hR];rw[q0]at hk;have kx:=(zw hx).1 hk.1;have ky:=(zw hy).1 hk.2;obtain⟨q,rfl,hq⟩:=ux.1 hp;rw[Int.toNat_natCast];have n1:=v128 kx.lo ky.lo q hq;have n2:=v129 kx.hi ky.hi q hq;have h130:=qc2 (zay x.lo y.lo q false) (zay x.hi y.hi q true);generalize vl (zay x.lo y.lo q false) (zay x.hi y.hi q true)=M at*;generalize zay x.lo y.lo q false=A at*;generalize zay x.hi y.hi q true=B at*;clear hR hk kx ky hx hy;obtain⟨⟨a1,a2,a3⟩,e⟩:=A;obtain⟨⟨b1,b2,b3⟩,f⟩:=B;refine fY6 Tryz.func57 rfl ?_;refine gYn h126 ?_;refine gYn h127 ?_;refine gYc n1 ?_;refine gYc n2 ?_;refine gYn h130 ?_;exact⟨lr rfl,leG⟩
  .have hR:kp x y p=wI0:=by unfold kp;rw[Z7 fun c=>hp c.2]
   rw[hR];rw[show pcB p=false by simpa using hp]at h127;clear hR hk hx hy;refine fY6 Tryz.func57 rfl ?_;refine gYn h126 ?_;refine gYn h127 ?_;refine gYn h25 ?_;exact⟨lr rfl,leG⟩
 .have hR:kp x y p=wI0:=by unfold kp;rw[Z7 fun c=>hk c.1]
  rw[hR];rw[show(kB x&&kB y)=false by simpa using hk]at h126;clear hR hk hx hy;refine fY6 Tryz.func57 rfl ?_;refine gYn h126 ?_;refine gYn h25 ?_;exact⟨lr rfl,leG⟩
theorem zm4{x:Iv}(h:RI x):RI (zbm x):=by
 unfold zbm;split
 .rename_i hk;have k:=(zw h).1 hk;have h1:=yt k.hi;have h2:=yt k.lo;exact⟨h1.lb,h2.lb,by have:=h1.len;simp only;omega,by have:=h2.len;simp only;omega⟩
 .exact zkt
def zes(x y:Iv)(p:Int):Iv:=kp x (zbm y) p
theorem i83(x y:Iv)(hx:RI x)(hy:RI y)(p:Int):Fn 59 G0 [.agg (ivC x),.agg (ivC y),.int .i64 p] (.agg (ivC (zes x y p))) G0:=by
 have h86:=i86 y hy;have h82:=i82 x (zbm y) hx (zm4 hy) p;unfold zes;generalize kp x (zbm y) p=M at*;generalize zbm y=N at*;clear hx hy;refine fY6 Tryz.func59 rfl ?_;refine gYn h86 ?_;refine gYc h82 ?_;refine gYd ?_;exact⟨lr rfl,leG⟩
