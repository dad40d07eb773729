/-
  Rounding: quotients, square roots.
-/
import Derived.Test.YtbolipecnhlnnaaGreatDoorRYr
set_option linter.unusedVariables false
set_option linter.unusedSimpArgs false
open And renaming intro->q9
open Bool renaming and_eq_true->q7,not_eq_true'->qA,eq_iff_iff->qB
open Nat renaming div_le_self->qd,zero_mul->qn,sub_le->qC
namespace Go.Proofs.YtbolipecnhlnnaaGreatDoor
open Go Go.Sx
set_option maxRecDepth 100000
set_option maxHeartbeats 8000000
def zaf (a b:Dy) (p:Nat):Nat:=p+3+bl (nm b)-bl (nm a)
def kq (a b:Dy) (p:Nat) (up:Bool):Dy×Int:=
 if nm b=0 then(d0,10)else zay (a.neg != b.neg) (nm a*2^zaf a b p/nm b) (a.e-zaf a b p-b.e) (decide (nm a*2^zaf a b p % nm b≠0)) p up
theorem zi1 (n:Nat):decide ((bl n:Int)>0)=decide (n≠0):=by
 rw[qB];simp only[decide_eq_true_eq];constructor
 ·intro h e;subst e;simp[kv]at h
 ·intro h;have hb:bl n≠0:=fun e=>h (xn.1 e)
  omega
theorem v121 {a b:Dy} (ha:VD a) (hb:VD b) (up:Bool) (p:Nat) (hp:8<=p/\p<=512):Fn 343 G0 [.agg (dyC a),.agg (dyC b),.int .i64 p,.bool up] (dyV (kq a b p up)) G0:=by
 have a1:=ha.bits;have b1:=hb.bits;have a2:=ha.exp;have b2:=hb.exp;have h164:=qed (p:=p) (l:= [a,b]) hp (by simp) (by simpa using⟨ha,hb⟩);have h165a:=v165 ha;have h165b:=v165 hb;have hz:nm b≠0->nm a=0->kq a b p up=(d0,0):=fun h0 h=>by
  unfold kq zaf;rw[if_neg h0,h];have e1:0*2^(p+3+bl (nm b)-bl 0)=0:=qn _;rw[e1,Nat.zero_div,Nat.zero_mod];refine zkv _ _ _ _ ?_;rcases ha.ok with ⟨_,_,h3⟩|⟨h3,_⟩<;>omega
 have hz0:nm b=0->kq a b p up=(d0,10):=fun h=>by unfold kq;rw[if_pos h]
 have hk:bl (nm a*2^zaf a b p)<=8192:=by
  by_cases h:nm a=0
  ·rw[h,qn];decide
  ·rw[ql _ _ h];unfold zaf;omega
 have hkb:zaf a b p<=8000:=by unfold zaf;omega
 have hke:(if IntKind.i64.wrap (IntKind.i64.wrap (IntKind.i64.wrap ((p:Int)+3)+(bl (nm b):Int))-(bl (nm a):Int))>0 then IntKind.i64.wrap (IntKind.i64.wrap (IntKind.i64.wrap ((p:Int)+3)+(bl (nm b):Int))-(bl (nm a):Int))else 0)=((zaf a b p:Nat):Int):=by
  rw[wI (x:=(p:Int)+3) (by omega),wI (x:=(p:Int)+3+(bl (nm b):Int)) (by omega),wI (by omega)];unfold zaf;split<;>omega
 have h167:=qdj (nm a) (zaf a b p) (by omega) hk (by omega);have h166:=y166 (nm a*2^zaf a b p) (nm b) (by omega) (by omega);rw[if_neg (by omega)]at h166;have hq:bl (nm a*2^zaf a b p/nm b)<=8192:=by have:=zu (qd (nm a*2^zaf a b p) (nm b));omega
 have hr:bl (nm a*2^zaf a b p % nm b)<=8192:=by have:=zu (Nat.mod_le (nm a*2^zaf a b p) (nm b));omega
 have h169:=qdi (nm a*2^zaf a b p % nm b) (by omega);have h168:=v168 (a.neg != b.neg) (nm a*2^zaf a b p/nm b) (a.e-zaf a b p-b.e) (decide (nm a*2^zaf a b p % nm b≠0)) up p (by omega) (by omega) hp;rw[←zi1]at h168;have hR:nm b≠0->zay (a.neg != b.neg) (nm a*2^zaf a b p/nm b) (a.e-zaf a b p-b.e) (decide ((bl (nm a*2^zaf a b p % nm b):Int)>0)) p up=kq a b p up:=fun h=>by unfold kq;rw[if_neg h,←zi1]
 have hw:IntKind.i64.wrap (IntKind.i64.wrap (a.e-(zaf a b p:Int))-b.e)=a.e-zaf a b p-b.e:=by rw[wI (x:=a.e-(zaf a b p:Int)) (by omega),wI (by omega)]
 have ae:=ha.eq;have be:=hb.eq;generalize kq a b p up=R at*;generalize zaf a b p=k at*;generalize nm a=x at*;generalize nm b=y at*;obtain⟨an,am,ax⟩:=a;obtain⟨bn,bm,bx⟩:=b;simp only at ae be a2 b2 h168 hR hw;subst ae be;by_cases hy0:y=0
 ·rw[hz0 hy0];subst hy0;rw[jk]at*;refine fnT hT6 hmx Tryz.func343 rfl rfl (ex:= []) ?_;conv=>whnf
  refine gZn h164 ?_;conv=>whnf
  exact⟨zq4,leG⟩
 rw[hR hy0]at h168;rw[if_neg hy0]at h166;by_cases hx0:x=0
 ·rw[hz hy0 hx0];subst hx0;rw[jk]at*;refine fnT hT6 hmx Tryz.func343 rfl rfl (ex:= []) ?_;conv=>whnf
  refine gZn h164 ?_;conv=>whnf
  refine brI (fun h6=>?_) (fun h6=>?_)
  ·have h6:(((toL y).length :Int)==0)=true:=h6;rw[zct hy0]at h6;cases h6
  conv=>whnf
  exact⟨zq4,leG⟩
 obtain⟨⟨r1,r2,r3⟩,r4⟩:=R;refine fnT hT6 hmx Tryz.func343 rfl rfl (ex:= []) ?_;conv=>whnf
 refine gZn h164 ?_;conv=>whnf
 refine brI (fun h6=>?_) (fun h6=>?_)
 ·have h6:(((toL y).length :Int)==0)=true:=h6;rw[zct hy0]at h6;cases h6
 conv=>whnf
 refine brI (fun h6=>?_) (fun h6=>?_)
 ·have h6:(((toL x).length :Int)==0)=true:=h6;rw[zct hx0]at h6;cases h6
 conv=>whnf
 refine gZn h165b ?_;conv=>whnf
 refine gZn h165a ?_;conv=>whnf
 (refine⟨by kernel_rfl,by kernel_rfl,?_⟩;(conv=>whnf))
 rw[hke];refine gZn h167 ?_;conv=>whnf
 refine gZn h166 ?_;conv=>whnf
 (refine⟨by kernel_rfl,by kernel_rfl,?_⟩;(conv=>whnf))
 refine gZn h169 ?_;conv=>whnf
 rw[hw];refine gZc h168 ?_;conv=>whnf
 (refine⟨by kernel_rfl,by kernel_rfl,?_⟩;(conv=>whnf))
 exact⟨lr rfl,leG⟩
def sqK (d:Dy) (p:Nat):Nat:=if(d.e-(2*p+4-bl (nm d):Nat)) % 2=0 then 2*p+4-bl (nm d)else 2*p+4-bl (nm d)+1
def uj (d:Dy) (p:Nat) (up:Bool):Dy×Int:=
 if nm d=0 then(d0,0)else zbu (sqN (nm d*2^sqK d p)) ((d.e-sqK d p)/2) (decide (sqN (nm d*2^sqK d p)*sqN (nm d*2^sqK d p)≠nm d*2^sqK d p)) p up
theorem v204 {d:Dy} (hd:VD d) (hn:d.neg=false) (up:Bool) (p:Nat) (hp:8<=p/\p<=512):Fn 384 G0 [.agg (dyC d),.int .i64 p,.bool up] (dyV (uj d p up)) G0:=by
 have a1:=hd.bits;have a2:=hd.exp;have h164:=qed (p:=p) (l:= [d]) hp (by simp) (by simpa using hd);have h165:=v165 hd;have hz:nm d=0->uj d p up=(d0,0):=fun h=>by unfold uj;rw[if_pos h]
 have hR:nm d≠0->uj d p up=zbu (sqN (nm d*2^sqK d p)) ((d.e-sqK d p)/2) (decide (sqN (nm d*2^sqK d p)*sqN (nm d*2^sqK d p)≠nm d*2^sqK d p)) p up:=fun h=>by unfold uj;rw[if_neg h]
 obtain⟨k0,hk0⟩: ∃k0,2*p+4-bl (nm d)=k0:=⟨_,rfl⟩;have hk0e:(if IntKind.i64.wrap (IntKind.i64.wrap (IntKind.i64.wrap (2*(p:Int))+4)-(bl (nm d):Int))>0 then IntKind.i64.wrap (IntKind.i64.wrap (IntKind.i64.wrap (2*(p:Int))+4)-(bl (nm d):Int))else 0)=((k0:Nat):Int):=by
  rw[wI (x:=2*(p:Int)) (by omega),wI (x:=2*(p:Int)+4) (by omega),wI (by omega)];split<;>omega
 have hkk:sqK d p=if(d.e-k0) % 2=0 then k0 else k0+1:=by unfold sqK;rw[hk0]
 have hkb:sqK d p<=2*p+5:=by rw[hkk];split<;>omega
 have hpar:(d.e-sqK d p) % 2=0:=by rw[hkk];split<;>omega
 have hbits:bl (nm d*2^sqK d p)<=5200:=by
  by_cases h:nm d=0
  ·rw[h,qn];decide
  ·rw[ql _ _ h];omega
 have h167:=qdj (nm d) (sqK d p) (by omega) (by omega) (by omega);have hsb:bl (sqN (nm d*2^sqK d p))<=4000:=by
  obtain⟨h1,_⟩:=zi9 (nm d*2^sqK d p);exact bl_sq h1 (k:=4000) (by omega)
 have hss:bl (sqN (nm d*2^sqK d p)*sqN (nm d*2^sqK d p))<=8192:=by have:=zbw (sqN (nm d*2^sqK d p)) (sqN (nm d*2^sqK d p));omega
 have h246:=y246 (nm d*2^sqK d p) (by omega);rw[if_neg (by omega)]at h246;have h225:=qd9 (sqN (nm d*2^sqK d p)) (sqN (nm d*2^sqK d p)) (by omega) (by omega) hss;have h177:=qeb (sqN (nm d*2^sqK d p)*sqN (nm d*2^sqK d p)) (nm d*2^sqK d p) (by omega) (by omega);have hne:=zti (sqN (nm d*2^sqK d p)*sqN (nm d*2^sqK d p)) (nm d*2^sqK d p);have h219:=v219 (sqN (nm d*2^sqK d p)) ((d.e-sqK d p)/2) (decide (sqN (nm d*2^sqK d p)*sqN (nm d*2^sqK d p)≠nm d*2^sqK d p)) up p (by omega) (by omega) hp;rw[←hne]at h219 hR;have hw:IntKind.i64.wrap ((IntKind.i64.wrap (d.e-(sqK d p:Int))).tdiv 2)=(d.e-sqK d p)/2:=by
  rw[wI (x:=d.e-(sqK d p:Int)) (by omega)];obtain⟨t,ht⟩: ∃t,d.e-(sqK d p:Int)=t*2:=⟨(d.e-sqK d p)/2,by omega⟩;rw[ht,Int.mul_tdiv_cancel _ (by decide),wI (by omega)];omega
 have hk1: ∀z:Int,z=IntKind.i64.wrap (d.e-(k0:Int))->((z.tmod 2 != 0)=true->IntKind.i64.wrap ((k0:Int)+1)=((sqK d p:Nat):Int))/\((z.tmod 2 != 0)=false->(k0:Int)=((sqK d p:Nat):Int)):=by
  intro z hz;rw[wI (by omega)]at hz;subst hz;rw[hkk,bne_iff_ne,bne_eq_false_iff_eq];have ht:(d.e-(k0:Int)).tmod 2=0<->(d.e-(k0:Int)) % 2=0:=by
   constructor
   ·intro h;have:=Int.dvd_of_tmod_eq_zero h;omega
   ·intro h;exact Int.tmod_eq_zero_of_dvd (by omega)
  constructor
  ·intro h;rw[if_neg fun c=>h (ht.2 c),wI (by omega)];omega
  ·intro h;rw[if_pos (ht.1 h)]
 have ae:=hd.eq;generalize uj d p up=R at*;generalize sqN (nm d*2^sqK d p)=s at*;generalize nm d*2^sqK d p=m at*;generalize sqK d p=k at*;generalize nm d=x at*;obtain⟨an,am,ax⟩:=d;simp only at ae a2 h219 hR hw hn hk1;subst ae hn;by_cases hx0:x=0
 ·rw[hz hx0];subst hx0;rw[jk]at*;refine fnT hT6 hmx Tryz.func384 rfl rfl (ex:= []) ?_;conv=>whnf
  refine gZn h164 ?_;conv=>whnf
  exact⟨zq4,leG⟩
 rw[←hR hx0]at h219;obtain⟨⟨r1,r2,r3⟩,r4⟩:=R;refine fnT hT6 hmx Tryz.func384 rfl rfl (ex:= []) ?_;conv=>whnf
 refine gZn h164 ?_;conv=>whnf
 refine brI (fun h6=>?_) (fun h6=>?_)
 ·have h6:(((toL x).length :Int)==0)=true:=h6;rw[zct hx0]at h6;cases h6
 conv=>whnf
 refine gZn h165 ?_;conv=>whnf
 rw[hk0e];refine⟨by decide,?_⟩;conv=>whnf
 obtain⟨hka,hkb2⟩:=hk1 _ rfl;refine brI (fun h6=>?_) (fun h6=>?_)
 ·have e:=hka h6;conv=>whnf
  rw[e];refine gZn h167 ?_;conv=>whnf
  refine gZn h246 ?_;conv=>whnf
  refine gZn h225 ?_;conv=>whnf
  refine⟨by decide,?_⟩;conv=>whnf
  refine gZn h177 ?_;conv=>whnf
  rw[hw];refine gZc h219 ?_;conv=>whnf
  (refine⟨by kernel_rfl,by kernel_rfl,?_⟩;(conv=>whnf))
  exact⟨lr rfl,leG⟩
 ·have e:=hkb2 h6;conv=>whnf
  rw[e];refine gZn h167 ?_;conv=>whnf
  refine gZn h246 ?_;conv=>whnf
  refine gZn h225 ?_;conv=>whnf
  refine⟨by decide,?_⟩;conv=>whnf
  refine gZn h177 ?_;conv=>whnf
  rw[hw];refine gZc h219 ?_;conv=>whnf
  (refine⟨by kernel_rfl,by kernel_rfl,?_⟩;(conv=>whnf))
  exact⟨lr rfl,leG⟩
def jz (a b:Dy) (p:Nat):Int:=if zg a-zg b<=2 then min (min a.e (zg a-p-8)) b.e else min a.e (zg a-p-8)
def zhq (a b:Dy) (p:Nat):(Nat×Int×Bool)×Bool:=
 if a.neg=b.neg then((nm a*2^(a.e-jz a b p).toNat +(jg (nm b) b.e false (jz a b p)).1,jz a b p,(jg (nm b) b.e false (jz a b p)).2),false)
 else if nm a*2^(a.e-jz a b p).toNat <upN (jg (nm b) b.e false (jz a b p)) true then((upN (jg (nm b) b.e false (jz a b p)) true-nm a*2^(a.e-jz a b p).toNat,jz a b p,false),true)
 else((nm a*2^(a.e-jz a b p).toNat -upN (jg (nm b) b.e false (jz a b p)) true,jz a b p,(jg (nm b) b.e false (jz a b p)).2),false)
theorem v263 (x y:Nat) (hx:bl x<=8190) (hy:bl y<=8190):Fn 320 [] [.sl .u32 (toL x),.sl .u32 (toL y)] (dnV (toL (x+y),0)) []:=by
 have h:=y263 x y (by omega) (by omega);have hs:bl (x+y)<=8191:=by
  exact zhd hx hy
 rw[if_neg (by omega)]at h;unfold dnN at h
 rwa [if_neg (by omega)]at h
theorem v264 (x y:Nat) (hx:bl x<=8192) (hy:bl y<=8192) (h:y<=x):Fn 321 [] [.sl .u32 (toL x),.sl .u32 (toL y)] (dnV (toL (x-y),0)) []:=by
 have h264:=y264 x y (by omega) (by omega);have:=zu (qC x y);rw[if_neg (by omega),if_neg (by omega)]at h264;unfold dnN at h264
 rwa [if_neg (by omega)]at h264
theorem zna {a b:Dy} {p:Nat} (ha:VD a) (hb:VD b) (h0:nm a≠0) (hle:zg b<=zg a) (hb0:nm b≠0) (hp:8<=p/\p<=512):
 jz a b p<=a.e/\zg a-4200<=jz a b p/\ -40000<=jz a b p/\jz a b p<=16384:=by
 have a1:=ha.bits;have b1:=hb.bits;have a2:=ha.exp;have b2:=hb.exp;have ta:zg a=bl (nm a)+a.e:=by unfold zg;rw[if_neg h0]
 have tb:zg b=bl (nm b)+b.e:=by unfold zg;rw[if_neg hb0]
 unfold jz;split<;>omega
theorem v224 {a b:Dy} (ha:VD a) (hb:VD b) (ha0:nm a≠0) (hb0:nm b≠0) (hle:zg b<=zg a) (p:Nat) (hp:8<=p/\p<=512):
 Fn 232 [] [.agg (dyC a),.agg (dyC b),.int .i64 p] (.tup [.agg (xcC (zhq a b p).1.1 (zhq a b p).1.2.1 (zhq a b p).1.2.2),.bool (zhq a b p).2]) []:=by
 have a1:=ha.bits;have b1:=hb.bits;have a2:=ha.exp;have b2:=hb.exp;have h176a:=zn6 ha;have h176b:=zn6 hb;obtain⟨l1,l2,l3,l4⟩:=zna ha hb ha0 hle hb0 hp;have ta:zg a=bl (nm a)+a.e:=by unfold zg;rw[if_neg ha0]
 have tb:zg b=bl (nm b)+b.e:=by unfold zg;rw[if_neg hb0]
 have xb:bl (nm a*2^(a.e-jz a b p).toNat)<=4200:=by rw[ql _ _ ha0];omega
 have fb:bl (jg (nm b) b.e false (jz a b p)).1<=4200:=by
  unfold jg;split
  ·simp only;rw[ql _ _ hb0];omega
  ·simp only;have:=zu (qd (nm b) (2^(jz a b p-b.e).toNat));omega
 have hf1:jz a b p<=b.e->jg (nm b) b.e false (jz a b p)=(nm b*2^(b.e-jz a b p).toNat,false):=fun h=>by unfold jg;rw[if_pos h]
 have hf2: ¬jz a b p<=b.e->jg (nm b) b.e false (jz a b p)=(nm b/2^(jz a b p-b.e).toNat,decide (nm b % 2^(jz a b p-b.e).toNat ≠0)):=fun h=>by unfold jg;rw[if_neg h,Bool.false_or]
 have g1:IntKind.i64.wrap (a.e-jz a b p)=(((a.e-jz a b p).toNat :Nat):Int):=by rw[wI (by omega)];omega
 have g2:jz a b p<=b.e->IntKind.i64.wrap (b.e-jz a b p)=(((b.e-jz a b p).toNat :Nat):Int):=fun h=>by rw[wI (by omega)];omega
 have g3: ¬jz a b p<=b.e->IntKind.i64.wrap (jz a b p-b.e)=(((jz a b p-b.e).toNat :Nat):Int):=fun h=>by rw[wI (by omega)];omega
 have m1:(if IntKind.i64.wrap (IntKind.i64.wrap (zg a-(p:Int))-8)<a.e then IntKind.i64.wrap (IntKind.i64.wrap (zg a-(p:Int))-8)else a.e)=min a.e (zg a-p-8):=by
  rw[wI (x:=zg a-(p:Int)) (by omega),wI (by omega)];split<;>omega
 have m2:IntKind.i64.wrap (zg a-zg b)=zg a-zg b:=wI (by omega);have m3:zg a-zg b<=2->(if b.e<min a.e (zg a-p-8)then b.e else min a.e (zg a-p-8))=jz a b p:=fun h=>by unfold jz;rw[if_pos h];split<;>omega
 have m4: ¬zg a-zg b<=2->min a.e (zg a-p-8)=jz a b p:=fun h=>by unfold jz;rw[if_neg h]
 have h167a:=qdj (nm a) (a.e-jz a b p).toNat (by omega) (by omega) (by omega);unfold zhq;generalize jz a b p=low at*;obtain⟨F,hF⟩: ∃F,jg (nm b) b.e false low=F:=⟨_,rfl⟩;rw[hF]at fb hf1 hf2⊢;have h167b:low<=b.e->Fn 318 [] [.sl .u32 (toL (nm b)),.int .i64 (IntKind.i64.wrap (b.e-low))] (.sl .u32 (toL F.1)) []/\F.2=false:=fun h=>by
  have e:=hf1 h;rw[e]at fb⊢;simp only at fb;rw[g2 h];exact⟨qdj (nm b) _ (by omega) (by omega) (by omega),rfl⟩
 have h262b: ¬low<=b.e->Fn 319 [] [.sl .u32 (toL (nm b)),.int .i64 (IntKind.i64.wrap (low-b.e))] (.tup [.sl .u32 (toL F.1),.bool F.2]) []:=fun h=>by
  rw[hf2 h];exact v262 (nm b) _ (g3 h) (by omega) (by omega)
 obtain⟨x,hx⟩: ∃x,nm a*2^(a.e-low).toNat =x:=⟨_,rfl⟩;rw[hx]at xb h167a⊢;have ae:=ha.eq;have be:=hb.eq;clear hF hf1 hf2 g2 g3 ha hb hx;generalize zg a=tA at*;generalize zg b=tB at*;generalize nm a=na at*;generalize nm b=nb at*;obtain⟨an,am,ax⟩:=a;obtain⟨bn,bm,bx⟩:=b;simp only at ae be a2 b2 g1 m1 m3 m4 h167a h167b h262b⊢;subst ae be;rw[←g1]at h167a;have h263:=v263 x F.1 (by omega) (by omega);have h1:=v263 F.1 1 (by omega) (by decide);rw[zjs]at h1;have ub:bl (upN F true)<=4300:=by
  unfold upN;split
  ·have:=zhc F.1;omega
  ·omega
 have hu1:F.2=true->upN F true=F.1+1:=fun h=>by unfold upN;rw[h];rfl
 have hu2:F.2=false->upN F true=F.1:=fun h=>by unfold upN;rw[h];rfl
 have h177:=qeb x (upN F true) (by omega) (by omega);have h264a:=v264 x (upN F true) (by omega) (by omega);have h264b:=v264 (upN F true) x (by omega) (by omega);obtain⟨y,lost⟩:=F;simp only at*;generalize hU:upN (y,lost) true=U at*;refine jc (code:=Tryz.f232.body.getD .skip) hT6 hmx Tryz.func232 rfl rfl (ex:= []) ?_;conv=>whnf
 refine yd hT6 hmx 7 (fun _:Unit=>⟨[.any,.any,.int .i64 p,.ptr 3 0,.ptr 4 0,.any,.ptr 6 0,.bool false,.int .i64 low,.sl .u32 (toL x),.sl .u32 (toL y),.bool lost]++zf1 97,[(3,.cells [.bool an,.sl .u32 (toL na),.int .i64 ax]),(4,.cells [.bool bn,.sl .u32 (toL nb),.int .i64 bx]),(6,.cells [.nilsl,.int .i64 0,.bool false])]⟩) (fun _=>by kernel_rfl) ?_ (fun _=>?_)
 ·conv=>whnf
  refine gZn h176a ?_;conv=>whnf
  (refine⟨by kernel_rfl,by kernel_rfl,?_⟩;(conv=>whnf))
  rw[m1];refine gZn h176a ?_;conv=>whnf
  refine gZn h176b ?_;conv=>whnf
  (refine⟨by kernel_rfl,by kernel_rfl,?_⟩;(conv=>whnf))
  rw[m2];have tail:True:=trivial;refine brI (fun h5=>?_) (fun h5=>?_)
  ·have h5:tA-tB<=2:=of_decide_eq_true h5;conv=>whnf
   rw[m3 h5];refine gZn h167a ?_;conv=>whnf
   refine brI (fun h6=>?_) (fun h6=>?_)
   ·have h6:low<=bx:=of_decide_eq_true h6;obtain⟨hb1,hb2⟩:=h167b h6;subst hb2;conv=>whnf
    refine gZn hb1 ?_;conv=>whnf
    refine⟨(),?_⟩
    ((conv=>whnf);refine q9 ?_ ?_;repeat' first|refine lc ?_ ?_|exact la0|exact lr rfl|exact ln0|refine lh1 ?_ ?_|exact lh0|exact bf0|exact bd0|refine bc0 ?_|exact bm0 rfl|exact bb0 rfl|exact bg0 rfl|exact li0 rfl|refine lg0 ?_|refine lt0 ?_|fail)
   ·have h6: ¬low<=bx:=of_decide_eq_false h6;conv=>whnf
    refine gZn (h262b h6) ?_;conv=>whnf
    refine⟨(),?_⟩
    ((conv=>whnf);refine q9 ?_ ?_;repeat' first|refine lc ?_ ?_|exact la0|exact lr rfl|exact ln0|refine lh1 ?_ ?_|exact lh0|exact bf0|exact bd0|refine bc0 ?_|exact bm0 rfl|exact bb0 rfl|exact bg0 rfl|exact li0 rfl|refine lg0 ?_|refine lt0 ?_|fail)
  ·have h5: ¬tA-tB<=2:=of_decide_eq_false h5;conv=>whnf
   rw[m4 h5];refine gZn h167a ?_;conv=>whnf
   refine brI (fun h6=>?_) (fun h6=>?_)
   ·have h6:low<=bx:=of_decide_eq_true h6;obtain⟨hb1,hb2⟩:=h167b h6;subst hb2;conv=>whnf
    refine gZn hb1 ?_;conv=>whnf
    refine⟨(),?_⟩
    ((conv=>whnf);refine q9 ?_ ?_;repeat' first|refine lc ?_ ?_|exact la0|exact lr rfl|exact ln0|refine lh1 ?_ ?_|exact lh0|exact bf0|exact bd0|refine bc0 ?_|exact bm0 rfl|exact bb0 rfl|exact bg0 rfl|exact li0 rfl|refine lg0 ?_|refine lt0 ?_|fail)
   ·have h6: ¬low<=bx:=of_decide_eq_false h6;conv=>whnf
    refine gZn (h262b h6) ?_;conv=>whnf
    refine⟨(),?_⟩
    ((conv=>whnf);refine q9 ?_ ?_;repeat' first|refine lc ?_ ?_|exact la0|exact lr rfl|exact ln0|refine lh1 ?_ ?_|exact lh0|exact bf0|exact bd0|refine bc0 ?_|exact bm0 rfl|exact bb0 rfl|exact bg0 rfl|exact li0 rfl|refine lg0 ?_|refine lt0 ?_|fail)
 ·refine yc hT6 hmx ?_;conv=>whnf
  refine brI (fun h5=>?_) (fun h5=>?_)
  ·have h5:an=bn:=by have h5:(an==bn)=true:=h5;rwa [beq_iff_eq]at h5
   rw[if_pos h5];conv=>whnf
   refine gZn h263 ?_;conv=>whnf
   exact⟨lr rfl,lh0⟩
  ·have h5:an≠bn:=by have h5:(an==bn)=false:=h5;rwa [beq_eq_false_iff_ne]at h5
   rw[if_neg h5];conv=>whnf
   cases lost with
   |true=>
    have e:=hu1 rfl;rw[←e]at h1;conv=>whnf
    refine gZn h1 ?_;conv=>whnf
    refine gZn h177 ?_;conv=>whnf
    refine brI (fun h6=>?_) (fun h6=>?_)
    ·have h6:xu x U<0:=of_decide_eq_true h6;have h6:x<U:=by unfold xu at h6;split at h6;assumption;split at h6<;>omega
     rw[if_pos h6];conv=>whnf
     refine gZn (h264b (by omega)) ?_;conv=>whnf
     exact⟨lr rfl,lh0⟩
    ·have h6: ¬xu x U<0:=of_decide_eq_false h6;have h6: ¬x<U:=fun h=>h6 (by unfold xu;rw[if_pos h];decide)
     rw[if_neg h6];conv=>whnf
     refine gZn (h264a (by omega)) ?_;conv=>whnf
     exact⟨lr rfl,lh0⟩
   |false=>
    have e:=hu2 rfl;subst e;conv=>whnf
    refine gZn h177 ?_;conv=>whnf
    refine brI (fun h6=>?_) (fun h6=>?_)
    ·have h6:xu x U<0:=of_decide_eq_true h6;have h6:x<U:=by unfold xu at h6;split at h6;assumption;split at h6<;>omega
     rw[if_pos h6];conv=>whnf
     refine gZn (h264b (by omega)) ?_;conv=>whnf
     exact⟨lr rfl,lh0⟩
    ·have h6: ¬xu x U<0:=of_decide_eq_false h6;have h6: ¬x<U:=fun h=>h6 (by unfold xu;rw[if_pos h];decide)
     rw[if_neg h6];conv=>whnf
     refine gZn (h264a (by omega)) ?_;conv=>whnf
     exact⟨lr rfl,lh0⟩
theorem qas {a b:Dy} {p:Nat} (ha:VD a) (hb:VD b) (ha0:nm a≠0) (hb0:nm b≠0) (hle:zg b<=zg a) (hp:8<=p/\p<=512):
 bl (zhq a b p).1.1<=8000/\ -100000<=(zhq a b p).1.2.1/\(zhq a b p).1.2.1<=100000:=by
 have a1:=ha.bits;have b1:=hb.bits;have a2:=ha.exp;have b2:=hb.exp;obtain⟨l1,l2,l3,l4⟩:=zna ha hb ha0 hle hb0 hp;have ta:zg a=bl (nm a)+a.e:=by unfold zg;rw[if_neg ha0]
 have tb:zg b=bl (nm b)+b.e:=by unfold zg;rw[if_neg hb0]
 have xb:bl (nm a*2^(a.e-jz a b p).toNat)<=4200:=by rw[ql _ _ ha0];omega
 have fb:bl (jg (nm b) b.e false (jz a b p)).1<=4200:=by
  unfold jg;split
  ·simp only;rw[ql _ _ hb0];omega
  ·simp only;have:=zu (qd (nm b) (2^(jz a b p-b.e).toNat));omega
 unfold zhq;generalize jz a b p=low at*;generalize nm a*2^(a.e-low).toNat =x at*;generalize jg (nm b) b.e false low=F at*;have hu:bl (upN F true)<=4201:=by
  unfold upN;split
  ·have:=zhc F.1;omega
  ·omega
 split
 ·refine⟨?_,by simp only;omega,by simp only;omega⟩;simp only;have:bl (x+F.1)<=4201:=zhd xb fb;omega
 ·split
  ·refine⟨?_,by simp only;omega,by simp only;omega⟩;have:=zu (qC (upN F true) x);simp only;omega
  ·refine⟨?_,by simp only;omega,by simp only;omega⟩;have:=zu (qC x (upN F true));simp only;omega
def zhx (a b:Dy):Dy:=if zg a<zg b then b else a
def zh2 (a b:Dy):Dy:=if zg a<zg b then a else b
def qc8 (c d:Dy) (p:Nat) (up:Bool):Dy×Int:=
 if(zhq c d p).1.1=0/\(zhq c d p).1.2.2=false then(d0,0)else zay (c.neg != (zhq c d p).2) (zhq c d p).1.1 (zhq c d p).1.2.1 (zhq c d p).1.2.2 p up
def zcj (a b:Dy) (p:Nat) (up:Bool):Dy×Int:=
 if nm a=0 then qo b p up else if nm b=0 then qo a p up else qc8 (zhx a b) (zh2 a b) p up
theorem v179 {a b:Dy} (ha:VD a) (hb:VD b) (up:Bool) (p:Nat) (hp:8<=p/\p<=512):Fn 158 G0 [.agg (dyC a),.agg (dyC b),.int .i64 p,.bool up] (dyV (zcj a b p up)) G0:=by
 have h164:=qed (p:=p) (l:= [a,b]) hp (by simp) (by simpa using⟨ha,hb⟩);by_cases ha0:nm a=0
 ·have h223:=v223 hb up p hp;have hR:zcj a b p up=qo b p up:=by unfold zcj;rw[if_pos ha0]
  rw[hR];generalize qo b p up=R at*;have ae:=ha.eq;rw[ha0]at ae;clear ha hb hR ha0;obtain⟨an,am,ax⟩:=a;obtain⟨bn,bm,bx⟩:=b;obtain⟨⟨r1,r2,r3⟩,r4⟩:=R;simp only at ae;subst ae;refine fnT hT6 hmx Tryz.func158 rfl rfl (ex:= []) ?_;conv=>whnf
  refine gZn h164 ?_;conv=>whnf
  refine gZc h223 ?_;conv=>whnf
  exact⟨lr rfl,leG⟩
 by_cases hb0:nm b=0
 ·have h223:=v223 ha up p hp;have hR:zcj a b p up=qo a p up:=by unfold zcj;rw[if_neg ha0,if_pos hb0]
  rw[hR];generalize qo a p up=R at*;have ae:=ha.eq;have be:=hb.eq;rw[hb0]at be;clear ha hb hR hb0;generalize nm a=na at*;obtain⟨an,am,ax⟩:=a;obtain⟨bn,bm,bx⟩:=b;obtain⟨⟨r1,r2,r3⟩,r4⟩:=R;simp only at ae be;subst ae be;refine fnT hT6 hmx Tryz.func158 rfl rfl (ex:= []) ?_;conv=>whnf
  refine gZn h164 ?_;conv=>whnf
  refine brI (fun h6=>?_) (fun h6=>?_)
  ·have h6:(((toL na).length :Int)==0)=true:=h6;rw[zct ha0]at h6;cases h6
  conv=>whnf
  refine gZc h223 ?_;conv=>whnf
  exact⟨lr rfl,leG⟩
 have hR:zcj a b p up=qc8 (zhx a b) (zh2 a b) p up:=by unfold zcj;rw[if_neg ha0,if_neg hb0]
 rw[hR];have h176a:=zn6 ha;have h176b:=zn6 hb;have hc:VD (zhx a b)/\VD (zh2 a b)/\nm (zhx a b)≠0/\nm (zh2 a b)≠0/\zg (zh2 a b)<=zg (zhx a b):=by
  unfold zhx zh2;split
  ·exact⟨hb,ha,hb0,ha0,by omega⟩
  ·exact⟨ha,hb,ha0,hb0,by omega⟩
 obtain⟨c1,c2,c3,c4,c5⟩:=hc;have h224:=v224 c1 c2 c3 c4 c5 p hp;obtain⟨s1,s2,s3⟩:=qas c1 c2 c3 c4 c5 hp;have h168:=v168 ((zhx a b).neg != (zhq (zhx a b) (zh2 a b) p).2) (zhq (zhx a b) (zh2 a b) p).1.1 (zhq (zhx a b) (zh2 a b) p).1.2.1 (zhq (zhx a b) (zh2 a b) p).1.2.2 up p (by omega) ⟨s2,s3⟩ hp;have hf1:zg a<zg b->zhx a b=b/\zh2 a b=a:=fun h=>by unfold zhx zh2;rw[if_pos h,if_pos h];exact⟨rfl,rfl⟩
 have hf2: ¬zg a<zg b->zhx a b=a/\zh2 a b=b:=fun h=>by unfold zhx zh2;rw[if_neg h,if_neg h];exact⟨rfl,rfl⟩
 unfold qc8;generalize zhx a b=c at*;generalize zh2 a b=d at*;generalize zhq c d p=S at*;obtain⟨⟨sm,sl,sx⟩,st⟩:=S;simp only at h224 h168 s1 s2 s3⊢;generalize zay (c.neg != st) sm sl sx p up=R at*;have ae:=ha.eq;have be:=hb.eq;clear ha hb c1 c2 c3 c4 c5 hR;generalize zg a=tA at*;generalize zg b=tB at*;generalize nm a=na at*;generalize nm b=nb at*;obtain⟨an,am,ax⟩:=a;obtain⟨bn,bm,bx⟩:=b;obtain⟨cn,cm,cx⟩:=c;obtain⟨dn,dm,dx⟩:=d;obtain⟨⟨r1,r2,r3⟩,r4⟩:=R;simp only at ae be h168;subst ae be;refine jc (code:=Tryz.f158.body.getD .skip) hT6 hmx Tryz.func158 rfl rfl (ex:= []) ?_;conv=>whnf
 refine yd hT6 hmx 4 (fun _:Unit=>⟨[.any,.any,.int .i64 p,.bool up,.ptr 4 0,.ptr 5 0,.any,.any,.ptr 8 0,.int .i64 0,.int .i64 0]++zf1 67,[(4,.cells [.bool cn,.sl .u32 cm,.int .i64 cx]),(5,.cells [.bool dn,.sl .u32 dm,.int .i64 dx]),(8,.cells [.bool false,.nilsl,.int .i64 0]),(11,.free),(qu,.gst JT)]⟩) (fun _=>by kernel_rfl) ?_ (fun _=>?_)
 ·conv=>whnf
  refine gZn h164 ?_;conv=>whnf
  refine brI (fun h6=>?_) (fun h6=>?_)
  ·have h6:(((toL na).length :Int)==0)=true:=h6;rw[zct ha0]at h6;cases h6
  conv=>whnf
  refine brI (fun h6=>?_) (fun h6=>?_)
  ·have h6:(((toL nb).length :Int)==0)=true:=h6;rw[zct hb0]at h6;cases h6
  conv=>whnf
  refine gZn h176a ?_;conv=>whnf
  refine gZn h176b ?_;conv=>whnf
  (refine⟨by kernel_rfl,by kernel_rfl,?_⟩;(conv=>whnf))
  refine brI (fun h6=>?_) (fun h6=>?_)
  ·have h6:tA<tB:=of_decide_eq_true h6;obtain⟨e1,e2⟩:=hf1 h6;injection e1 with q1 q2 q3
   injection e2 with q4 q5 q6
   subst q1 q2 q3 q4 q5 q6;conv=>whnf
   refine⟨(),?_⟩
   ((conv=>whnf);refine q9 ?_ ?_;repeat' first|refine lc ?_ ?_|exact la0|exact lr rfl|exact ln0|refine lh1 ?_ ?_|exact lh0|exact bf0|exact bd0|refine bc0 ?_|exact bm0 rfl|exact bb0 rfl|exact bg0 rfl|exact li0 rfl|refine lg0 ?_|refine lt0 ?_|fail)
  ·have h6: ¬tA<tB:=of_decide_eq_false h6;obtain⟨e1,e2⟩:=hf2 h6;injection e1 with q1 q2 q3
   injection e2 with q4 q5 q6
   subst q1 q2 q3 q4 q5 q6;conv=>whnf
   refine⟨(),?_⟩
   ((conv=>whnf);refine q9 ?_ ?_;repeat' first|refine lc ?_ ?_|exact la0|exact lr rfl|exact ln0|refine lh1 ?_ ?_|exact lh0|exact bf0|exact bd0|refine bc0 ?_|exact bm0 rfl|exact bb0 rfl|exact bg0 rfl|exact li0 rfl|refine lg0 ?_|refine lt0 ?_|fail)
 ·refine yc hT6 hmx ?_;conv=>whnf
  refine gZn h224 ?_;conv=>whnf
  refine brI (fun h6=>?_) (fun h6=>?_)
  ·have h6:(toL sm).length =0:=by have h6:(((toL sm).length :Int)==0)=true:=h6;rw[beq_iff_eq]at h6;omega
   have h6:=yb.1 h6
   cases sx with
   |false=>
    rw[if_pos ⟨h6,rfl⟩];conv=>whnf
    exact⟨zq4,leG⟩
   |true=>
    rw[if_neg (by simp)];conv=>whnf
    refine gZc h168 ?_;conv=>whnf
    exact⟨lr rfl,leG⟩
  ·have h6:sm≠0:=fun e=>by
    subst e;have h6:(((toL 0).length :Int)==0)=false:=h6;simp[jk]at h6
   rw[if_neg (fun c=>h6 c.1)];conv=>whnf
   refine gZc h168 ?_;conv=>whnf
   exact⟨lr rfl,leG⟩
theorem qdl {a b:Dy} (ha:VD a) (hb:VD b) (p:Nat) (hp:8<=p/\p<=512):Fn 72 G0 [.agg (dyC a),.agg (dyC b),.int .i64 p] (dyV (jv a b p false)) G0:=by
 have h:=v180 ha hb false p hp;generalize jv a b p false=R at*;clear ha hb;obtain⟨an,am,ax⟩:=a;obtain⟨bn,bm,bx⟩:=b;obtain⟨⟨r1,r2,r3⟩,r4⟩:=R;refine fnT hT6 hmx Tryz.func72 rfl rfl (ex:= []) ?_;conv=>whnf
 refine gZc h ?_;conv=>whnf
 exact⟨lr rfl,leG⟩
theorem qdk {a b:Dy} (ha:VD a) (hb:VD b) (p:Nat) (hp:8<=p/\p<=512):Fn 73 G0 [.agg (dyC a),.agg (dyC b),.int .i64 p] (dyV (jv a b p true)) G0:=by
 have h:=v180 ha hb true p hp;generalize jv a b p true=R at*;clear ha hb;obtain⟨an,am,ax⟩:=a;obtain⟨bn,bm,bx⟩:=b;obtain⟨⟨r1,r2,r3⟩,r4⟩:=R;refine fnT hT6 hmx Tryz.func73 rfl rfl (ex:= []) ?_;conv=>whnf
 refine gZc h ?_;conv=>whnf
 exact⟨lr rfl,leG⟩
theorem v76 {a b:Dy} (ha:VD a) (hb:VD b) (p:Nat) (hp:8<=p/\p<=512):Fn 265 G0 [.agg (dyC a),.agg (dyC b),.int .i64 p] (dyV (kq a b p false)) G0:=by
 have h:=v121 ha hb false p hp;generalize kq a b p false=R at*;clear ha hb;obtain⟨an,am,ax⟩:=a;obtain⟨bn,bm,bx⟩:=b;obtain⟨⟨r1,r2,r3⟩,r4⟩:=R;refine fnT hT6 hmx Tryz.func265 rfl rfl (ex:= []) ?_;conv=>whnf
 refine gZc h ?_;conv=>whnf
 exact⟨lr rfl,leG⟩
theorem v78 {a b:Dy} (ha:VD a) (hb:VD b) (p:Nat) (hp:8<=p/\p<=512):Fn 266 G0 [.agg (dyC a),.agg (dyC b),.int .i64 p] (dyV (kq a b p true)) G0:=by
 have h:=v121 ha hb true p hp;generalize kq a b p true=R at*;clear ha hb;obtain⟨an,am,ax⟩:=a;obtain⟨bn,bm,bx⟩:=b;obtain⟨⟨r1,r2,r3⟩,r4⟩:=R;refine fnT hT6 hmx Tryz.func266 rfl rfl (ex:= []) ?_;conv=>whnf
 refine gZc h ?_;conv=>whnf
 exact⟨lr rfl,leG⟩
theorem v128 {a b:Dy} (ha:VD a) (hb:VD b) (p:Nat) (hp:8<=p/\p<=512):Fn 77 G0 [.agg (dyC a),.agg (dyC b),.int .i64 p] (dyV (zcj a b p false)) G0:=by
 have h:=v179 ha hb false p hp;generalize zcj a b p false=R at*;clear ha hb;obtain⟨an,am,ax⟩:=a;obtain⟨bn,bm,bx⟩:=b;obtain⟨⟨r1,r2,r3⟩,r4⟩:=R;refine fnT hT6 hmx Tryz.func77 rfl rfl (ex:= []) ?_;conv=>whnf
 refine gZc h ?_;conv=>whnf
 exact⟨lr rfl,leG⟩
theorem v129 {a b:Dy} (ha:VD a) (hb:VD b) (p:Nat) (hp:8<=p/\p<=512):Fn 78 G0 [.agg (dyC a),.agg (dyC b),.int .i64 p] (dyV (zcj a b p true)) G0:=by
 have h:=v179 ha hb true p hp;generalize zcj a b p true=R at*;clear ha hb;obtain⟨an,am,ax⟩:=a;obtain⟨bn,bm,bx⟩:=b;obtain⟨⟨r1,r2,r3⟩,r4⟩:=R;refine fnT hT6 hmx Tryz.func78 rfl rfl (ex:= []) ?_;conv=>whnf
 refine gZc h ?_;conv=>whnf
 exact⟨lr rfl,leG⟩
theorem v145 {a:Dy} (ha:VD a) (hn:a.neg=false) (p:Nat) (hp:8<=p/\p<=512):Fn 346 G0 [.agg (dyC a),.int .i64 p] (dyV (uj a p false)) G0:=by
 have h:=v204 ha hn false p hp;generalize uj a p false=R at*;clear ha;obtain⟨an,am,ax⟩:=a;obtain⟨⟨r1,r2,r3⟩,r4⟩:=R;refine fnT hT6 hmx Tryz.func346 rfl rfl (ex:= []) ?_;conv=>whnf
 refine gZc h ?_;conv=>whnf
 exact⟨lr rfl,leG⟩
theorem v146 {a:Dy} (ha:VD a) (hn:a.neg=false) (p:Nat) (hp:8<=p/\p<=512):Fn 347 G0 [.agg (dyC a),.int .i64 p] (dyV (uj a p true)) G0:=by
 have h:=v204 ha hn true p hp;generalize uj a p true=R at*;clear ha;obtain⟨an,am,ax⟩:=a;obtain⟨⟨r1,r2,r3⟩,r4⟩:=R;refine fnT hT6 hmx Tryz.func347 rfl rfl (ex:= []) ?_;conv=>whnf
 refine gZc h ?_;conv=>whnf
 exact⟨lr rfl,leG⟩
theorem qhb {x y:Nat} (h:bl x<bl y):x<y:=Nat.not_le.1 fun c=>by have:=zu c;omega
def cmA (a b:Dy):Int:=xu (nm a*2^(a.e-min a.e b.e).toNat) (nm b*2^(b.e-min a.e b.e).toNat)
theorem qbh {x y:Nat} (h:x<y):xu x y= -1:=by unfold xu;rw[if_pos h]
theorem qbi {x y:Nat} (h:y<x):xu x y=1:=by unfold xu;rw[if_neg (by omega),if_pos h]
theorem v125 {a b:Dy} (ha:VD a) (hb:VD b) (ha0:nm a≠0) (hb0:nm b≠0):Fn 180 [] [.agg (dyC a),.agg (dyC b)] (.int .i64 (cmA a b)) []:=by
 have a1:=ha.bits;have b1:=hb.bits;have a2:=ha.exp;have b2:=hb.exp;have h176a:=zn6 ha;have h176b:=zn6 hb;have ta:zg a=bl (nm a)+a.e:=by unfold zg;rw[if_neg ha0]
 have tb:zg b=bl (nm b)+b.e:=by unfold zg;rw[if_neg hb0]
 have m1:(if b.e<a.e then b.e else a.e)=min a.e b.e:=by split<;>omega
 have xa:=ql (nm a) (a.e-min a.e b.e).toNat ha0;have xb:=ql (nm b) (b.e-min a.e b.e).toNat hb0;have hlt:zg a<zg b->cmA a b= -1:=fun h=>qbh (qhb (by omega))
 have hgt:zg b<zg a->cmA a b=1:=fun h=>qbi (qhb (by omega))
 have g1:IntKind.i64.wrap (a.e-min a.e b.e)=(((a.e-min a.e b.e).toNat :Nat):Int):=by rw[wI (by omega)];omega
 have g2:IntKind.i64.wrap (b.e-min a.e b.e)=(((b.e-min a.e b.e).toNat :Nat):Int):=by rw[wI (by omega)];omega
 have h178a:zg a=zg b->Fn 274 [] [.sl .u32 (toL (nm a)),.int .i64 (IntKind.i64.wrap (a.e-min a.e b.e))] (.sl .u32 (toL (nm a*2^(a.e-min a.e b.e).toNat))) []:=fun h=>by
  rw[g1];exact v178 _ _ (by omega) (by omega) (by omega)
 have h178b:zg a=zg b->Fn 274 [] [.sl .u32 (toL (nm b)),.int .i64 (IntKind.i64.wrap (b.e-min a.e b.e))] (.sl .u32 (toL (nm b*2^(b.e-min a.e b.e).toNat))) []:=fun h=>by
  rw[g2];exact v178 _ _ (by omega) (by omega) (by omega)
 have h177:zg a=zg b->Fn 273 [] [.sl .u32 (toL (nm a*2^(a.e-min a.e b.e).toNat)),.sl .u32 (toL (nm b*2^(b.e-min a.e b.e).toNat))] (.int .i64 (cmA a b)) []:=fun h=>qeb _ _ (by omega) (by omega)
 generalize cmA a b=c at*;generalize nm a*2^(a.e-min a.e b.e).toNat =X at*;generalize nm b*2^(b.e-min a.e b.e).toNat =Y at*;generalize zg a=tA at*;generalize zg b=tB at*;generalize min a.e b.e=t at*;have ae:=ha.eq;have be:=hb.eq;clear ha hb xa xb;generalize nm a=na at*;generalize nm b=nb at*;obtain⟨an,am,ax⟩:=a;obtain⟨bn,bm,bx⟩:=b;simp only at ae be m1 h178a h178b;subst ae be;refine fnT hT6 hmx Tryz.func180 rfl rfl (ex:= []) ?_;conv=>whnf
 refine gZn h176a ?_;conv=>whnf
 refine gZn h176b ?_;conv=>whnf
 (refine⟨by kernel_rfl,by kernel_rfl,?_⟩;(conv=>whnf))
 refine brI (fun h1=>?_) (fun h1=>?_)
 ·rw[hlt (of_decide_eq_true h1)];conv=>whnf
  exact⟨lr rfl,lh0⟩
 have h1: ¬tA<tB:=of_decide_eq_false h1;conv=>whnf
 refine brI (fun h2=>?_) (fun h2=>?_)
 ·rw[hgt (of_decide_eq_true h2)];conv=>whnf
  exact⟨lr rfl,lh0⟩
 have h2: ¬tB<tA:=of_decide_eq_false h2;have he:tA=tB:=by omega
 conv=>whnf
 rw[m1];refine gZn (h178a he) ?_;conv=>whnf
 refine gZn (h178b he) ?_;conv=>whnf
 refine gZn (h177 he) ?_;conv=>whnf
 (refine⟨by kernel_rfl,by kernel_rfl,?_⟩;(conv=>whnf))
 exact⟨lr rfl,lh0⟩
def zth (x y:Int):Int:=if x<y then-1 else if y<x then 1 else 0
def zi (d:Dy) (t:Int):Int:=if d.neg=true then-((nm d*2^(d.e-t).toNat :Nat):Int)else((nm d*2^(d.e-t).toNat :Nat):Int)
def qt (a b:Dy):Int:=zth (zi a (min a.e b.e)) (zi b (min a.e b.e))
theorem znz (d:Dy) (t:Int):wl d=zth (zi d t) 0:=by
 unfold wl zi zth;have hp:=Nat.two_pow_pos (d.e-t).toNat;by_cases h:nm d=0
 ·rw[if_pos h,h];split<;>simp
 ·rw[if_neg h];have:0<nm d*2^(d.e-t).toNat :=Nat.mul_pos (Nat.pos_of_ne_zero h) hp;split<;>split<;>omega
theorem zva {a b:Dy} (h:wl a=wl b) (h0:wl a≠0):qt a b=wl a*cmA a b:=by
 unfold qt cmA;unfold wl at h h0⊢;by_cases ha:nm a=0
 ·rw[if_pos ha]at h0;exact absurd rfl h0
 ·rw[if_neg ha]at h h0⊢;by_cases hb:nm b=0
  ·rw[if_pos hb]at h;exact absurd h h0
  ·rw[if_neg hb]at h;unfold zi zth xu;generalize nm a*2^(a.e-min a.e b.e).toNat =X;generalize nm b*2^(b.e-min a.e b.e).toNat =Y;by_cases hna:a.neg=true<;>by_cases hnb:b.neg=true<;>simp only[hna,hnb,if_true,if_false,Bool.false_eq_true]at h⊢
   ·by_cases c1:X<Y
    ·rw[if_pos c1,if_neg (by omega),if_pos (by omega)];rfl
    ·by_cases c2:Y<X
     ·rw[if_neg c1,if_pos c2,if_pos (by omega)];rfl
     ·rw[if_neg c1,if_neg c2,if_neg (by omega),if_neg (by omega)];rfl
   ·cases h
   ·cases h
   ·by_cases c1:X<Y
    ·rw[if_pos c1,if_pos (by omega)];rfl
    ·by_cases c2:Y<X
     ·rw[if_neg c1,if_pos c2,if_neg (by omega),if_pos (by omega)];rfl
     ·rw[if_neg c1,if_neg c2,if_neg (by omega),if_neg (by omega)];rfl
theorem zx7 {a b:Dy}:(wl a<wl b->qt a b= -1)/\(wl b<wl a->qt a b=1)/\(wl a=wl b->wl a=0->qt a b=0):=by
 rw[znz a (min a.e b.e),znz b (min a.e b.e)];unfold qt;generalize zi a (min a.e b.e)=x;generalize zi b (min a.e b.e)=y;unfold zth;refine⟨?_,?_,?_⟩
 ·intro h;split at h<;>split at h<;>(try split at h)<;>(try split at h)<;>first|(rw[if_pos (by omega)])|omega
 ·intro h;split at h<;>split at h<;>(try split at h)<;>(try split at h)<;>first|(rw[if_neg (by omega),if_pos (by omega)])|omega
 ·intro h h0;split at h0<;>(try split at h0)<;>split at h<;>(try split at h)<;>(try split at h)<;>first|(rw[if_neg (by omega),if_neg (by omega)])|omega
theorem v81 {a b:Dy} (ha:VD a) (hb:VD b):Fn 101 [] [.agg (dyC a),.agg (dyC b)] (.int .i64 (qt a b)) []:=by
 have h80a:=v80 ha;have h80b:=v80 hb;have h124a:=zrx ha;have h124b:=zrx hb;obtain⟨s1,s2,s3⟩:=zx7 (a:=a) (b:=b);have s4:=zva (a:=a) (b:=b);have h125:wl a=wl b->wl a≠0->Fn 180 [] [.agg (dyC a),.agg (dyC b)] (.int .i64 (cmA a b)) []:=fun h h0=>by
  refine v125 ha hb (fun c=>?_) (fun c=>?_)
  ·unfold wl at h0;rw[if_pos c]at h0;exact h0 rfl
  ·rw[h]at h0;unfold wl at h0;rw[if_pos c]at h0;exact h0 rfl
 have hb1: -1<=wl a/\wl a<=1:=by unfold wl;split;omega;split<;>omega
 have hb2: -1<=cmA a b/\cmA a b<=1:=by unfold cmA xu;split;omega;split<;>omega
 have hw:IntKind.i64.wrap (wl a*cmA a b)=wl a*cmA a b:=by
  have:wl a= -1\/wl a=0\/wl a=1:=by omega
  rcases this with h|h|h<;>rw[h]<;>exact wI (by omega)
 generalize cmA a b=C at*;generalize qt a b=R at*;generalize wl a=A at*;generalize wl b=B at*;clear ha hb;obtain⟨an,am,ax⟩:=a;obtain⟨bn,bm,bx⟩:=b;refine fnT hT6 hmx Tryz.func101 rfl rfl (ex:= []) ?_;conv=>whnf
 refine gZn h80a ?_;conv=>whnf
 refine gZn h80b ?_;conv=>whnf
 refine gZn h124a ?_;conv=>whnf
 refine gZn h124b ?_;conv=>whnf
 (refine⟨by kernel_rfl,by kernel_rfl,?_⟩;(conv=>whnf))
 refine brI (fun h1=>?_) (fun h1=>?_)
 ·rw[s1 (of_decide_eq_true h1)];conv=>whnf
  exact⟨lr rfl,lh0⟩
 have h1: ¬A<B:=of_decide_eq_false h1;conv=>whnf
 refine brI (fun h2=>?_) (fun h2=>?_)
 ·rw[s2 (of_decide_eq_true h2)];conv=>whnf
  exact⟨lr rfl,lh0⟩
 have h2: ¬B<A:=of_decide_eq_false h2;have he:A=B:=by omega
 conv=>whnf
 refine brI (fun h3=>?_) (fun h3=>?_)
 ·have h3:A=0:=by simpa using h3
  rw[s3 he h3];conv=>whnf
  exact⟨lr rfl,lh0⟩
 have h3:A≠0:=by simpa using h3
 conv=>whnf
 refine gZn (h125 he h3) ?_;conv=>whnf
 exact⟨ai0 (by rw[hw,s4 he h3]),lh0⟩
def vj (d:Dy) (k:Int):Dy×Int:=if exB k=false then(d0,1)else ckN d.neg (nm d) (d.e+k)
theorem v230 {d:Dy} (hd:VD d) (k:Int):Fn 207 G0 [.agg (dyC d),.int .i64 k] (dyV (vj d k)) G0:=by
 have h80:=v80 hd;have h268:=y268 k;have a1:=hd.bits;have a2:=hd.exp;have hlen:=hd.len;have hlb:=hd.lb;by_cases hk:exB k=false
 ·have hR:vj d k=(d0,1):=by unfold vj;rw[if_pos hk]
  rw[hR];rw[hk]at h268;obtain⟨an,am,ax⟩:=d;have h80:Fn 100 [] [.agg [.bool an,.sl .u32 am,.int .i64 ax]] (.bool true) []:=h80;show Fn 207 G0 [.agg [.bool an,.sl .u32 am,.int .i64 ax],.int .i64 k] _ G0;refine fnT hT6 hmx Tryz.func207 rfl rfl (ex:= []) ?_;conv=>whnf
  refine gZn h80 ?_;conv=>whnf
  refine gZn h268 ?_;conv=>whnf
  exact⟨zq4,leG⟩
 ·have hR:vj d k=ckN d.neg (nm d) (d.e+k):=by unfold vj;rw[if_neg hk]
  rw[hR];have hk:exB k=true:=by simpa using hk
  rw[hk]at h268;unfold exB at hk;simp only[q7,decide_eq_true_eq]at hk;have h122:=v122 d.neg d.m (d.e+k) hlb (by omega) (show bl (nm d)<=8192 by omega) (by omega);have h122:Fn 159 G0 [.bool d.neg,.sl .u32 d.m,.int .i64 (d.e+k)] (.agg (dyC (cnN d.neg (nm d) (d.e+k)))) G0:=h122;have hc:=y269 (cnN d.neg (nm d) (d.e+k)) (by unfold cnN;split;exact qf.lb;exact qk _) (by
   unfold cnN;split
   ·simp[d0]
   ·have:=zu (qd (nm d) (2^tz (nm d)));have:=(wb (nm d/2^tz (nm d)) 1000000).2 (by omega);exact this)
  rw[zvb]at hc;have hw:IntKind.i64.wrap (d.e+k)=d.e+k:=wI (by omega);generalize ckN d.neg (nm d) (d.e+k)=R at*;generalize cnN d.neg (nm d) (d.e+k)=C at*;clear hR hd;obtain⟨an,am,ax⟩:=d;obtain⟨⟨r1,r2,r3⟩,r4⟩:=R;obtain⟨c1,c2,c3⟩:=C;simp only at h122 hw;have h80:Fn 100 [] [.agg [.bool an,.sl .u32 am,.int .i64 ax]] (.bool true) []:=h80;have hc:Fn 297 [] [.agg [.bool c1,.sl .u32 c2,.int .i64 c3]] (dyV (⟨r1,r2,r3⟩,r4)) []:=hc;show Fn 207 G0 [.agg [.bool an,.sl .u32 am,.int .i64 ax],.int .i64 k] _ G0;refine fnT hT6 hmx Tryz.func207 rfl rfl (ex:= []) ?_;conv=>whnf
  refine gZn h80 ?_;conv=>whnf
  refine gZn h268 ?_;conv=>whnf
  rw[hw];refine gZc h122 ?_;conv=>whnf
  refine gZn hc ?_;conv=>whnf
  exact⟨lr rfl,leG⟩
def wx (n:Int):Dy:=cnN (decide (n<0)) n.natAbs 0
theorem v77 (n:Int) (h: -4611686018427387904<=n/\n<=4611686018427387904):Fn 83 G0 [.int .i64 n] (.agg (dyC (wx n))) G0:=by
 have key: ∀X:Int,X=n.natAbs->Fn 159 G0 [.bool (decide (n<0)),.sl .u32 [IntKind.u32.wrap X,IntKind.u32.wrap (X.fdiv 4294967296)],.int .i64 0] (.agg (dyC (wx n))) G0:=by
  intro X hX;have e1:IntKind.u32.wrap X=X % 4294967296:=by simp[IntKind.wrap,IntKind.signed,IntKind.bits]
  have e2:IntKind.u32.wrap (X.fdiv 4294967296)=X/4294967296:=by
   rw[Int.fdiv_eq_ediv_of_nonneg _ (by decide),zys (by omega)]
  rw[e1,e2];have hv:val [X % 4294967296,X/4294967296]=n.natAbs:=by
   rw[vh,vh];show(X % 4294967296).toNat +4294967296*((X/4294967296).toNat +4294967296*0)=n.natAbs;omega
  have h1:=v122 (decide (n<0)) [X % 4294967296,X/4294967296] 0 (fun z hz=>by
   simp only[List.mem_cons,List.not_mem_nil,or_false]at hz;rcases hz with rfl|rfl<;>omega) (by simp) (by rw[hv];exact Nat.le_trans (jt.2 (show n.natAbs<2^64 by omega)) (by decide)) (by decide)
  rw[hv]at h1;exact h1
 generalize wx n=R at*;refine fnT hT6 hmx Tryz.func83 rfl rfl (ex:= []) ?_;conv=>whnf
 refine brI (fun h1=>?_) (fun h1=>?_)
 ·have h1':n<0:=of_decide_eq_true h1;have e:IntKind.u64.wrap (0-IntKind.u64.wrap n)=n.natAbs:=by
   simp[IntKind.wrap,IntKind.signed,IntKind.bits];omega
  conv=>whnf
  refine⟨by decide,?_⟩;conv=>whnf
  refine gZc (key _ e) ?_;conv=>whnf
  exact⟨lr rfl,leG⟩
 ·have h1': ¬n<0:=of_decide_eq_false h1;have e:IntKind.u64.wrap n=n.natAbs:=by
   simp[IntKind.wrap,IntKind.signed,IntKind.bits];omega
  conv=>whnf
  refine⟨by decide,?_⟩;conv=>whnf
  refine gZc (key _ e) ?_;conv=>whnf
  exact⟨lr rfl,leG⟩
structure RI (x:Iv):Prop where
 lo:LB x.lo.m
 hi:LB x.hi.m
 l1:x.lo.m.length<9223372036854775808
 l2:x.hi.m.length<9223372036854775808
def zrB (d:Dy):Bool:= !d.neg&&decide (d.m.length=0)&&decide (d.e=0)
def viB (x:Iv):Bool:=if x.all=true then zrB x.lo&&zrB x.hi else vB x.lo&&vB x.hi&&decide (qt x.lo x.hi<=0)
def kB (x:Iv):Bool:= !x.all&&viB x
structure KI (x:Iv):Prop where
 all:x.all=false
 lo:VD x.lo
 hi:VD x.hi
 le:qt x.lo x.hi<=0
def wI0:Iv:=⟨d0,d0,true⟩
def VI (x:Iv):Prop:=KI x\/x=wI0
theorem zz7 {d:Dy}:zrB d=true<->d=d0:=by
 obtain⟨a,b,c⟩:=d;unfold zrB d0;simp only[q7,qA,decide_eq_true_eq,List.length_eq_zero_iff,Dy.mk.injEq];constructor
 ·rintro⟨⟨h1,h2⟩,h3⟩;exact⟨h1,h2,h3⟩
 ·rintro⟨h1,h2,h3⟩;exact⟨⟨h1,h2⟩,h3⟩
theorem zp {x:Iv} (h:RI x):kB x=true<->KI x:=by
 unfold kB viB;constructor
 ·intro e;simp only[q7,qA]at e;obtain⟨e1,e2⟩:=e;rw[if_neg (by rw[e1];simp)]at e2;simp only[q7,decide_eq_true_eq]at e2;exact⟨e1,(zcq h.lo).1 e2.1.1,(zcq h.hi).1 e2.1.2,e2.2⟩
 ·intro k;rw[k.all,if_neg (by simp),(zcq h.lo).2 k.lo,(zcq h.hi).2 k.hi,decide_eq_true k.le];rfl
theorem zcx {x:Iv} (h:RI x):viB x=true<->VI x:=by
 by_cases ha:x.all=true
 ·unfold viB VI;rw[if_pos ha];simp only[q7,zz7];constructor
  ·rintro⟨h1,h2⟩;obtain⟨lo,hi,al⟩:=x;simp only at h1 h2 ha;subst h1 h2 ha;exact .inr rfl
  ·rintro(k|rfl)
   ·rw[k.all]at ha;cases ha
   ·exact⟨rfl,rfl⟩
 ·have e:viB x=kB x:=by unfold kB;rw[show x.all=false by simpa using ha];rfl
  rw[e,zp h];unfold VI;constructor
  ·exact .inl
  ·rintro(k|rfl)
   ·exact k
   ·exact absurd rfl ha
theorem KI.ri {x:Iv} (k:KI x):RI x:=⟨k.lo.lb,k.hi.lb,by have:=k.lo.len;omega,by have:=k.hi.len;omega⟩
theorem zn1:RI wI0:=⟨qf.lb,qf.lb,by decide,by decide⟩
theorem VI.ri {x:Iv} (k:VI x):RI x:=by
 rcases k with k|rfl
 ·exact k.ri
 ·exact zn1
theorem i79 (d:Dy):Fn 99 [] [.agg (dyC d)] (.bool (zrB d)) []:=by
 obtain⟨R,hR⟩: ∃R,zrB d=R:=⟨_,rfl⟩;rw[hR];unfold zrB at hR;obtain⟨d1,d2,d3⟩:=d;simp only at hR;show Fn 99 [] [.agg [.bool d1,.sl .u32 d2,.int .i64 d3]] _ [];refine fnT hT6 hmx Tryz.func99 rfl rfl (ex:= []) ?_;conv=>whnf
 cases d1 with
 |true=>
  conv=>whnf
  exact⟨ab0 hR,lh0⟩
 |false=>
  conv=>whnf
  refine brI (fun h1=>?_) (fun h1=>?_)
  ·have h2:d2.length=0:=by have h1:((d2.length:Int)==0)=true:=h1;rw[beq_iff_eq]at h1;omega
   rw[decide_eq_true h2]at hR;conv=>whnf
   exact⟨ab0 (by rw[←hR];simp;rw[qB];simp),lh0⟩
  ·have h2: ¬d2.length=0:=by have h1:((d2.length:Int)==0)=false:=h1;rw[beq_eq_false_iff_ne]at h1;omega
   rw[decide_eq_false h2]at hR;conv=>whnf
   exact⟨ab0 (by rw[←hR];simp),lh0⟩
theorem i51 (x:Iv) (h:RI x):Fn 35 [] [.agg (ivC x)] (.bool (viB x)) []:=by
 have hlo:=y80 x.lo h.lo h.l1;have hhi:=y80 x.hi h.hi h.l2;have zlo:=i79 x.lo;have zhi:=i79 x.hi;have hc:vB x.lo=true->vB x.hi=true->Fn 101 [] [.agg (dyC x.lo),.agg (dyC x.hi)] (.int .i64 (qt x.lo x.hi)) []:=fun h1 h2=>v81 ((zcq h.lo).1 h1) ((zcq h.hi).1 h2)
 obtain⟨R,hR⟩: ∃R,viB x=R:=⟨_,rfl⟩;rw[hR];unfold viB at hR;generalize vB x.lo=a at*;generalize vB x.hi=b at*;generalize zrB x.lo=c at*;generalize zrB x.hi=d at*;generalize qt x.lo x.hi=C at*;clear h;obtain⟨⟨x1,x2,x3⟩,⟨x4,x5,x6⟩,x7⟩:=x;simp only at hR;have hlo:Fn 100 [] [.agg [.bool x1,.sl .u32 x2,.int .i64 x3]] (.bool a) []:=hlo;have hhi:Fn 100 [] [.agg [.bool x4,.sl .u32 x5,.int .i64 x6]] (.bool b) []:=hhi;have zlo:Fn 99 [] [.agg [.bool x1,.sl .u32 x2,.int .i64 x3]] (.bool c) []:=zlo;have zhi:Fn 99 [] [.agg [.bool x4,.sl .u32 x5,.int .i64 x6]] (.bool d) []:=zhi;have hc:a=true->b=true->Fn 101 [] [.agg [.bool x1,.sl .u32 x2,.int .i64 x3],.agg [.bool x4,.sl .u32 x5,.int .i64 x6]] (.int .i64 C) []:=hc;show Fn 35 [] [.agg [.bool x1,.sl .u32 x2,.int .i64 x3,.bool x4,.sl .u32 x5,.int .i64 x6,.bool x7]] _ [];refine fnT hT6 hmx Tryz.func35 rfl rfl (ex:= []) ?_;conv=>whnf
 cases x7 with
 |true=>
  rw[if_pos rfl]at hR
  cases c with
  |false=>
   conv=>whnf
   refine gZn zlo ?_;conv=>whnf
   exact⟨ab0 hR,lh0⟩
  |true=>
   conv=>whnf
   refine gZn zlo ?_;conv=>whnf
   refine gZn zhi ?_;conv=>whnf
   exact⟨ab0 (by rw[←hR,Bool.true_and]),lh0⟩
 |false=>
  rw[if_neg (by simp)]at hR
  cases a with
  |false=>
   conv=>whnf
   refine gZn hlo ?_;conv=>whnf
   exact⟨ab0 (by rw[←hR];rfl),lh0⟩
  |true=>
   cases b with
   |false=>
    conv=>whnf
    refine gZn hlo ?_;conv=>whnf
    refine gZn hhi ?_;conv=>whnf
    exact⟨ab0 (by rw[←hR];rfl),lh0⟩
   |true=>
    conv=>whnf
    refine gZn hlo ?_;conv=>whnf
    refine gZn hhi ?_;conv=>whnf
    refine gZn (hc rfl rfl) ?_;conv=>whnf
    exact⟨ab0 (by rw[←hR];rfl),lh0⟩
theorem zpc (l:List Iv) (hl:l.length<=1000000) (h: ∀x∈l,RI x):Fn 69 [] [.sl .iv l] (.bool (l.all kB)) []:=by
 obtain⟨A,hA⟩: ∃A,l.all kB=A:=⟨_,rfl⟩;rw[hA];refine fnT hT6 hmx Tryz.func69 rfl rfl (ex:= []) ?_;conv=>whnf
 refine⟨Nat,fun i=>i<=l.length/\(l.drop i).all kB=A,fun i=> [(7,.int .i64 i)],fun _=> [],fun i=>l.length-i,0,⟨by simp,by simpa using hA⟩,?_,fun i hi=>?_⟩
 ·((conv=>whnf);refine q9 ?_ ?_;repeat' first|refine lc ?_ ?_|exact la0|exact lr rfl|exact ln0|refine lh1 ?_ ?_|exact lh0|exact bf0|exact bd0|refine bc0 ?_|exact bm0 rfl|exact bb0 rfl|exact bg0 rfl|exact li0 rfl|refine lg0 ?_|refine lt0 ?_|fail)
 (refine⟨by kernel_rfl,?_⟩;(conv=>whnf))
 obtain⟨hi1,hi2⟩:=hi;refine brI (fun h1=>?_) (fun h1=>?_)
 ·conv=>whnf
  have hi:i<l.length:=by simp only[decide_eq_true_eq]at h1;omega
  refine⟨⟨by omega,by omega⟩,fun(x:Iv) hx=>?_⟩;have hx:l[i]? =some x:=by simpa using hx
  have hr:=h x (List.mem_of_getElem? hx);have h51:=i51 x hr;rw[wq hx,List.all_cons]at hi2;have hk:kB x=(!x.all&&viB x):=rfl;generalize kB x=K at*;generalize viB x=V at*;clear hr;obtain⟨⟨x1,x2,x3⟩,⟨x4,x5,x6⟩,x7⟩:=x;have h51:Fn 35 [] [.agg [.bool x1,.sl .u32 x2,.int .i64 x3,.bool x4,.sl .u32 x5,.int .i64 x6,.bool x7]] (.bool V) []:=h51;simp only at hk;conv=>whnf
  cases x7 with
  |true=>
   rw[hk]at hi2;subst hi2;conv=>whnf
   exact⟨lr rfl,lh0⟩
  |false=>
   cases V with
   |false=>
    rw[hk]at hi2;subst hi2;conv=>whnf
    refine gZn h51 ?_;conv=>whnf
    exact⟨lr rfl,lh0⟩
   |true=>
    rw[hk]at hi2;conv=>whnf
    refine gZn h51 ?_;conv=>whnf
    refine⟨i+1,⟨by omega,by simpa using hi2⟩,by show l.length-(i+1)<l.length-i;omega,?_⟩
    ((conv=>whnf);refine q9 ?_ ?_;repeat' first|refine lc ?_ ?_|exact la0|exact lr rfl|exact ln0|refine lh1 ?_ ?_|exact lh0|exact bf0|exact bd0|refine bc0 ?_|exact bm0 rfl|exact bb0 rfl|exact bg0 rfl|exact li0 rfl|refine lg0 ?_|refine lt0 ?_|fail)
    exact ai0 (by rw[wI (by omega)];omega)
 ·have hi: ¬i<l.length:=by simp only[decide_eq_false_iff_not]at h1;omega
  rw[List.drop_of_length_le (by omega)]at hi2;conv=>whnf
  exact⟨ab0 hi2,lh0⟩
theorem zzj (p:Int):Fn 70 [] [.int .i64 p] (.bool (pcB p)) []:=by
 refine fnT hT6 hmx Tryz.func70 rfl rfl (ex:= []) ?_;conv=>whnf
 refine brI (fun h1=>?_) (fun h1=>?_)
 ·have h1:8<=p:=by simpa using h1
  conv=>whnf
  exact⟨ab0 (by simp[pcB,h1]),lh0⟩
 ·have h1: ¬8<=p:=by simpa using h1
  conv=>whnf
  exact⟨ab0 (by simp[pcB,h1]),lh0⟩
theorem leW {h h':Hp}:leA h h' (.agg [.bool false,.nilsl,.int .i64 0,.bool false,.nilsl,.int .i64 0,.bool true]) (.agg (ivC wI0)):=
 lg0 (lc (lr rfl) (lc (li0 rfl) (lc (lr rfl) (lc (lr rfl) (lc (li0 rfl) (lc (lr rfl) (lc (lr rfl) ln0)))))))
theorem i25:Fn 66 [] [] (.agg (ivC wI0)) []:=by
 refine fnT hT6 hmx Tryz.func66 rfl rfl (ex:= []) ?_;conv=>whnf
 exact⟨leW,lh0⟩
def wa (a b:Dy×Int):Iv:=if a.2≠0\/b.2≠0 then wI0 else⟨a.1,b.1,false⟩
theorem qdv (a b:Dy×Int):Fn 79 [] [.agg (dyC a.1),.int .i64 a.2,.agg (dyC b.1),.int .i64 b.2] (.agg (ivC (wa a b))) []:=by
 obtain⟨R,hR⟩: ∃R,wa a b=R:=⟨_,rfl⟩;rw[hR];unfold wa at hR;have h25:=i25;have e25:ivC wI0= [.bool false,.sl .u32 [],.int .i64 0,.bool false,.sl .u32 [],.int .i64 0,.bool true]:=rfl;rw[e25]at h25;obtain⟨⟨a1,a2,a3⟩,e⟩:=a;obtain⟨⟨b1,b2,b3⟩,f⟩:=b;simp only at hR;refine fnT hT6 hmx Tryz.func79 rfl rfl (ex:= []) ?_;conv=>whnf
 refine brI (fun h1=>?_) (fun h1=>?_)
 ·have h1:e≠0:=by simpa using h1
  rw[if_pos (.inl h1)]at hR;subst hR;conv=>whnf
  refine gZn h25 ?_;conv=>whnf
  exact⟨lr rfl,lh0⟩
 have h1:e=0:=by simpa using h1
 conv=>whnf
 refine brI (fun h2=>?_) (fun h2=>?_)
 ·have h2:f≠0:=by simpa using h2
  rw[if_pos (.inr h2)]at hR;subst hR;conv=>whnf
  refine gZn h25 ?_;conv=>whnf
  exact⟨lr rfl,lh0⟩
 have h2:f=0:=by simpa using h2
 rw[if_neg (by simp[h1,h2])]at hR;subst hR;conv=>whnf
 exact⟨lr rfl,lh0⟩
theorem xo {d:Dy} (h:VD d):VD (yw d):=by
 unfold yw;split
 ·exact qf
 ·rename_i h0;refine⟨h.eq,.inr ?_⟩;rcases h.ok with ⟨h1,_⟩|h1
  ·exact absurd h1 h0
  ·exact h1
theorem zec {d:Dy} (h:VD d):VD (za7 d):=by
 refine⟨h.eq,?_⟩;rcases h.ok with ⟨h1,h2,h3⟩|h1
 ·exact .inl ⟨h1,rfl,h3⟩
 ·exact .inr h1
theorem zqa (neg:Bool) (m:Nat) (e:Int) (more up:Bool) (p:Nat) (hp:8<=p/\p<=512):VD (zay neg m e more p up).1:=by
 have h:=znq m e more (up != neg) p hp;unfold zay;split
 ·exact xo h
 ·exact h
theorem wg (d:Dy) (up:Bool) (p:Nat) (hp:8<=p/\p<=512):VD (qo d p up).1:=zqa _ _ _ _ _ _ hp
theorem kb (a b:Dy) (up:Bool) (p:Nat) (hp:8<=p/\p<=512):VD (jv a b p up).1:=zqa _ _ _ _ _ _ hp
theorem xy (a b:Dy) (up:Bool) (p:Nat) (hp:8<=p/\p<=512):VD (kq a b p up).1:=by
 unfold kq;split
 ·exact qf
 ·exact zqa _ _ _ _ _ _ hp
theorem zvu (a b:Dy) (up:Bool) (p:Nat) (hp:8<=p/\p<=512):VD (zcj a b p up).1:=by
 unfold zcj;split
 ·exact wg _ _ _ hp
 ·split
  ·exact wg _ _ _ hp
  ·unfold qc8;split
   ·exact qf
   ·exact zqa _ _ _ _ _ _ hp
theorem zvs (d:Dy) (up:Bool) (p:Nat) (hp:8<=p/\p<=512):VD (uj d p up).1:=by
 unfold uj;split
 ·exact qf
 ·exact znq _ _ _ _ _ hp
theorem VD_ck (neg:Bool) (n:Nat) (e:Int):VD (ckN neg n e).1:=by
 unfold ckN;split
 ·rename_i h;exact zmf h
 ·exact qf
theorem zck (d:Dy) (k:Int):VD (vj d k).1:=by
 unfold vj;split
 ·exact qf
 ·exact VD_ck _ _ _
theorem kg {p:Int}:pcB p=true<-> ∃q:Nat,p=q/\8<=q/\q<=512:=by
 unfold pcB;simp only[q7,decide_eq_true_eq];constructor
 ·intro h;exact⟨p.toNat,by omega,by omega,by omega⟩
 ·rintro⟨q,rfl,h⟩;omega
theorem e25:ivC wI0= [.bool false,.sl .u32 [],.int .i64 0,.bool false,.sl .u32 [],.int .i64 0,.bool true]:=rfl
theorem k1 (x:Iv): [x].all kB=kB x:=by simp
theorem k2 (x y:Iv): [x,y].all kB=(kB x&&kB y):=by simp
def zff (x:Iv):Iv:=if kB x=true then⟨yw x.hi,yw x.lo,false⟩else wI0
theorem i86 (x:Iv) (h:RI x):Fn 26 [] [.agg (ivC x)] (.agg (ivC (zff x))) []:=by
 have h126:=zpc [x] (by simp) (by simpa using h);rw[k1]at h126;have h25:=i25;rw[e25]at h25;by_cases hk:kB x=true
 ·have k:=(zp h).1 hk;have hR:zff x=⟨yw x.hi,yw x.lo,false⟩:=by unfold zff;rw[if_pos hk]
  rw[hR];rw[hk]at h126;have n1:Fn 85 [] [.agg (dyC x.lo)] (.agg (dyC (yw x.lo))) []:=qag k.lo;have n2:Fn 85 [] [.agg (dyC x.hi)] (.agg (dyC (yw x.hi))) []:=qag k.hi;generalize yw x.lo=a at*;generalize yw x.hi=b at*;clear hR k hk h;refine fnT hT6 hmx Tryz.func26 rfl rfl (ex:= []) ?_;conv=>whnf
  refine gZn h126 ?_;conv=>whnf
  refine gZn n2 ?_;conv=>whnf
  refine gZn n1 ?_;conv=>whnf
  (refine⟨by kernel_rfl,by kernel_rfl,?_⟩;(conv=>whnf))
  exact⟨lr rfl,lh0⟩
 ·have hR:zff x=wI0:=by unfold zff;rw[if_neg hk]
  rw[hR];rw[show kB x=false by simpa using hk]at h126;clear hR hk h;refine fnT hT6 hmx Tryz.func26 rfl rfl (ex:= []) ?_;conv=>whnf
  refine gZn h126 ?_;conv=>whnf
  refine gZn h25 ?_;conv=>whnf
  exact⟨lr rfl,lh0⟩
def zmu (x:Iv):Int:=if kB x=true then(if 0<wl x.lo then 1 else if wl x.hi<0 then-1 else 0)else 0
theorem i134 (x:Iv) (h:RI x):Fn 298 [] [.agg (ivC x)] (.int .i64 (zmu x)) []:=by
 have h126:=zpc [x] (by simp) (by simpa using h);rw[k1]at h126;by_cases hk:kB x=true
 ·have k:=(zp h).1 hk;have hR:zmu x=(if 0<wl x.lo then 1 else if wl x.hi<0 then-1 else 0):=by unfold zmu;rw[if_pos hk]
  rw[hk]at h126;have n1:=zrx k.lo;have n2:=zrx k.hi;generalize zmu x=R at*;generalize wl x.lo=a at*;generalize wl x.hi=b at*;clear k hk h;refine fnT hT6 hmx Tryz.func298 rfl rfl (ex:= []) ?_;conv=>whnf
  refine gZn h126 ?_;conv=>whnf
  refine gZn n1 ?_;conv=>whnf
  refine brI (fun h1=>?_) (fun h1=>?_)
  ·have h1:0<a:=of_decide_eq_true h1;rw[if_pos h1]at hR;subst hR;conv=>whnf
   exact⟨lr rfl,lh0⟩
  have h1: ¬0<a:=of_decide_eq_false h1;rw[if_neg h1]at hR;conv=>whnf
  refine gZn n2 ?_;conv=>whnf
  refine brI (fun h2=>?_) (fun h2=>?_)
  ·have h2:b<0:=of_decide_eq_true h2;rw[if_pos h2]at hR;subst hR;conv=>whnf
   exact⟨lr rfl,lh0⟩
  ·have h2: ¬b<0:=of_decide_eq_false h2;rw[if_neg h2]at hR;subst hR;conv=>whnf
   exact⟨lr rfl,lh0⟩
 ·have hR:zmu x=0:=by unfold zmu;rw[if_neg hk]
  rw[hR];rw[show kB x=false by simpa using hk]at h126;clear hR hk h;refine fnT hT6 hmx Tryz.func298 rfl rfl (ex:= []) ?_;conv=>whnf
  refine gZn h126 ?_;conv=>whnf
  exact⟨lr rfl,lh0⟩
def qp (d:Dy):Iv:=⟨d,d,false⟩
theorem qdu {d:Dy} (h:VD d):Fn 82 [] [.agg (dyC d)] (.agg (ivC (qp d))) []:=by
 have h80:=v80 h;clear h;refine fnT hT6 hmx Tryz.func82 rfl rfl (ex:= []) ?_;conv=>whnf
 refine gZn h80 ?_;conv=>whnf
 exact⟨lr rfl,lh0⟩
def uk (x y:Iv) (p:Int):Iv:=if(kB x&&kB y)=true/\pcB p=true then wa (zcj x.lo y.lo p.toNat false) (zcj x.hi y.hi p.toNat true)else wI0
theorem i82 (x y:Iv) (hx:RI x) (hy:RI y) (p:Int):Fn 23 G0 [.agg (ivC x),.agg (ivC y),.int .i64 p] (.agg (ivC (uk x y p))) G0:=by
 have h126:=zpc [x,y] (by simp) (by simpa using⟨hx,hy⟩);rw[k2]at h126;have h127:=zzj p;have h25:=i25;rw[e25]at h25;by_cases hk:(kB x&&kB y)=true
 ·rw[hk]at h126;by_cases hp:pcB p=true
  ·rw[hp]at h127;have hR:uk x y p=wa (zcj x.lo y.lo p.toNat false) (zcj x.hi y.hi p.toNat true):=by unfold uk;rw[if_pos ⟨hk,hp⟩]
   rw[hR];rw[q7]at hk;have kx:=(zp hx).1 hk.1;have ky:=(zp hy).1 hk.2;obtain⟨q,rfl,hq⟩:=kg.1 hp;rw[Int.toNat_natCast];have n1:=v128 kx.lo ky.lo q hq;have n2:=v129 kx.hi ky.hi q hq;have h130:=qdv (zcj x.lo y.lo q false) (zcj x.hi y.hi q true);generalize wa (zcj x.lo y.lo q false) (zcj x.hi y.hi q true)=M at*;generalize zcj x.lo y.lo q false=A at*;generalize zcj x.hi y.hi q true=B at*;clear hR hk kx ky hx hy;obtain⟨⟨a1,a2,a3⟩,e⟩:=A;obtain⟨⟨b1,b2,b3⟩,f⟩:=B;refine fnT hT6 hmx Tryz.func23 rfl rfl (ex:= []) ?_;conv=>whnf
   refine gZn h126 ?_;conv=>whnf
   refine gZn h127 ?_;conv=>whnf
   refine gZc n1 ?_;conv=>whnf
   refine gZc n2 ?_;conv=>whnf
   refine gZn h130 ?_;conv=>whnf
   exact⟨lr rfl,leG⟩
  ·have hR:uk x y p=wI0:=by unfold uk;rw[if_neg fun c=>hp c.2]
   rw[hR];rw[show pcB p=false by simpa using hp]at h127;clear hR hk hx hy;refine fnT hT6 hmx Tryz.func23 rfl rfl (ex:= []) ?_;conv=>whnf
   refine gZn h126 ?_;conv=>whnf
   refine gZn h127 ?_;conv=>whnf
   refine gZn h25 ?_;conv=>whnf
   exact⟨lr rfl,leG⟩
 ·have hR:uk x y p=wI0:=by unfold uk;rw[if_neg fun c=>hk c.1]
  rw[hR];rw[show(kB x&&kB y)=false by simpa using hk]at h126;clear hR hk hx hy;refine fnT hT6 hmx Tryz.func23 rfl rfl (ex:= []) ?_;conv=>whnf
  refine gZn h126 ?_;conv=>whnf
  refine gZn h25 ?_;conv=>whnf
  exact⟨lr rfl,leG⟩
theorem qbs {x:Iv} (h:RI x):RI (zff x):=by
 unfold zff;split
 ·rename_i hk;have k:=(zp h).1 hk;have h1:=xo k.hi;have h2:=xo k.lo;exact⟨h1.lb,h2.lb,by have:=h1.len;simp only;omega,by have:=h2.len;simp only;omega⟩
 ·exact zn1
def qdm (x y:Iv) (p:Int):Iv:=uk x (zff y) p
theorem i83 (x y:Iv) (hx:RI x) (hy:RI y) (p:Int):Fn 267 G0 [.agg (ivC x),.agg (ivC y),.int .i64 p] (.agg (ivC (qdm x y p))) G0:=by
 have h86:=i86 y hy;have h82:=i82 x (zff y) hx (qbs hy) p;unfold qdm;generalize uk x (zff y) p=M at*;generalize zff y=N at*;clear hx hy;refine fnT hT6 hmx Tryz.func267 rfl rfl (ex:= []) ?_;conv=>whnf
 refine gZn h86 ?_;conv=>whnf
 refine gZc h82 ?_;conv=>whnf
 (refine⟨by kernel_rfl,by kernel_rfl,?_⟩;(conv=>whnf))
 exact⟨lr rfl,leG⟩
end Go.Proofs.YtbolipecnhlnnaaGreatDoor
