/-
  Rounding: quotients, square roots.
-/
import Derived.Test.YtgehdbenidimlaaGreatDoorQYr
set_option linter.unusedVariables false
set_option linter.unusedSimpArgs false
namespace Go.Proofs.YtgehdbenidimlaaGreatDoor
open Go Go.Sx
set_option maxRecDepth 100000
set_option maxHeartbeats 8000000
def xw (a b:Dy) (p:Nat):Nat:=p+3+bl (nm b)-bl (nm a)
def ue (a b:Dy) (p:Nat) (up:Bool):Dy×Int:=
 if nm b=0 then(d0,10)else za0 (a.neg != b.neg) (nm a*2^xw a b p/nm b) (a.e-xw a b p-b.e) (decide (nm a*2^xw a b p % nm b≠0)) p up
theorem zio (n:Nat):decide ((bl n:Int)>0)=decide (n≠0):=by
 rw[Bool.eq_iff_iff];simp only[decide_eq_true_eq];constructor
 ·intro h e;subst e;simp[jz]at h
 ·intro h;have hb:bl n≠0:=fun e=>h (zaw.1 e)
  omega
theorem v121 {a b:Dy} (ha:VD a) (hb:VD b) (up:Bool) (p:Nat) (hp:8<=p/\p<=512):Fn 120 G0 [.agg (dyC a),.agg (dyC b),.int .i64 p,.bool up] (dyV (ue a b p up)) G0:=by
 have a1:=ha.bits;have b1:=hb.bits;have a2:=ha.exp;have b2:=hb.exp;have h164:=v164 (p:=p) (l:= [a,b]) hp (by simp) (by simpa using⟨ha,hb⟩);have h165a:=v165 ha;have h165b:=v165 hb;have hz:nm b≠0->nm a=0->ue a b p up=(d0,0):=fun h0 h=>by
  unfold ue xw;rw[if_neg h0,h];have e1:0*2^(p+3+bl (nm b)-bl 0)=0:=Nat.zero_mul _;rw[e1,Nat.zero_div,Nat.zero_mod];refine zkn _ _ _ _ ?_;rcases ha.ok with ⟨_,_,h3⟩|⟨h3,_⟩<;>omega
 have hz0:nm b=0->ue a b p up=(d0,10):=fun h=>by unfold ue;rw[if_pos h]
 have hk:bl (nm a*2^xw a b p)<=8192:=by
  by_cases h:nm a=0
  ·rw[h,Nat.zero_mul];decide
  ·rw[qj _ _ h];unfold xw;omega
 have hkb:xw a b p<=8000:=by unfold xw;omega
 have hke:(if IntKind.i64.wrap (IntKind.i64.wrap (IntKind.i64.wrap ((p:Int)+3)+(bl (nm b):Int))-(bl (nm a):Int))>0 then IntKind.i64.wrap (IntKind.i64.wrap (IntKind.i64.wrap ((p:Int)+3)+(bl (nm b):Int))-(bl (nm a):Int))else 0)=((xw a b p:Nat):Int):=by
  rw[wI (x:=(p:Int)+3) (by omega),wI (x:=(p:Int)+3+(bl (nm b):Int)) (by omega),wI (by omega)];unfold xw;split<;>omega
 have h167:=qc0 (nm a) (xw a b p) (by omega) hk (by omega);have h166:=y166 (nm a*2^xw a b p) (nm b) (by omega) (by omega);rw[if_neg (by omega)]at h166;have hq:bl (nm a*2^xw a b p/nm b)<=8192:=by have:=ug (Nat.div_le_self (nm a*2^xw a b p) (nm b));omega
 have hr:bl (nm a*2^xw a b p % nm b)<=8192:=by have:=ug (Nat.mod_le (nm a*2^xw a b p) (nm b));omega
 have h169:=v169 (nm a*2^xw a b p % nm b) (by omega);have h168:=v168 (a.neg != b.neg) (nm a*2^xw a b p/nm b) (a.e-xw a b p-b.e) (decide (nm a*2^xw a b p % nm b≠0)) up p (by omega) (by omega) hp;rw[←zio]at h168;have hR:nm b≠0->za0 (a.neg != b.neg) (nm a*2^xw a b p/nm b) (a.e-xw a b p-b.e) (decide ((bl (nm a*2^xw a b p % nm b):Int)>0)) p up=ue a b p up:=fun h=>by unfold ue;rw[if_neg h,←zio]
 have hw:IntKind.i64.wrap (IntKind.i64.wrap (a.e-(xw a b p:Int))-b.e)=a.e-xw a b p-b.e:=by rw[wI (x:=a.e-(xw a b p:Int)) (by omega),wI (by omega)]
 have ae:=ha.eq;have be:=hb.eq;generalize ue a b p up=R at*;generalize xw a b p=k at*;generalize nm a=x at*;generalize nm b=y at*;obtain⟨an,am,ax⟩:=a;obtain⟨bn,bm,bx⟩:=b;simp only at ae be a2 b2 h168 hR hw;subst ae be;by_cases hy0:y=0
 ·rw[hz0 hy0];subst hy0;rw[jl]at*;refine fnT hT6 hmx Tryz.func120 rfl rfl (ex:= []) ?_;conv=>whnf
  refine gZn h164 ?_;conv=>whnf
  exact⟨zu2,leG⟩
 rw[hR hy0]at h168;rw[if_neg hy0]at h166;by_cases hx0:x=0
 ·rw[hz hy0 hx0];subst hx0;rw[jl]at*;refine fnT hT6 hmx Tryz.func120 rfl rfl (ex:= []) ?_;conv=>whnf
  refine gZn h164 ?_;conv=>whnf
  refine brI (fun h6=>?_) (fun h6=>?_)
  ·have h6:(((toL y).length :Int)==0)=true:=h6;rw[zdc hy0]at h6;cases h6
  conv=>whnf
  exact⟨zu2,leG⟩
 obtain⟨⟨r1,r2,r3⟩,r4⟩:=R;refine fnT hT6 hmx Tryz.func120 rfl rfl (ex:= []) ?_;conv=>whnf
 refine gZn h164 ?_;conv=>whnf
 refine brI (fun h6=>?_) (fun h6=>?_)
 ·have h6:(((toL y).length :Int)==0)=true:=h6;rw[zdc hy0]at h6;cases h6
 conv=>whnf
 refine brI (fun h6=>?_) (fun h6=>?_)
 ·have h6:(((toL x).length :Int)==0)=true:=h6;rw[zdc hx0]at h6;cases h6
 conv=>whnf
 refine gZn h165b ?_;conv=>whnf
 refine gZn h165a ?_;conv=>whnf
 (refine⟨by kernel_rfl,by kernel_rfl,?_⟩;(conv=>whnf))
 rw[hke];refine gZn h167 ?_;conv=>whnf
 refine gZn h166 ?_;conv=>whnf
 (refine⟨by kernel_rfl,by kernel_rfl,?_⟩;(conv=>whnf))
 refine gZn h169 ?_;conv=>whnf
 rw[hw];refine gZc h168 ?_;conv=>whnf
 (refine⟨by kernel_rfl,by kernel_rfl,?_⟩;(conv=>whnf))
 exact⟨lr rfl,leG⟩
def jh (a b:Dy) (p:Nat):Int:=if qb a-qb b<=2 then min (min a.e (qb a-p-8)) b.e else min a.e (qb a-p-8)
def zhk (a b:Dy) (p:Nat):(Nat×Int×Bool)×Bool:=
 if a.neg=b.neg then((nm a*2^(a.e-jh a b p).toNat +(wu (nm b) b.e false (jh a b p)).1,jh a b p,(wu (nm b) b.e false (jh a b p)).2),false)
 else if nm a*2^(a.e-jh a b p).toNat <upN (wu (nm b) b.e false (jh a b p)) true then((upN (wu (nm b) b.e false (jh a b p)) true-nm a*2^(a.e-jh a b p).toNat,jh a b p,false),true)
 else((nm a*2^(a.e-jh a b p).toNat -upN (wu (nm b) b.e false (jh a b p)) true,jh a b p,(wu (nm b) b.e false (jh a b p)).2),false)
theorem v263 (x y:Nat) (hx:bl x<=8190) (hy:bl y<=8190):Fn 198 [] [.sl .u32 (toL x),.sl .u32 (toL y)] (dnV (toL (x+y),0)) []:=by
 have h:=y263 x y (by omega) (by omega);have hs:bl (x+y)<=8191:=by
  exact zul hx hy
 rw[if_neg (by omega)]at h;unfold dnN at h
 rwa [if_neg (by omega)]at h
theorem v264 (x y:Nat) (hx:bl x<=8192) (hy:bl y<=8192) (h:y<=x):Fn 199 [] [.sl .u32 (toL x),.sl .u32 (toL y)] (dnV (toL (x-y),0)) []:=by
 have h264:=y264 x y (by omega) (by omega);have:=ug (Nat.sub_le x y);rw[if_neg (by omega),if_neg (by omega)]at h264;unfold dnN at h264
 rwa [if_neg (by omega)]at h264
theorem zna {a b:Dy} {p:Nat} (ha:VD a) (hb:VD b) (h0:nm a≠0) (hle:qb b<=qb a) (hb0:nm b≠0) (hp:8<=p/\p<=512):
 jh a b p<=a.e/\qb a-4200<=jh a b p/\ -40000<=jh a b p/\jh a b p<=16384:=by
 have a1:=ha.bits;have b1:=hb.bits;have a2:=ha.exp;have b2:=hb.exp;have ta:qb a=bl (nm a)+a.e:=by unfold qb;rw[if_neg h0]
 have tb:qb b=bl (nm b)+b.e:=by unfold qb;rw[if_neg hb0]
 unfold jh;split<;>omega
theorem v224 {a b:Dy} (ha:VD a) (hb:VD b) (ha0:nm a≠0) (hb0:nm b≠0) (hle:qb b<=qb a) (p:Nat) (hp:8<=p/\p<=512):
 Fn 168 [] [.agg (dyC a),.agg (dyC b),.int .i64 p] (.tup [.agg (xcC (zhk a b p).1.1 (zhk a b p).1.2.1 (zhk a b p).1.2.2),.bool (zhk a b p).2]) []:=by
 have a1:=ha.bits;have b1:=hb.bits;have a2:=ha.exp;have b2:=hb.exp;have h176a:=zxu ha;have h176b:=zxu hb;obtain⟨l1,l2,l3,l4⟩:=zna ha hb ha0 hle hb0 hp;have ta:qb a=bl (nm a)+a.e:=by unfold qb;rw[if_neg ha0]
 have tb:qb b=bl (nm b)+b.e:=by unfold qb;rw[if_neg hb0]
 have xb:bl (nm a*2^(a.e-jh a b p).toNat)<=4200:=by rw[qj _ _ ha0];omega
 have fb:bl (wu (nm b) b.e false (jh a b p)).1<=4200:=by
  unfold wu;split
  ·simp only;rw[qj _ _ hb0];omega
  ·simp only;have:=ug (Nat.div_le_self (nm b) (2^(jh a b p-b.e).toNat));omega
 have hf1:jh a b p<=b.e->wu (nm b) b.e false (jh a b p)=(nm b*2^(b.e-jh a b p).toNat,false):=fun h=>by unfold wu;rw[if_pos h]
 have hf2: ¬jh a b p<=b.e->wu (nm b) b.e false (jh a b p)=(nm b/2^(jh a b p-b.e).toNat,decide (nm b % 2^(jh a b p-b.e).toNat ≠0)):=fun h=>by unfold wu;rw[if_neg h,Bool.false_or]
 have g1:IntKind.i64.wrap (a.e-jh a b p)=(((a.e-jh a b p).toNat :Nat):Int):=by rw[wI (by omega)];omega
 have g2:jh a b p<=b.e->IntKind.i64.wrap (b.e-jh a b p)=(((b.e-jh a b p).toNat :Nat):Int):=fun h=>by rw[wI (by omega)];omega
 have g3: ¬jh a b p<=b.e->IntKind.i64.wrap (jh a b p-b.e)=(((jh a b p-b.e).toNat :Nat):Int):=fun h=>by rw[wI (by omega)];omega
 have m1:(if IntKind.i64.wrap (IntKind.i64.wrap (qb a-(p:Int))-8)<a.e then IntKind.i64.wrap (IntKind.i64.wrap (qb a-(p:Int))-8)else a.e)=min a.e (qb a-p-8):=by
  rw[wI (x:=qb a-(p:Int)) (by omega),wI (by omega)];split<;>omega
 have m2:IntKind.i64.wrap (qb a-qb b)=qb a-qb b:=wI (by omega);have m3:qb a-qb b<=2->(if b.e<min a.e (qb a-p-8)then b.e else min a.e (qb a-p-8))=jh a b p:=fun h=>by unfold jh;rw[if_pos h];split<;>omega
 have m4: ¬qb a-qb b<=2->min a.e (qb a-p-8)=jh a b p:=fun h=>by unfold jh;rw[if_neg h]
 have h167a:=qc0 (nm a) (a.e-jh a b p).toNat (by omega) (by omega) (by omega);unfold zhk;generalize jh a b p=low at*;obtain⟨F,hF⟩: ∃F,wu (nm b) b.e false low=F:=⟨_,rfl⟩;rw[hF]at fb hf1 hf2⊢;have h167b:low<=b.e->Fn 164 [] [.sl .u32 (toL (nm b)),.int .i64 (IntKind.i64.wrap (b.e-low))] (.sl .u32 (toL F.1)) []/\F.2=false:=fun h=>by
  have e:=hf1 h;rw[e]at fb⊢;simp only at fb;rw[g2 h];exact⟨qc0 (nm b) _ (by omega) (by omega) (by omega),rfl⟩
 have h262b: ¬low<=b.e->Fn 197 [] [.sl .u32 (toL (nm b)),.int .i64 (IntKind.i64.wrap (low-b.e))] (.tup [.sl .u32 (toL F.1),.bool F.2]) []:=fun h=>by
  rw[hf2 h];exact v262 (nm b) _ (g3 h) (by omega) (by omega)
 obtain⟨x,hx⟩: ∃x,nm a*2^(a.e-low).toNat =x:=⟨_,rfl⟩;rw[hx]at xb h167a⊢;have ae:=ha.eq;have be:=hb.eq;clear hF hf1 hf2 g2 g3 ha hb hx;generalize qb a=tA at*;generalize qb b=tB at*;generalize nm a=na at*;generalize nm b=nb at*;obtain⟨an,am,ax⟩:=a;obtain⟨bn,bm,bx⟩:=b;simp only at ae be a2 b2 g1 m1 m3 m4 h167a h167b h262b⊢;subst ae be;rw[←g1]at h167a;have h263:=v263 x F.1 (by omega) (by omega);have h1:=v263 F.1 1 (by omega) (by decide);rw[zje]at h1;have ub:bl (upN F true)<=4300:=by
  unfold upN;split
  ·have:=zhd F.1;omega
  ·omega
 have hu1:F.2=true->upN F true=F.1+1:=fun h=>by unfold upN;rw[h];rfl
 have hu2:F.2=false->upN F true=F.1:=fun h=>by unfold upN;rw[h];rfl
 have h177:=v177 x (upN F true) (by omega) (by omega);have h264a:=v264 x (upN F true) (by omega) (by omega);have h264b:=v264 (upN F true) x (by omega) (by omega);obtain⟨y,lost⟩:=F;simp only at*;generalize hU:upN (y,lost) true=U at*;refine wd (code:=Tryz.f168.body.getD .skip) hT6 hmx Tryz.func168 rfl rfl (ex:= []) ?_;conv=>whnf
 refine ko hT6 hmx 7 (fun _:Unit=>⟨[.any,.any,.int .i64 p,.ptr 3 0,.ptr 4 0,.any,.ptr 6 0,.bool false,.int .i64 low,.sl .u32 (toL x),.sl .u32 (toL y),.bool lost]++um 97,[(3,.cells [.bool an,.sl .u32 (toL na),.int .i64 ax]),(4,.cells [.bool bn,.sl .u32 (toL nb),.int .i64 bx]),(6,.cells [.nilsl,.int .i64 0,.bool false])]⟩) (fun _=>by kernel_rfl) ?_ (fun _=>?_)
 ·conv=>whnf
  refine gZn h176a ?_;conv=>whnf
  (refine⟨by kernel_rfl,by kernel_rfl,?_⟩;(conv=>whnf))
  rw[m1];refine gZn h176a ?_;conv=>whnf
  refine gZn h176b ?_;conv=>whnf
  (refine⟨by kernel_rfl,by kernel_rfl,?_⟩;(conv=>whnf))
  rw[m2];have tail:True:=trivial;refine brI (fun h5=>?_) (fun h5=>?_)
  ·have h5:tA-tB<=2:=of_decide_eq_true h5;conv=>whnf
   rw[m3 h5];refine gZn h167a ?_;conv=>whnf
   refine brI (fun h6=>?_) (fun h6=>?_)
   ·have h6:low<=bx:=of_decide_eq_true h6;obtain⟨hb1,hb2⟩:=h167b h6;subst hb2;conv=>whnf
    refine gZn hb1 ?_;conv=>whnf
    refine⟨(),?_⟩
    ((conv=>whnf);refine And.intro ?_ ?_;repeat' first|refine lc ?_ ?_|exact la0|exact lr rfl|exact ln0|refine lh1 ?_ ?_|exact lh0|exact bf0|exact bd0|refine bc0 ?_|exact bm0 rfl|exact bb0 rfl|exact bg0 rfl|exact li0 rfl|refine lg0 ?_|refine lt0 ?_|fail)
   ·have h6: ¬low<=bx:=of_decide_eq_false h6;conv=>whnf
    refine gZn (h262b h6) ?_;conv=>whnf
    refine⟨(),?_⟩
    ((conv=>whnf);refine And.intro ?_ ?_;repeat' first|refine lc ?_ ?_|exact la0|exact lr rfl|exact ln0|refine lh1 ?_ ?_|exact lh0|exact bf0|exact bd0|refine bc0 ?_|exact bm0 rfl|exact bb0 rfl|exact bg0 rfl|exact li0 rfl|refine lg0 ?_|refine lt0 ?_|fail)
  ·have h5: ¬tA-tB<=2:=of_decide_eq_false h5;conv=>whnf
   rw[m4 h5];refine gZn h167a ?_;conv=>whnf
   refine brI (fun h6=>?_) (fun h6=>?_)
   ·have h6:low<=bx:=of_decide_eq_true h6;obtain⟨hb1,hb2⟩:=h167b h6;subst hb2;conv=>whnf
    refine gZn hb1 ?_;conv=>whnf
    refine⟨(),?_⟩
    ((conv=>whnf);refine And.intro ?_ ?_;repeat' first|refine lc ?_ ?_|exact la0|exact lr rfl|exact ln0|refine lh1 ?_ ?_|exact lh0|exact bf0|exact bd0|refine bc0 ?_|exact bm0 rfl|exact bb0 rfl|exact bg0 rfl|exact li0 rfl|refine lg0 ?_|refine lt0 ?_|fail)
   ·have h6: ¬low<=bx:=of_decide_eq_false h6;conv=>whnf
    refine gZn (h262b h6) ?_;conv=>whnf
    refine⟨(),?_⟩
    ((conv=>whnf);refine And.intro ?_ ?_;repeat' first|refine lc ?_ ?_|exact la0|exact lr rfl|exact ln0|refine lh1 ?_ ?_|exact lh0|exact bf0|exact bd0|refine bc0 ?_|exact bm0 rfl|exact bb0 rfl|exact bg0 rfl|exact li0 rfl|refine lg0 ?_|refine lt0 ?_|fail)
 ·refine je hT6 hmx ?_;conv=>whnf
  refine brI (fun h5=>?_) (fun h5=>?_)
  ·have h5:an=bn:=by have h5:(an==bn)=true:=h5;rwa [beq_iff_eq]at h5
   rw[if_pos h5];conv=>whnf
   refine gZn h263 ?_;conv=>whnf
   exact⟨lr rfl,lh0⟩
  ·have h5:an≠bn:=by have h5:(an==bn)=false:=h5;rwa [beq_eq_false_iff_ne]at h5
   rw[if_neg h5];conv=>whnf
   cases lost with
   |true=>
    have e:=hu1 rfl;rw[←e]at h1;conv=>whnf
    refine gZn h1 ?_;conv=>whnf
    refine gZn h177 ?_;conv=>whnf
    refine brI (fun h6=>?_) (fun h6=>?_)
    ·have h6:xz x U<0:=of_decide_eq_true h6;have h6:x<U:=by unfold xz at h6;split at h6;assumption;split at h6<;>omega
     rw[if_pos h6];conv=>whnf
     refine gZn (h264b (by omega)) ?_;conv=>whnf
     exact⟨lr rfl,lh0⟩
    ·have h6: ¬xz x U<0:=of_decide_eq_false h6;have h6: ¬x<U:=fun h=>h6 (by unfold xz;rw[if_pos h];decide)
     rw[if_neg h6];conv=>whnf
     refine gZn (h264a (by omega)) ?_;conv=>whnf
     exact⟨lr rfl,lh0⟩
   |false=>
    have e:=hu2 rfl;subst e;conv=>whnf
    refine gZn h177 ?_;conv=>whnf
    refine brI (fun h6=>?_) (fun h6=>?_)
    ·have h6:xz x U<0:=of_decide_eq_true h6;have h6:x<U:=by unfold xz at h6;split at h6;assumption;split at h6<;>omega
     rw[if_pos h6];conv=>whnf
     refine gZn (h264b (by omega)) ?_;conv=>whnf
     exact⟨lr rfl,lh0⟩
    ·have h6: ¬xz x U<0:=of_decide_eq_false h6;have h6: ¬x<U:=fun h=>h6 (by unfold xz;rw[if_pos h];decide)
     rw[if_neg h6];conv=>whnf
     refine gZn (h264a (by omega)) ?_;conv=>whnf
     exact⟨lr rfl,lh0⟩
theorem zzu {a b:Dy} {p:Nat} (ha:VD a) (hb:VD b) (ha0:nm a≠0) (hb0:nm b≠0) (hle:qb b<=qb a) (hp:8<=p/\p<=512):
 bl (zhk a b p).1.1<=8000/\ -100000<=(zhk a b p).1.2.1/\(zhk a b p).1.2.1<=100000:=by
 have a1:=ha.bits;have b1:=hb.bits;have a2:=ha.exp;have b2:=hb.exp;obtain⟨l1,l2,l3,l4⟩:=zna ha hb ha0 hle hb0 hp;have ta:qb a=bl (nm a)+a.e:=by unfold qb;rw[if_neg ha0]
 have tb:qb b=bl (nm b)+b.e:=by unfold qb;rw[if_neg hb0]
 have xb:bl (nm a*2^(a.e-jh a b p).toNat)<=4200:=by rw[qj _ _ ha0];omega
 have fb:bl (wu (nm b) b.e false (jh a b p)).1<=4200:=by
  unfold wu;split
  ·simp only;rw[qj _ _ hb0];omega
  ·simp only;have:=ug (Nat.div_le_self (nm b) (2^(jh a b p-b.e).toNat));omega
 unfold zhk;generalize jh a b p=low at*;generalize nm a*2^(a.e-low).toNat =x at*;generalize wu (nm b) b.e false low=F at*;have hu:bl (upN F true)<=4201:=by
  unfold upN;split
  ·have:=zhd F.1;omega
  ·omega
 split
 ·refine⟨?_,by simp only;omega,by simp only;omega⟩;simp only;have:bl (x+F.1)<=4201:=zul xb fb;omega
 ·split
  ·refine⟨?_,by simp only;omega,by simp only;omega⟩;have:=ug (Nat.sub_le (upN F true) x);simp only;omega
  ·refine⟨?_,by simp only;omega,by simp only;omega⟩;have:=ug (Nat.sub_le x (upN F true));simp only;omega
def zho (a b:Dy):Dy:=if qb a<qb b then b else a
def zhv (a b:Dy):Dy:=if qb a<qb b then a else b
def qb3 (c d:Dy) (p:Nat) (up:Bool):Dy×Int:=
 if(zhk c d p).1.1=0/\(zhk c d p).1.2.2=false then(d0,0)else za0 (c.neg != (zhk c d p).2) (zhk c d p).1.1 (zhk c d p).1.2.1 (zhk c d p).1.2.2 p up
def zai (a b:Dy) (p:Nat) (up:Bool):Dy×Int:=
 if nm a=0 then wj b p up else if nm b=0 then wj a p up else qb3 (zho a b) (zhv a b) p up
theorem v179 {a b:Dy} (ha:VD a) (hb:VD b) (up:Bool) (p:Nat) (hp:8<=p/\p<=512):Fn 121 G0 [.agg (dyC a),.agg (dyC b),.int .i64 p,.bool up] (dyV (zai a b p up)) G0:=by
 have h164:=v164 (p:=p) (l:= [a,b]) hp (by simp) (by simpa using⟨ha,hb⟩);by_cases ha0:nm a=0
 ·have h223:=v223 hb up p hp;have hR:zai a b p up=wj b p up:=by unfold zai;rw[if_pos ha0]
  rw[hR];generalize wj b p up=R at*;have ae:=ha.eq;rw[ha0]at ae;clear ha hb hR ha0;obtain⟨an,am,ax⟩:=a;obtain⟨bn,bm,bx⟩:=b;obtain⟨⟨r1,r2,r3⟩,r4⟩:=R;simp only at ae;subst ae;refine fnT hT6 hmx Tryz.func121 rfl rfl (ex:= []) ?_;conv=>whnf
  refine gZn h164 ?_;conv=>whnf
  refine gZc h223 ?_;conv=>whnf
  exact⟨lr rfl,leG⟩
 by_cases hb0:nm b=0
 ·have h223:=v223 ha up p hp;have hR:zai a b p up=wj a p up:=by unfold zai;rw[if_neg ha0,if_pos hb0]
  rw[hR];generalize wj a p up=R at*;have ae:=ha.eq;have be:=hb.eq;rw[hb0]at be;clear ha hb hR hb0;generalize nm a=na at*;obtain⟨an,am,ax⟩:=a;obtain⟨bn,bm,bx⟩:=b;obtain⟨⟨r1,r2,r3⟩,r4⟩:=R;simp only at ae be;subst ae be;refine fnT hT6 hmx Tryz.func121 rfl rfl (ex:= []) ?_;conv=>whnf
  refine gZn h164 ?_;conv=>whnf
  refine brI (fun h6=>?_) (fun h6=>?_)
  ·have h6:(((toL na).length :Int)==0)=true:=h6;rw[zdc ha0]at h6;cases h6
  conv=>whnf
  refine gZc h223 ?_;conv=>whnf
  exact⟨lr rfl,leG⟩
 have hR:zai a b p up=qb3 (zho a b) (zhv a b) p up:=by unfold zai;rw[if_neg ha0,if_neg hb0]
 rw[hR];have h176a:=zxu ha;have h176b:=zxu hb;have hc:VD (zho a b)/\VD (zhv a b)/\nm (zho a b)≠0/\nm (zhv a b)≠0/\qb (zhv a b)<=qb (zho a b):=by
  unfold zho zhv;split
  ·exact⟨hb,ha,hb0,ha0,by omega⟩
  ·exact⟨ha,hb,ha0,hb0,by omega⟩
 obtain⟨c1,c2,c3,c4,c5⟩:=hc;have h224:=v224 c1 c2 c3 c4 c5 p hp;obtain⟨s1,s2,s3⟩:=zzu c1 c2 c3 c4 c5 hp;have h168:=v168 ((zho a b).neg != (zhk (zho a b) (zhv a b) p).2) (zhk (zho a b) (zhv a b) p).1.1 (zhk (zho a b) (zhv a b) p).1.2.1 (zhk (zho a b) (zhv a b) p).1.2.2 up p (by omega) ⟨s2,s3⟩ hp;have hf1:qb a<qb b->zho a b=b/\zhv a b=a:=fun h=>by unfold zho zhv;rw[if_pos h,if_pos h];exact⟨rfl,rfl⟩
 have hf2: ¬qb a<qb b->zho a b=a/\zhv a b=b:=fun h=>by unfold zho zhv;rw[if_neg h,if_neg h];exact⟨rfl,rfl⟩
 unfold qb3;generalize zho a b=c at*;generalize zhv a b=d at*;generalize zhk c d p=S at*;obtain⟨⟨sm,sl,sx⟩,st⟩:=S;simp only at h224 h168 s1 s2 s3⊢;generalize za0 (c.neg != st) sm sl sx p up=R at*;have ae:=ha.eq;have be:=hb.eq;clear ha hb c1 c2 c3 c4 c5 hR;generalize qb a=tA at*;generalize qb b=tB at*;generalize nm a=na at*;generalize nm b=nb at*;obtain⟨an,am,ax⟩:=a;obtain⟨bn,bm,bx⟩:=b;obtain⟨cn,cm,cx⟩:=c;obtain⟨dn,dm,dx⟩:=d;obtain⟨⟨r1,r2,r3⟩,r4⟩:=R;simp only at ae be h168;subst ae be;refine wd (code:=Tryz.f121.body.getD .skip) hT6 hmx Tryz.func121 rfl rfl (ex:= []) ?_;conv=>whnf
 refine ko hT6 hmx 4 (fun _:Unit=>⟨[.any,.any,.int .i64 p,.bool up,.ptr 4 0,.ptr 5 0,.any,.any,.ptr 8 0,.int .i64 0,.int .i64 0]++um 67,[(4,.cells [.bool cn,.sl .u32 cm,.int .i64 cx]),(5,.cells [.bool dn,.sl .u32 dm,.int .i64 dx]),(8,.cells [.bool false,.nilsl,.int .i64 0]),(11,.free),(zx,.gst JT)]⟩) (fun _=>by kernel_rfl) ?_ (fun _=>?_)
 ·conv=>whnf
  refine gZn h164 ?_;conv=>whnf
  refine brI (fun h6=>?_) (fun h6=>?_)
  ·have h6:(((toL na).length :Int)==0)=true:=h6;rw[zdc ha0]at h6;cases h6
  conv=>whnf
  refine brI (fun h6=>?_) (fun h6=>?_)
  ·have h6:(((toL nb).length :Int)==0)=true:=h6;rw[zdc hb0]at h6;cases h6
  conv=>whnf
  refine gZn h176a ?_;conv=>whnf
  refine gZn h176b ?_;conv=>whnf
  (refine⟨by kernel_rfl,by kernel_rfl,?_⟩;(conv=>whnf))
  refine brI (fun h6=>?_) (fun h6=>?_)
  ·have h6:tA<tB:=of_decide_eq_true h6;obtain⟨e1,e2⟩:=hf1 h6;injection e1 with q1 q2 q3
   injection e2 with q4 q5 q6
   subst q1 q2 q3 q4 q5 q6;conv=>whnf
   refine⟨(),?_⟩
   ((conv=>whnf);refine And.intro ?_ ?_;repeat' first|refine lc ?_ ?_|exact la0|exact lr rfl|exact ln0|refine lh1 ?_ ?_|exact lh0|exact bf0|exact bd0|refine bc0 ?_|exact bm0 rfl|exact bb0 rfl|exact bg0 rfl|exact li0 rfl|refine lg0 ?_|refine lt0 ?_|fail)
  ·have h6: ¬tA<tB:=of_decide_eq_false h6;obtain⟨e1,e2⟩:=hf2 h6;injection e1 with q1 q2 q3
   injection e2 with q4 q5 q6
   subst q1 q2 q3 q4 q5 q6;conv=>whnf
   refine⟨(),?_⟩
   ((conv=>whnf);refine And.intro ?_ ?_;repeat' first|refine lc ?_ ?_|exact la0|exact lr rfl|exact ln0|refine lh1 ?_ ?_|exact lh0|exact bf0|exact bd0|refine bc0 ?_|exact bm0 rfl|exact bb0 rfl|exact bg0 rfl|exact li0 rfl|refine lg0 ?_|refine lt0 ?_|fail)
 ·refine je hT6 hmx ?_;conv=>whnf
  refine gZn h224 ?_;conv=>whnf
  refine brI (fun h6=>?_) (fun h6=>?_)
  ·have h6:(toL sm).length =0:=by have h6:(((toL sm).length :Int)==0)=true:=h6;rw[beq_iff_eq]at h6;omega
   have h6:=jq.1 h6
   cases sx with
   |false=>
    rw[if_pos ⟨h6,rfl⟩];conv=>whnf
    exact⟨zu2,leG⟩
   |true=>
    rw[if_neg (by simp)];conv=>whnf
    refine gZc h168 ?_;conv=>whnf
    exact⟨lr rfl,leG⟩
  ·have h6:sm≠0:=fun e=>by
    subst e;have h6:(((toL 0).length :Int)==0)=false:=h6;simp[jl]at h6
   rw[if_neg (fun c=>h6 c.1)];conv=>whnf
   refine gZc h168 ?_;conv=>whnf
   exact⟨lr rfl,leG⟩
theorem v132 {a b:Dy} (ha:VD a) (hb:VD b) (p:Nat) (hp:8<=p/\p<=512):Fn 171 G0 [.agg (dyC a),.agg (dyC b),.int .i64 p] (dyV (yf a b p false)) G0:=by
 have h:=v180 ha hb false p hp;generalize yf a b p false=R at*;clear ha hb;obtain⟨an,am,ax⟩:=a;obtain⟨bn,bm,bx⟩:=b;obtain⟨⟨r1,r2,r3⟩,r4⟩:=R;refine fnT hT6 hmx Tryz.func171 rfl rfl (ex:= []) ?_;conv=>whnf
 refine gZc h ?_;conv=>whnf
 exact⟨lr rfl,leG⟩
theorem v133 {a b:Dy} (ha:VD a) (hb:VD b) (p:Nat) (hp:8<=p/\p<=512):Fn 172 G0 [.agg (dyC a),.agg (dyC b),.int .i64 p] (dyV (yf a b p true)) G0:=by
 have h:=v180 ha hb true p hp;generalize yf a b p true=R at*;clear ha hb;obtain⟨an,am,ax⟩:=a;obtain⟨bn,bm,bx⟩:=b;obtain⟨⟨r1,r2,r3⟩,r4⟩:=R;refine fnT hT6 hmx Tryz.func172 rfl rfl (ex:= []) ?_;conv=>whnf
 refine gZc h ?_;conv=>whnf
 exact⟨lr rfl,leG⟩
theorem v76 {a b:Dy} (ha:VD a) (hb:VD b) (p:Nat) (hp:8<=p/\p<=512):Fn 65 G0 [.agg (dyC a),.agg (dyC b),.int .i64 p] (dyV (ue a b p false)) G0:=by
 have h:=v121 ha hb false p hp;generalize ue a b p false=R at*;clear ha hb;obtain⟨an,am,ax⟩:=a;obtain⟨bn,bm,bx⟩:=b;obtain⟨⟨r1,r2,r3⟩,r4⟩:=R;refine fnT hT6 hmx Tryz.func65 rfl rfl (ex:= []) ?_;conv=>whnf
 refine gZc h ?_;conv=>whnf
 exact⟨lr rfl,leG⟩
theorem v78 {a b:Dy} (ha:VD a) (hb:VD b) (p:Nat) (hp:8<=p/\p<=512):Fn 66 G0 [.agg (dyC a),.agg (dyC b),.int .i64 p] (dyV (ue a b p true)) G0:=by
 have h:=v121 ha hb true p hp;generalize ue a b p true=R at*;clear ha hb;obtain⟨an,am,ax⟩:=a;obtain⟨bn,bm,bx⟩:=b;obtain⟨⟨r1,r2,r3⟩,r4⟩:=R;refine fnT hT6 hmx Tryz.func66 rfl rfl (ex:= []) ?_;conv=>whnf
 refine gZc h ?_;conv=>whnf
 exact⟨lr rfl,leG⟩
theorem v128 {a b:Dy} (ha:VD a) (hb:VD b) (p:Nat) (hp:8<=p/\p<=512):Fn 67 G0 [.agg (dyC a),.agg (dyC b),.int .i64 p] (dyV (zai a b p false)) G0:=by
 have h:=v179 ha hb false p hp;generalize zai a b p false=R at*;clear ha hb;obtain⟨an,am,ax⟩:=a;obtain⟨bn,bm,bx⟩:=b;obtain⟨⟨r1,r2,r3⟩,r4⟩:=R;refine fnT hT6 hmx Tryz.func67 rfl rfl (ex:= []) ?_;conv=>whnf
 refine gZc h ?_;conv=>whnf
 exact⟨lr rfl,leG⟩
theorem v129 {a b:Dy} (ha:VD a) (hb:VD b) (p:Nat) (hp:8<=p/\p<=512):Fn 68 G0 [.agg (dyC a),.agg (dyC b),.int .i64 p] (dyV (zai a b p true)) G0:=by
 have h:=v179 ha hb true p hp;generalize zai a b p true=R at*;clear ha hb;obtain⟨an,am,ax⟩:=a;obtain⟨bn,bm,bx⟩:=b;obtain⟨⟨r1,r2,r3⟩,r4⟩:=R;refine fnT hT6 hmx Tryz.func68 rfl rfl (ex:= []) ?_;conv=>whnf
 refine gZc h ?_;conv=>whnf
 exact⟨lr rfl,leG⟩
theorem zxb {x y:Nat} (h:bl x<bl y):x<y:=Nat.not_le.1 fun c=>by have:=ug c;omega
def cmA (a b:Dy):Int:=xz (nm a*2^(a.e-min a.e b.e).toNat) (nm b*2^(b.e-min a.e b.e).toNat)
theorem zm2 {x y:Nat} (h:x<y):xz x y= -1:=by unfold xz;rw[if_pos h]
theorem zm3 {x y:Nat} (h:y<x):xz x y=1:=by unfold xz;rw[if_neg (by omega),if_pos h]
theorem v125 {a b:Dy} (ha:VD a) (hb:VD b) (ha0:nm a≠0) (hb0:nm b≠0):Fn 131 [] [.agg (dyC a),.agg (dyC b)] (.int .i64 (cmA a b)) []:=by
 have a1:=ha.bits;have b1:=hb.bits;have a2:=ha.exp;have b2:=hb.exp;have h176a:=zxu ha;have h176b:=zxu hb;have ta:qb a=bl (nm a)+a.e:=by unfold qb;rw[if_neg ha0]
 have tb:qb b=bl (nm b)+b.e:=by unfold qb;rw[if_neg hb0]
 have m1:(if b.e<a.e then b.e else a.e)=min a.e b.e:=by split<;>omega
 have xa:=qj (nm a) (a.e-min a.e b.e).toNat ha0;have xb:=qj (nm b) (b.e-min a.e b.e).toNat hb0;have hlt:qb a<qb b->cmA a b= -1:=fun h=>zm2 (zxb (by omega))
 have hgt:qb b<qb a->cmA a b=1:=fun h=>zm3 (zxb (by omega))
 have g1:IntKind.i64.wrap (a.e-min a.e b.e)=(((a.e-min a.e b.e).toNat :Nat):Int):=by rw[wI (by omega)];omega
 have g2:IntKind.i64.wrap (b.e-min a.e b.e)=(((b.e-min a.e b.e).toNat :Nat):Int):=by rw[wI (by omega)];omega
 have h178a:qb a=qb b->Fn 176 [] [.sl .u32 (toL (nm a)),.int .i64 (IntKind.i64.wrap (a.e-min a.e b.e))] (.sl .u32 (toL (nm a*2^(a.e-min a.e b.e).toNat))) []:=fun h=>by
  rw[g1];exact v178 _ _ (by omega) (by omega) (by omega)
 have h178b:qb a=qb b->Fn 176 [] [.sl .u32 (toL (nm b)),.int .i64 (IntKind.i64.wrap (b.e-min a.e b.e))] (.sl .u32 (toL (nm b*2^(b.e-min a.e b.e).toNat))) []:=fun h=>by
  rw[g2];exact v178 _ _ (by omega) (by omega) (by omega)
 have h177:qb a=qb b->Fn 175 [] [.sl .u32 (toL (nm a*2^(a.e-min a.e b.e).toNat)),.sl .u32 (toL (nm b*2^(b.e-min a.e b.e).toNat))] (.int .i64 (cmA a b)) []:=fun h=>v177 _ _ (by omega) (by omega)
 generalize cmA a b=c at*;generalize nm a*2^(a.e-min a.e b.e).toNat =X at*;generalize nm b*2^(b.e-min a.e b.e).toNat =Y at*;generalize qb a=tA at*;generalize qb b=tB at*;generalize min a.e b.e=t at*;have ae:=ha.eq;have be:=hb.eq;clear ha hb xa xb;generalize nm a=na at*;generalize nm b=nb at*;obtain⟨an,am,ax⟩:=a;obtain⟨bn,bm,bx⟩:=b;simp only at ae be m1 h178a h178b;subst ae be;refine fnT hT6 hmx Tryz.func131 rfl rfl (ex:= []) ?_;conv=>whnf
 refine gZn h176a ?_;conv=>whnf
 refine gZn h176b ?_;conv=>whnf
 (refine⟨by kernel_rfl,by kernel_rfl,?_⟩;(conv=>whnf))
 refine brI (fun h1=>?_) (fun h1=>?_)
 ·rw[hlt (of_decide_eq_true h1)];conv=>whnf
  exact⟨lr rfl,lh0⟩
 have h1: ¬tA<tB:=of_decide_eq_false h1;conv=>whnf
 refine brI (fun h2=>?_) (fun h2=>?_)
 ·rw[hgt (of_decide_eq_true h2)];conv=>whnf
  exact⟨lr rfl,lh0⟩
 have h2: ¬tB<tA:=of_decide_eq_false h2;have he:tA=tB:=by omega
 conv=>whnf
 rw[m1];refine gZn (h178a he) ?_;conv=>whnf
 refine gZn (h178b he) ?_;conv=>whnf
 refine gZn (h177 he) ?_;conv=>whnf
 (refine⟨by kernel_rfl,by kernel_rfl,?_⟩;(conv=>whnf))
 exact⟨lr rfl,lh0⟩
def zvy (x y:Int):Int:=if x<y then-1 else if y<x then 1 else 0
def zi (d:Dy) (t:Int):Int:=if d.neg=true then-((nm d*2^(d.e-t).toNat :Nat):Int)else((nm d*2^(d.e-t).toNat :Nat):Int)
def qa (a b:Dy):Int:=zvy (zi a (min a.e b.e)) (zi b (min a.e b.e))
theorem zqq (d:Dy) (t:Int):wz d=zvy (zi d t) 0:=by
 unfold wz zi zvy;have hp:=Nat.two_pow_pos (d.e-t).toNat;by_cases h:nm d=0
 ·rw[if_pos h,h];split<;>simp
 ·rw[if_neg h];have:0<nm d*2^(d.e-t).toNat :=Nat.mul_pos (Nat.pos_of_ne_zero h) hp;split<;>split<;>omega
theorem zl5 {a b:Dy} (h:wz a=wz b) (h0:wz a≠0):qa a b=wz a*cmA a b:=by
 unfold qa cmA;unfold wz at h h0⊢;by_cases ha:nm a=0
 ·rw[if_pos ha]at h0;exact absurd rfl h0
 ·rw[if_neg ha]at h h0⊢;by_cases hb:nm b=0
  ·rw[if_pos hb]at h;exact absurd h h0
  ·rw[if_neg hb]at h;unfold zi zvy xz;generalize nm a*2^(a.e-min a.e b.e).toNat =X;generalize nm b*2^(b.e-min a.e b.e).toNat =Y;by_cases hna:a.neg=true<;>by_cases hnb:b.neg=true<;>simp only[hna,hnb,if_true,if_false,Bool.false_eq_true]at h⊢
   ·by_cases c1:X<Y
    ·rw[if_pos c1,if_neg (by omega),if_pos (by omega)];rfl
    ·by_cases c2:Y<X
     ·rw[if_neg c1,if_pos c2,if_pos (by omega)];rfl
     ·rw[if_neg c1,if_neg c2,if_neg (by omega),if_neg (by omega)];rfl
   ·cases h
   ·cases h
   ·by_cases c1:X<Y
    ·rw[if_pos c1,if_pos (by omega)];rfl
    ·by_cases c2:Y<X
     ·rw[if_neg c1,if_pos c2,if_neg (by omega),if_pos (by omega)];rfl
     ·rw[if_neg c1,if_neg c2,if_neg (by omega),if_neg (by omega)];rfl
theorem zpf {a b:Dy}:(wz a<wz b->qa a b= -1)/\(wz b<wz a->qa a b=1)/\(wz a=wz b->wz a=0->qa a b=0):=by
 rw[zqq a (min a.e b.e),zqq b (min a.e b.e)];unfold qa;generalize zi a (min a.e b.e)=x;generalize zi b (min a.e b.e)=y;unfold zvy;refine⟨?_,?_,?_⟩
 ·intro h;split at h<;>split at h<;>(try split at h)<;>(try split at h)<;>first|(rw[if_pos (by omega)])|omega
 ·intro h;split at h<;>split at h<;>(try split at h)<;>(try split at h)<;>first|(rw[if_neg (by omega),if_pos (by omega)])|omega
 ·intro h h0;split at h0<;>(try split at h0)<;>split at h<;>(try split at h)<;>(try split at h)<;>first|(rw[if_neg (by omega),if_neg (by omega)])|omega
theorem v81 {a b:Dy} (ha:VD a) (hb:VD b):Fn 86 [] [.agg (dyC a),.agg (dyC b)] (.int .i64 (qa a b)) []:=by
 have h80a:=v80 ha;have h80b:=v80 hb;have h124a:=qc1 ha;have h124b:=qc1 hb;obtain⟨s1,s2,s3⟩:=zpf (a:=a) (b:=b);have s4:=zl5 (a:=a) (b:=b);have h125:wz a=wz b->wz a≠0->Fn 131 [] [.agg (dyC a),.agg (dyC b)] (.int .i64 (cmA a b)) []:=fun h h0=>by
  refine v125 ha hb (fun c=>?_) (fun c=>?_)
  ·unfold wz at h0;rw[if_pos c]at h0;exact h0 rfl
  ·rw[h]at h0;unfold wz at h0;rw[if_pos c]at h0;exact h0 rfl
 have hb1: -1<=wz a/\wz a<=1:=by unfold wz;split;omega;split<;>omega
 have hb2: -1<=cmA a b/\cmA a b<=1:=by unfold cmA xz;split;omega;split<;>omega
 have hw:IntKind.i64.wrap (wz a*cmA a b)=wz a*cmA a b:=by
  have:wz a= -1\/wz a=0\/wz a=1:=by omega
  rcases this with h|h|h<;>rw[h]<;>exact wI (by omega)
 generalize cmA a b=C at*;generalize qa a b=R at*;generalize wz a=A at*;generalize wz b=B at*;clear ha hb;obtain⟨an,am,ax⟩:=a;obtain⟨bn,bm,bx⟩:=b;refine fnT hT6 hmx Tryz.func86 rfl rfl (ex:= []) ?_;conv=>whnf
 refine gZn h80a ?_;conv=>whnf
 refine gZn h80b ?_;conv=>whnf
 refine gZn h124a ?_;conv=>whnf
 refine gZn h124b ?_;conv=>whnf
 (refine⟨by kernel_rfl,by kernel_rfl,?_⟩;(conv=>whnf))
 refine brI (fun h1=>?_) (fun h1=>?_)
 ·rw[s1 (of_decide_eq_true h1)];conv=>whnf
  exact⟨lr rfl,lh0⟩
 have h1: ¬A<B:=of_decide_eq_false h1;conv=>whnf
 refine brI (fun h2=>?_) (fun h2=>?_)
 ·rw[s2 (of_decide_eq_true h2)];conv=>whnf
  exact⟨lr rfl,lh0⟩
 have h2: ¬B<A:=of_decide_eq_false h2;have he:A=B:=by omega
 conv=>whnf
 refine brI (fun h3=>?_) (fun h3=>?_)
 ·have h3:A=0:=by simpa using h3
  rw[s3 he h3];conv=>whnf
  exact⟨lr rfl,lh0⟩
 have h3:A≠0:=by simpa using h3
 conv=>whnf
 refine gZn (h125 he h3) ?_;conv=>whnf
 exact⟨ai0 (by rw[hw,s4 he h3]),lh0⟩
def vj (d:Dy) (k:Int):Dy×Int:=if exB k=false then(d0,1)else ckN d.neg (nm d) (d.e+k)
theorem v230 {d:Dy} (hd:VD d) (k:Int):Fn 60 G0 [.agg (dyC d),.int .i64 k] (dyV (vj d k)) G0:=by
 have h80:=v80 hd;have h268:=y268 k;have a1:=hd.bits;have a2:=hd.exp;have hlen:=hd.len;have hlb:=hd.lb;by_cases hk:exB k=false
 ·have hR:vj d k=(d0,1):=by unfold vj;rw[if_pos hk]
  rw[hR];rw[hk]at h268;obtain⟨an,am,ax⟩:=d;have h80:Fn 115 [] [.agg [.bool an,.sl .u32 am,.int .i64 ax]] (.bool true) []:=h80;show Fn 60 G0 [.agg [.bool an,.sl .u32 am,.int .i64 ax],.int .i64 k] _ G0;refine fnT hT6 hmx Tryz.func60 rfl rfl (ex:= []) ?_;conv=>whnf
  refine gZn h80 ?_;conv=>whnf
  refine gZn h268 ?_;conv=>whnf
  exact⟨zu2,leG⟩
 ·have hR:vj d k=ckN d.neg (nm d) (d.e+k):=by unfold vj;rw[if_neg hk]
  rw[hR];have hk:exB k=true:=by simpa using hk
  rw[hk]at h268;unfold exB at hk;simp only[Bool.and_eq_true,decide_eq_true_eq]at hk;have h122:=v122 d.neg d.m (d.e+k) hlb (by omega) (show bl (nm d)<=8192 by omega) (by omega);have h122:Fn 118 G0 [.bool d.neg,.sl .u32 d.m,.int .i64 (d.e+k)] (.agg (dyC (cnN d.neg (nm d) (d.e+k)))) G0:=h122;have hc:=y269 (cnN d.neg (nm d) (d.e+k)) (by unfold cnN;split;exact qc.lb;exact zw _) (by
   unfold cnN;split
   ·simp[d0]
   ·have:=ug (Nat.div_le_self (nm d) (2^tz (nm d)));have:=(qt (nm d/2^tz (nm d)) 1000000).2 (by omega);exact this)
  rw[zue]at hc;have hw:IntKind.i64.wrap (d.e+k)=d.e+k:=wI (by omega);generalize ckN d.neg (nm d) (d.e+k)=R at*;generalize cnN d.neg (nm d) (d.e+k)=C at*;clear hR hd;obtain⟨an,am,ax⟩:=d;obtain⟨⟨r1,r2,r3⟩,r4⟩:=R;obtain⟨c1,c2,c3⟩:=C;simp only at h122 hw;have h80:Fn 115 [] [.agg [.bool an,.sl .u32 am,.int .i64 ax]] (.bool true) []:=h80;have hc:Fn 117 [] [.agg [.bool c1,.sl .u32 c2,.int .i64 c3]] (dyV (⟨r1,r2,r3⟩,r4)) []:=hc;show Fn 60 G0 [.agg [.bool an,.sl .u32 am,.int .i64 ax],.int .i64 k] _ G0;refine fnT hT6 hmx Tryz.func60 rfl rfl (ex:= []) ?_;conv=>whnf
  refine gZn h80 ?_;conv=>whnf
  refine gZn h268 ?_;conv=>whnf
  rw[hw];refine gZc h122 ?_;conv=>whnf
  refine gZn hc ?_;conv=>whnf
  exact⟨lr rfl,leG⟩
def zb4 (n:Int):Dy:=cnN (decide (n<0)) n.natAbs 0
theorem v77 (n:Int) (h: -4611686018427387904<=n/\n<=4611686018427387904):Fn 77 G0 [.int .i64 n] (.agg (dyC (zb4 n))) G0:=by
 have key: ∀X:Int,X=n.natAbs->Fn 118 G0 [.bool (decide (n<0)),.sl .u32 [IntKind.u32.wrap X,IntKind.u32.wrap (X.fdiv 4294967296)],.int .i64 0] (.agg (dyC (zb4 n))) G0:=by
  intro X hX;have e1:IntKind.u32.wrap X=X % 4294967296:=by simp[IntKind.wrap,IntKind.signed,IntKind.bits]
  have e2:IntKind.u32.wrap (X.fdiv 4294967296)=X/4294967296:=by
   rw[Int.fdiv_eq_ediv_of_nonneg _ (by decide),zqu (by omega)]
  rw[e1,e2];have hv:val [X % 4294967296,X/4294967296]=n.natAbs:=by
   rw[qr,qr];show(X % 4294967296).toNat +4294967296*((X/4294967296).toNat +4294967296*0)=n.natAbs;omega
  have h1:=v122 (decide (n<0)) [X % 4294967296,X/4294967296] 0 (fun z hz=>by
   simp only[List.mem_cons,List.not_mem_nil,or_false]at hz;rcases hz with rfl|rfl<;>omega) (by simp) (by rw[hv];exact Nat.le_trans (uz.2 (show n.natAbs<2^64 by omega)) (by decide)) (by decide)
  rw[hv]at h1;exact h1
 generalize zb4 n=R at*;refine fnT hT6 hmx Tryz.func77 rfl rfl (ex:= []) ?_;conv=>whnf
 refine brI (fun h1=>?_) (fun h1=>?_)
 ·have h1':n<0:=of_decide_eq_true h1;have e:IntKind.u64.wrap (0-IntKind.u64.wrap n)=n.natAbs:=by
   simp[IntKind.wrap,IntKind.signed,IntKind.bits];omega
  conv=>whnf
  refine⟨by decide,?_⟩;conv=>whnf
  refine gZc (key _ e) ?_;conv=>whnf
  exact⟨lr rfl,leG⟩
 ·have h1': ¬n<0:=of_decide_eq_false h1;have e:IntKind.u64.wrap n=n.natAbs:=by
   simp[IntKind.wrap,IntKind.signed,IntKind.bits];omega
  conv=>whnf
  refine⟨by decide,?_⟩;conv=>whnf
  refine gZc (key _ e) ?_;conv=>whnf
  exact⟨lr rfl,leG⟩
structure RI (x:Iv):Prop where
 lo:LB x.lo.m
 hi:LB x.hi.m
 l1:x.lo.m.length<9223372036854775808
 l2:x.hi.m.length<9223372036854775808
def zrB (d:Dy):Bool:= !d.neg&&decide (d.m.length=0)&&decide (d.e=0)
def viB (x:Iv):Bool:=if x.all=true then zrB x.lo&&zrB x.hi else vB x.lo&&vB x.hi&&decide (qa x.lo x.hi<=0)
def kB (x:Iv):Bool:= !x.all&&viB x
structure KI (x:Iv):Prop where
 all:x.all=false
 lo:VD x.lo
 hi:VD x.hi
 le:qa x.lo x.hi<=0
def wI0:Iv:=⟨d0,d0,true⟩
def VI (x:Iv):Prop:=KI x\/x=wI0
theorem zzd {d:Dy}:zrB d=true<->d=d0:=by
 obtain⟨a,b,c⟩:=d;unfold zrB d0;simp only[Bool.and_eq_true,Bool.not_eq_true',decide_eq_true_eq,List.length_eq_zero_iff,Dy.mk.injEq];constructor
 ·rintro⟨⟨h1,h2⟩,h3⟩;exact⟨h1,h2,h3⟩
 ·rintro⟨h1,h2,h3⟩;exact⟨⟨h1,h2⟩,h3⟩
theorem qn {x:Iv} (h:RI x):kB x=true<->KI x:=by
 unfold kB viB;constructor
 ·intro e;simp only[Bool.and_eq_true,Bool.not_eq_true']at e;obtain⟨e1,e2⟩:=e;rw[if_neg (by rw[e1];simp)]at e2;simp only[Bool.and_eq_true,decide_eq_true_eq]at e2;exact⟨e1,(xg h.lo).1 e2.1.1,(xg h.hi).1 e2.1.2,e2.2⟩
 ·intro k;rw[k.all,if_neg (by simp),(xg h.lo).2 k.lo,(xg h.hi).2 k.hi,decide_eq_true k.le];rfl
theorem wl {x:Iv} (h:RI x):viB x=true<->VI x:=by
 by_cases ha:x.all=true
 ·unfold viB VI;rw[if_pos ha];simp only[Bool.and_eq_true,zzd];constructor
  ·rintro⟨h1,h2⟩;obtain⟨lo,hi,al⟩:=x;simp only at h1 h2 ha;subst h1 h2 ha;exact .inr rfl
  ·rintro(k|rfl)
   ·rw[k.all]at ha;cases ha
   ·exact⟨rfl,rfl⟩
 ·have e:viB x=kB x:=by unfold kB;rw[show x.all=false by simpa using ha];rfl
  rw[e,qn h];unfold VI;constructor
  ·exact .inl
  ·rintro(k|rfl)
   ·exact k
   ·exact absurd rfl ha
theorem KI.ri {x:Iv} (k:KI x):RI x:=⟨k.lo.lb,k.hi.lb,by have:=k.lo.len;omega,by have:=k.hi.len;omega⟩
theorem zxp:RI wI0:=⟨qc.lb,qc.lb,by decide,by decide⟩
theorem VI.ri {x:Iv} (k:VI x):RI x:=by
 rcases k with k|rfl
 ·exact k.ri
 ·exact zxp
theorem i79 (d:Dy):Fn 128 [] [.agg (dyC d)] (.bool (zrB d)) []:=by
 obtain⟨R,hR⟩: ∃R,zrB d=R:=⟨_,rfl⟩;rw[hR];unfold zrB at hR;obtain⟨d1,d2,d3⟩:=d;simp only at hR;show Fn 128 [] [.agg [.bool d1,.sl .u32 d2,.int .i64 d3]] _ [];refine fnT hT6 hmx Tryz.func128 rfl rfl (ex:= []) ?_;conv=>whnf
 cases d1 with
 |true=>
  conv=>whnf
  exact⟨ab0 hR,lh0⟩
 |false=>
  conv=>whnf
  refine brI (fun h1=>?_) (fun h1=>?_)
  ·have h2:d2.length=0:=by have h1:((d2.length:Int)==0)=true:=h1;rw[beq_iff_eq]at h1;omega
   rw[decide_eq_true h2]at hR;conv=>whnf
   exact⟨ab0 (by rw[←hR];simp;rw[Bool.eq_iff_iff];simp),lh0⟩
  ·have h2: ¬d2.length=0:=by have h1:((d2.length:Int)==0)=false:=h1;rw[beq_eq_false_iff_ne]at h1;omega
   rw[decide_eq_false h2]at hR;conv=>whnf
   exact⟨ab0 (by rw[←hR];simp),lh0⟩
theorem i51 (x:Iv) (h:RI x):Fn 83 [] [.agg (ivC x)] (.bool (viB x)) []:=by
 have hlo:=y80 x.lo h.lo h.l1;have hhi:=y80 x.hi h.hi h.l2;have zlo:=i79 x.lo;have zhi:=i79 x.hi;have hc:vB x.lo=true->vB x.hi=true->Fn 86 [] [.agg (dyC x.lo),.agg (dyC x.hi)] (.int .i64 (qa x.lo x.hi)) []:=fun h1 h2=>v81 ((xg h.lo).1 h1) ((xg h.hi).1 h2)
 obtain⟨R,hR⟩: ∃R,viB x=R:=⟨_,rfl⟩;rw[hR];unfold viB at hR;generalize vB x.lo=a at*;generalize vB x.hi=b at*;generalize zrB x.lo=c at*;generalize zrB x.hi=d at*;generalize qa x.lo x.hi=C at*;clear h;obtain⟨⟨x1,x2,x3⟩,⟨x4,x5,x6⟩,x7⟩:=x;simp only at hR;have hlo:Fn 115 [] [.agg [.bool x1,.sl .u32 x2,.int .i64 x3]] (.bool a) []:=hlo;have hhi:Fn 115 [] [.agg [.bool x4,.sl .u32 x5,.int .i64 x6]] (.bool b) []:=hhi;have zlo:Fn 128 [] [.agg [.bool x1,.sl .u32 x2,.int .i64 x3]] (.bool c) []:=zlo;have zhi:Fn 128 [] [.agg [.bool x4,.sl .u32 x5,.int .i64 x6]] (.bool d) []:=zhi;have hc:a=true->b=true->Fn 86 [] [.agg [.bool x1,.sl .u32 x2,.int .i64 x3],.agg [.bool x4,.sl .u32 x5,.int .i64 x6]] (.int .i64 C) []:=hc;show Fn 83 [] [.agg [.bool x1,.sl .u32 x2,.int .i64 x3,.bool x4,.sl .u32 x5,.int .i64 x6,.bool x7]] _ [];refine fnT hT6 hmx Tryz.func83 rfl rfl (ex:= []) ?_;conv=>whnf
 cases x7 with
 |true=>
  rw[if_pos rfl]at hR
  cases c with
  |false=>
   conv=>whnf
   refine gZn zlo ?_;conv=>whnf
   exact⟨ab0 hR,lh0⟩
  |true=>
   conv=>whnf
   refine gZn zlo ?_;conv=>whnf
   refine gZn zhi ?_;conv=>whnf
   exact⟨ab0 (by rw[←hR,Bool.true_and]),lh0⟩
 |false=>
  rw[if_neg (by simp)]at hR
  cases a with
  |false=>
   conv=>whnf
   refine gZn hlo ?_;conv=>whnf
   exact⟨ab0 (by rw[←hR];rfl),lh0⟩
  |true=>
   cases b with
   |false=>
    conv=>whnf
    refine gZn hlo ?_;conv=>whnf
    refine gZn hhi ?_;conv=>whnf
    exact⟨ab0 (by rw[←hR];rfl),lh0⟩
   |true=>
    conv=>whnf
    refine gZn hlo ?_;conv=>whnf
    refine gZn hhi ?_;conv=>whnf
    refine gZn (hc rfl rfl) ?_;conv=>whnf
    exact⟨ab0 (by rw[←hR];rfl),lh0⟩
theorem zws (l:List Iv) (hl:l.length<=1000000) (h: ∀x∈l,RI x):Fn 58 [] [.sl .iv l] (.bool (l.all kB)) []:=by
 obtain⟨A,hA⟩: ∃A,l.all kB=A:=⟨_,rfl⟩;rw[hA];refine fnT hT6 hmx Tryz.func58 rfl rfl (ex:= []) ?_;conv=>whnf
 refine⟨Nat,fun i=>i<=l.length/\(l.drop i).all kB=A,fun i=> [(7,.int .i64 i)],fun _=> [],fun i=>l.length-i,0,⟨by simp,by simpa using hA⟩,?_,fun i hi=>?_⟩
 ·((conv=>whnf);refine And.intro ?_ ?_;repeat' first|refine lc ?_ ?_|exact la0|exact lr rfl|exact ln0|refine lh1 ?_ ?_|exact lh0|exact bf0|exact bd0|refine bc0 ?_|exact bm0 rfl|exact bb0 rfl|exact bg0 rfl|exact li0 rfl|refine lg0 ?_|refine lt0 ?_|fail)
 (refine⟨by kernel_rfl,?_⟩;(conv=>whnf))
 obtain⟨hi1,hi2⟩:=hi;refine brI (fun h1=>?_) (fun h1=>?_)
 ·conv=>whnf
  have hi:i<l.length:=by simp only[decide_eq_true_eq]at h1;omega
  refine⟨⟨by omega,by omega⟩,fun(x:Iv) hx=>?_⟩;have hx:l[i]? =some x:=by simpa using hx
  have hr:=h x (List.mem_of_getElem? hx);have h51:=i51 x hr;rw[zq hx,List.all_cons]at hi2;have hk:kB x=(!x.all&&viB x):=rfl;generalize kB x=K at*;generalize viB x=V at*;clear hr;obtain⟨⟨x1,x2,x3⟩,⟨x4,x5,x6⟩,x7⟩:=x;have h51:Fn 83 [] [.agg [.bool x1,.sl .u32 x2,.int .i64 x3,.bool x4,.sl .u32 x5,.int .i64 x6,.bool x7]] (.bool V) []:=h51;simp only at hk;conv=>whnf
  cases x7 with
  |true=>
   rw[hk]at hi2;subst hi2;conv=>whnf
   exact⟨lr rfl,lh0⟩
  |false=>
   cases V with
   |false=>
    rw[hk]at hi2;subst hi2;conv=>whnf
    refine gZn h51 ?_;conv=>whnf
    exact⟨lr rfl,lh0⟩
   |true=>
    rw[hk]at hi2;conv=>whnf
    refine gZn h51 ?_;conv=>whnf
    refine⟨i+1,⟨by omega,by simpa using hi2⟩,by show l.length-(i+1)<l.length-i;omega,?_⟩
    ((conv=>whnf);refine And.intro ?_ ?_;repeat' first|refine lc ?_ ?_|exact la0|exact lr rfl|exact ln0|refine lh1 ?_ ?_|exact lh0|exact bf0|exact bd0|refine bc0 ?_|exact bm0 rfl|exact bb0 rfl|exact bg0 rfl|exact li0 rfl|refine lg0 ?_|refine lt0 ?_|fail)
    exact ai0 (by rw[wI (by omega)];omega)
 ·have hi: ¬i<l.length:=by simp only[decide_eq_false_iff_not]at h1;omega
  rw[List.drop_of_length_le (by omega)]at hi2;conv=>whnf
  exact⟨ab0 hi2,lh0⟩
theorem i127 (p:Int):Fn 62 [] [.int .i64 p] (.bool (pcB p)) []:=by
 refine fnT hT6 hmx Tryz.func62 rfl rfl (ex:= []) ?_;conv=>whnf
 refine brI (fun h1=>?_) (fun h1=>?_)
 ·have h1:8<=p:=by simpa using h1
  conv=>whnf
  exact⟨ab0 (by simp[pcB,h1]),lh0⟩
 ·have h1: ¬8<=p:=by simpa using h1
  conv=>whnf
  exact⟨ab0 (by simp[pcB,h1]),lh0⟩
theorem leW {h h':Hp}:leA h h' (.agg [.bool false,.nilsl,.int .i64 0,.bool false,.nilsl,.int .i64 0,.bool true]) (.agg (ivC wI0)):=
 lg0 (lc (lr rfl) (lc (li0 rfl) (lc (lr rfl) (lc (lr rfl) (lc (li0 rfl) (lc (lr rfl) (lc (lr rfl) ln0)))))))
theorem i25:Fn 59 [] [] (.agg (ivC wI0)) []:=by
 refine fnT hT6 hmx Tryz.func59 rfl rfl (ex:= []) ?_;conv=>whnf
 exact⟨leW,lh0⟩
def kp (a b:Dy×Int):Iv:=if a.2≠0\/b.2≠0 then wI0 else⟨a.1,b.1,false⟩
theorem i130 (a b:Dy×Int):Fn 61 [] [.agg (dyC a.1),.int .i64 a.2,.agg (dyC b.1),.int .i64 b.2] (.agg (ivC (kp a b))) []:=by
 obtain⟨R,hR⟩: ∃R,kp a b=R:=⟨_,rfl⟩;rw[hR];unfold kp at hR;have h25:=i25;have e25:ivC wI0= [.bool false,.sl .u32 [],.int .i64 0,.bool false,.sl .u32 [],.int .i64 0,.bool true]:=rfl;rw[e25]at h25;obtain⟨⟨a1,a2,a3⟩,e⟩:=a;obtain⟨⟨b1,b2,b3⟩,f⟩:=b;simp only at hR;refine fnT hT6 hmx Tryz.func61 rfl rfl (ex:= []) ?_;conv=>whnf
 refine brI (fun h1=>?_) (fun h1=>?_)
 ·have h1:e≠0:=by simpa using h1
  rw[if_pos (.inl h1)]at hR;subst hR;conv=>whnf
  refine gZn h25 ?_;conv=>whnf
  exact⟨lr rfl,lh0⟩
 have h1:e=0:=by simpa using h1
 conv=>whnf
 refine brI (fun h2=>?_) (fun h2=>?_)
 ·have h2:f≠0:=by simpa using h2
  rw[if_pos (.inr h2)]at hR;subst hR;conv=>whnf
  refine gZn h25 ?_;conv=>whnf
  exact⟨lr rfl,lh0⟩
 have h2:f=0:=by simpa using h2
 rw[if_neg (by simp[h1,h2])]at hR;subst hR;conv=>whnf
 exact⟨lr rfl,lh0⟩
theorem zcd {d:Dy} (h:VD d):VD (uk d):=by
 unfold uk;split
 ·exact qc
 ·rename_i h0;refine⟨h.eq,.inr ?_⟩;rcases h.ok with ⟨h1,_⟩|h1
  ·exact absurd h1 h0
  ·exact h1
theorem zpo {d:Dy} (h:VD d):VD (zfa d):=by
 refine⟨h.eq,?_⟩;rcases h.ok with ⟨h1,h2,h3⟩|h1
 ·exact .inl ⟨h1,rfl,h3⟩
 ·exact .inr h1
theorem zpn (neg:Bool) (m:Nat) (e:Int) (more up:Bool) (p:Nat) (hp:8<=p/\p<=512):VD (za0 neg m e more p up).1:=by
 have h:=zt9 m e more (up != neg) p hp;unfold za0;split
 ·exact zcd h
 ·exact h
theorem zb1 (d:Dy) (up:Bool) (p:Nat) (hp:8<=p/\p<=512):VD (wj d p up).1:=zpn _ _ _ _ _ _ hp
theorem zce (a b:Dy) (up:Bool) (p:Nat) (hp:8<=p/\p<=512):VD (yf a b p up).1:=zpn _ _ _ _ _ _ hp
theorem zcf (a b:Dy) (up:Bool) (p:Nat) (hp:8<=p/\p<=512):VD (ue a b p up).1:=by
 unfold ue;split
 ·exact qc
 ·exact zpn _ _ _ _ _ _ hp
theorem zey (a b:Dy) (up:Bool) (p:Nat) (hp:8<=p/\p<=512):VD (zai a b p up).1:=by
 unfold zai;split
 ·exact zb1 _ _ _ hp
 ·split
  ·exact zb1 _ _ _ hp
  ·unfold qb3;split
   ·exact qc
   ·exact zpn _ _ _ _ _ _ hp
theorem VD_ck (neg:Bool) (n:Nat) (e:Int):VD (ckN neg n e).1:=by
 unfold ckN;split
 ·rename_i h;exact zmc h
 ·exact qc
theorem zpm (d:Dy) (k:Int):VD (vj d k).1:=by
 unfold vj;split
 ·exact qc
 ·exact VD_ck _ _ _
theorem ux {p:Int}:pcB p=true<-> ∃q:Nat,p=q/\8<=q/\q<=512:=by
 unfold pcB;simp only[Bool.and_eq_true,decide_eq_true_eq];constructor
 ·intro h;exact⟨p.toNat,by omega,by omega,by omega⟩
 ·rintro⟨q,rfl,h⟩;omega
theorem e25:ivC wI0= [.bool false,.sl .u32 [],.int .i64 0,.bool false,.sl .u32 [],.int .i64 0,.bool true]:=rfl
theorem k1 (x:Iv): [x].all kB=kB x:=by simp
theorem k2 (x y:Iv): [x,y].all kB=(kB x&&kB y):=by simp
def zcl (x:Iv):Iv:=if kB x=true then⟨uk x.hi,uk x.lo,false⟩else wI0
theorem i86 (x:Iv) (h:RI x):Fn 32 [] [.agg (ivC x)] (.agg (ivC (zcl x))) []:=by
 have h126:=zws [x] (by simp) (by simpa using h);rw[k1]at h126;have h25:=i25;rw[e25]at h25;by_cases hk:kB x=true
 ·have k:=(qn h).1 hk;have hR:zcl x=⟨uk x.hi,uk x.lo,false⟩:=by unfold zcl;rw[if_pos hk]
  rw[hR];rw[hk]at h126;have n1:Fn 70 [] [.agg (dyC x.lo)] (.agg (dyC (uk x.lo))) []:=v135 k.lo;have n2:Fn 70 [] [.agg (dyC x.hi)] (.agg (dyC (uk x.hi))) []:=v135 k.hi;generalize uk x.lo=a at*;generalize uk x.hi=b at*;clear hR k hk h;refine fnT hT6 hmx Tryz.func32 rfl rfl (ex:= []) ?_;conv=>whnf
  refine gZn h126 ?_;conv=>whnf
  refine gZn n2 ?_;conv=>whnf
  refine gZn n1 ?_;conv=>whnf
  (refine⟨by kernel_rfl,by kernel_rfl,?_⟩;(conv=>whnf))
  exact⟨lr rfl,lh0⟩
 ·have hR:zcl x=wI0:=by unfold zcl;rw[if_neg hk]
  rw[hR];rw[show kB x=false by simpa using hk]at h126;clear hR hk h;refine fnT hT6 hmx Tryz.func32 rfl rfl (ex:= []) ?_;conv=>whnf
  refine gZn h126 ?_;conv=>whnf
  refine gZn h25 ?_;conv=>whnf
  exact⟨lr rfl,lh0⟩
def zp0 (x:Iv):Int:=if kB x=true then(if 0<wz x.lo then 1 else if wz x.hi<0 then-1 else 0)else 0
theorem i134 (x:Iv) (h:RI x):Fn 63 [] [.agg (ivC x)] (.int .i64 (zp0 x)) []:=by
 have h126:=zws [x] (by simp) (by simpa using h);rw[k1]at h126;by_cases hk:kB x=true
 ·have k:=(qn h).1 hk;have hR:zp0 x=(if 0<wz x.lo then 1 else if wz x.hi<0 then-1 else 0):=by unfold zp0;rw[if_pos hk]
  rw[hk]at h126;have n1:=qc1 k.lo;have n2:=qc1 k.hi;generalize zp0 x=R at*;generalize wz x.lo=a at*;generalize wz x.hi=b at*;clear k hk h;refine fnT hT6 hmx Tryz.func63 rfl rfl (ex:= []) ?_;conv=>whnf
  refine gZn h126 ?_;conv=>whnf
  refine gZn n1 ?_;conv=>whnf
  refine brI (fun h1=>?_) (fun h1=>?_)
  ·have h1:0<a:=of_decide_eq_true h1;rw[if_pos h1]at hR;subst hR;conv=>whnf
   exact⟨lr rfl,lh0⟩
  have h1: ¬0<a:=of_decide_eq_false h1;rw[if_neg h1]at hR;conv=>whnf
  refine gZn n2 ?_;conv=>whnf
  refine brI (fun h2=>?_) (fun h2=>?_)
  ·have h2:b<0:=of_decide_eq_true h2;rw[if_pos h2]at hR;subst hR;conv=>whnf
   exact⟨lr rfl,lh0⟩
  ·have h2: ¬b<0:=of_decide_eq_false h2;rw[if_neg h2]at hR;subst hR;conv=>whnf
   exact⟨lr rfl,lh0⟩
 ·have hR:zp0 x=0:=by unfold zp0;rw[if_neg hk]
  rw[hR];rw[show kB x=false by simpa using hk]at h126;clear hR hk h;refine fnT hT6 hmx Tryz.func63 rfl rfl (ex:= []) ?_;conv=>whnf
  refine gZn h126 ?_;conv=>whnf
  exact⟨lr rfl,lh0⟩
def zk (d:Dy):Iv:=⟨d,d,false⟩
theorem i136 {d:Dy} (h:VD d):Fn 76 [] [.agg (dyC d)] (.agg (ivC (zk d))) []:=by
 have h80:=v80 h;clear h;refine fnT hT6 hmx Tryz.func76 rfl rfl (ex:= []) ?_;conv=>whnf
 refine gZn h80 ?_;conv=>whnf
 exact⟨lr rfl,lh0⟩
def yy (x y:Iv) (p:Int):Iv:=if(kB x&&kB y)=true/\pcB p=true then kp (zai x.lo y.lo p.toNat false) (zai x.hi y.hi p.toNat true)else wI0
theorem i82 (x y:Iv) (hx:RI x) (hy:RI y) (p:Int):Fn 29 G0 [.agg (ivC x),.agg (ivC y),.int .i64 p] (.agg (ivC (yy x y p))) G0:=by
 have h126:=zws [x,y] (by simp) (by simpa using⟨hx,hy⟩);rw[k2]at h126;have h127:=i127 p;have h25:=i25;rw[e25]at h25;by_cases hk:(kB x&&kB y)=true
 ·rw[hk]at h126;by_cases hp:pcB p=true
  ·rw[hp]at h127;have hR:yy x y p=kp (zai x.lo y.lo p.toNat false) (zai x.hi y.hi p.toNat true):=by unfold yy;rw[if_pos ⟨hk,hp⟩]
   rw[hR];rw[Bool.and_eq_true]at hk;have kx:=(qn hx).1 hk.1;have ky:=(qn hy).1 hk.2;obtain⟨q,rfl,hq⟩:=ux.1 hp;rw[Int.toNat_natCast];have n1:=v128 kx.lo ky.lo q hq;have n2:=v129 kx.hi ky.hi q hq;have h130:=i130 (zai x.lo y.lo q false) (zai x.hi y.hi q true);generalize kp (zai x.lo y.lo q false) (zai x.hi y.hi q true)=M at*;generalize zai x.lo y.lo q false=A at*;generalize zai x.hi y.hi q true=B at*;clear hR hk kx ky hx hy;obtain⟨⟨a1,a2,a3⟩,e⟩:=A;obtain⟨⟨b1,b2,b3⟩,f⟩:=B;refine fnT hT6 hmx Tryz.func29 rfl rfl (ex:= []) ?_;conv=>whnf
   refine gZn h126 ?_;conv=>whnf
   refine gZn h127 ?_;conv=>whnf
   refine gZc n1 ?_;conv=>whnf
   refine gZc n2 ?_;conv=>whnf
   refine gZn h130 ?_;conv=>whnf
   exact⟨lr rfl,leG⟩
  ·have hR:yy x y p=wI0:=by unfold yy;rw[if_neg fun c=>hp c.2]
   rw[hR];rw[show pcB p=false by simpa using hp]at h127;clear hR hk hx hy;refine fnT hT6 hmx Tryz.func29 rfl rfl (ex:= []) ?_;conv=>whnf
   refine gZn h126 ?_;conv=>whnf
   refine gZn h127 ?_;conv=>whnf
   refine gZn h25 ?_;conv=>whnf
   exact⟨lr rfl,leG⟩
 ·have hR:yy x y p=wI0:=by unfold yy;rw[if_neg fun c=>hk c.1]
  rw[hR];rw[show(kB x&&kB y)=false by simpa using hk]at h126;clear hR hk hx hy;refine fnT hT6 hmx Tryz.func29 rfl rfl (ex:= []) ?_;conv=>whnf
  refine gZn h126 ?_;conv=>whnf
  refine gZn h25 ?_;conv=>whnf
  exact⟨lr rfl,leG⟩
end Go.Proofs.YtgehdbenidimlaaGreatDoor
