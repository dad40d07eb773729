/-
  Rounding: quotients, square roots.
-/
import Derived.Test.YtbolipecnhlnnaaGreatDoorQYr
set_option linter.unusedVariables false
set_option linter.unusedSimpArgs false
open And renaming intro->q9
open Bool renaming and_eq_true->q7,not_eq_true'->qB,eq_iff_iff->qC
open Nat renaming div_le_self->qA,sub_le->qD,zero_mul->qE
namespace Go.Proofs.YtbolipecnhlnnaaGreatDoor
open Go Go.Sx
set_option maxRecDepth 100000
set_option maxHeartbeats 8000000
def zaa (a b:Dy) (p:Nat):Nat:=p+3+bl (nm b)-bl (nm a)
def um (a b:Dy) (p:Nat) (up:Bool):Dy×Int:=
 if nm b=0 then(d0,10)else zbe (a.neg != b.neg) (nm a*2^zaa a b p/nm b) (a.e-zaa a b p-b.e) (decide (nm a*2^zaa a b p % nm b≠0)) p up
theorem zi2 (n:Nat):decide ((bl n:Int)>0)=decide (n≠0):=by
 rw[qC];simp only[decide_eq_true_eq];constructor
 ·intro h e;subst e;simp[ko]at h
 ·intro h;have hb:bl n≠0:=fun e=>h (za6.1 e)
  omega
theorem v121 {a b:Dy} (ha:VD a) (hb:VD b) (up:Bool) (p:Nat) (hp:8<=p/\p<=512):Fn 343 G0 [.agg (dyC a),.agg (dyC b),.int .i64 p,.bool up] (dyV (um a b p up)) G0:=by
 have a1:=ha.bits;have b1:=hb.bits;have a2:=ha.exp;have b2:=hb.exp;have h164:=v164 (p:=p) (l:= [a,b]) hp (by simp) (by simpa using⟨ha,hb⟩);have h165a:=v165 ha;have h165b:=v165 hb;have hz:nm b≠0->nm a=0->um a b p up=(d0,0):=fun h0 h=>by
  unfold um zaa;rw[if_neg h0,h];have e1:0*2^(p+3+bl (nm b)-bl 0)=0:=qE _;rw[e1,Nat.zero_div,Nat.zero_mod];refine zky _ _ _ _ ?_;rcases ha.ok with ⟨_,_,h3⟩|⟨h3,_⟩<;>omega
 have hz0:nm b=0->um a b p up=(d0,10):=fun h=>by unfold um;rw[if_pos h]
 have hk:bl (nm a*2^zaa a b p)<=8192:=by
  by_cases h:nm a=0
  ·rw[h,qE];decide
  ·rw[qk _ _ h];unfold zaa;omega
 have hkb:zaa a b p<=8000:=by unfold zaa;omega
 have hke:(if IntKind.i64.wrap (IntKind.i64.wrap (IntKind.i64.wrap ((p:Int)+3)+(bl (nm b):Int))-(bl (nm a):Int))>0 then IntKind.i64.wrap (IntKind.i64.wrap (IntKind.i64.wrap ((p:Int)+3)+(bl (nm b):Int))-(bl (nm a):Int))else 0)=((zaa a b p:Nat):Int):=by
  rw[wI (x:=(p:Int)+3) (by omega),wI (x:=(p:Int)+3+(bl (nm b):Int)) (by omega),wI (by omega)];unfold zaa;split<;>omega
 have h167:=qdo (nm a) (zaa a b p) (by omega) hk (by omega);have h166:=y166 (nm a*2^zaa a b p) (nm b) (by omega) (by omega);rw[if_neg (by omega)]at h166;have hq:bl (nm a*2^zaa a b p/nm b)<=8192:=by have:=uo (qA (nm a*2^zaa a b p) (nm b));omega
 have hr:bl (nm a*2^zaa a b p % nm b)<=8192:=by have:=uo (Nat.mod_le (nm a*2^zaa a b p) (nm b));omega
 have h169:=v169 (nm a*2^zaa a b p % nm b) (by omega);have h168:=v168 (a.neg != b.neg) (nm a*2^zaa a b p/nm b) (a.e-zaa a b p-b.e) (decide (nm a*2^zaa a b p % nm b≠0)) up p (by omega) (by omega) hp;rw[←zi2]at h168;have hR:nm b≠0->zbe (a.neg != b.neg) (nm a*2^zaa a b p/nm b) (a.e-zaa a b p-b.e) (decide ((bl (nm a*2^zaa a b p % nm b):Int)>0)) p up=um a b p up:=fun h=>by unfold um;rw[if_neg h,←zi2]
 have hw:IntKind.i64.wrap (IntKind.i64.wrap (a.e-(zaa a b p:Int))-b.e)=a.e-zaa a b p-b.e:=by rw[wI (x:=a.e-(zaa a b p:Int)) (by omega),wI (by omega)]
 have ae:=ha.eq;have be:=hb.eq;generalize um a b p up=R at*;generalize zaa a b p=k at*;generalize nm a=x at*;generalize nm b=y at*;obtain⟨an,am,ax⟩:=a;obtain⟨bn,bm,bx⟩:=b;simp only at ae be a2 b2 h168 hR hw;subst ae be;by_cases hy0:y=0
 ·rw[hz0 hy0];subst hy0;rw[jt]at*;refine fnT hT6 hmx Tryz.func343 rfl rfl (ex:= []) ?_;conv=>whnf
  refine gZn h164 ?_;conv=>whnf
  exact⟨zvd,leG⟩
 rw[hR hy0]at h168;rw[if_neg hy0]at h166;by_cases hx0:x=0
 ·rw[hz hy0 hx0];subst hx0;rw[jt]at*;refine fnT hT6 hmx Tryz.func343 rfl rfl (ex:= []) ?_;conv=>whnf
  refine gZn h164 ?_;conv=>whnf
  refine brI (fun h6=>?_) (fun h6=>?_)
  ·have h6:(((toL y).length :Int)==0)=true:=h6;rw[zdf hy0]at h6;cases h6
  conv=>whnf
  exact⟨zvd,leG⟩
 obtain⟨⟨r1,r2,r3⟩,r4⟩:=R;refine fnT hT6 hmx Tryz.func343 rfl rfl (ex:= []) ?_;conv=>whnf
 refine gZn h164 ?_;conv=>whnf
 refine brI (fun h6=>?_) (fun h6=>?_)
 ·have h6:(((toL y).length :Int)==0)=true:=h6;rw[zdf hy0]at h6;cases h6
 conv=>whnf
 refine brI (fun h6=>?_) (fun h6=>?_)
 ·have h6:(((toL x).length :Int)==0)=true:=h6;rw[zdf hx0]at h6;cases h6
 conv=>whnf
 refine gZn h165b ?_;conv=>whnf
 refine gZn h165a ?_;conv=>whnf
 (refine⟨by kernel_rfl,by kernel_rfl,?_⟩;(conv=>whnf))
 rw[hke];refine gZn h167 ?_;conv=>whnf
 refine gZn h166 ?_;conv=>whnf
 (refine⟨by kernel_rfl,by kernel_rfl,?_⟩;(conv=>whnf))
 refine gZn h169 ?_;conv=>whnf
 rw[hw];refine gZc h168 ?_;conv=>whnf
 (refine⟨by kernel_rfl,by kernel_rfl,?_⟩;(conv=>whnf))
 exact⟨lr rfl,leG⟩
def jr (a b:Dy) (p:Nat):Int:=if zu a-zu b<=2 then min (min a.e (zu a-p-8)) b.e else min a.e (zu a-p-8)
def zhs (a b:Dy) (p:Nat):(Nat×Int×Bool)×Bool:=
 if a.neg=b.neg then((nm a*2^(a.e-jr a b p).toNat +(ja (nm b) b.e false (jr a b p)).1,jr a b p,(ja (nm b) b.e false (jr a b p)).2),false)
 else if nm a*2^(a.e-jr a b p).toNat <upN (ja (nm b) b.e false (jr a b p)) true then((upN (ja (nm b) b.e false (jr a b p)) true-nm a*2^(a.e-jr a b p).toNat,jr a b p,false),true)
 else((nm a*2^(a.e-jr a b p).toNat -upN (ja (nm b) b.e false (jr a b p)) true,jr a b p,(ja (nm b) b.e false (jr a b p)).2),false)
theorem v263 (x y:Nat) (hx:bl x<=8190) (hy:bl y<=8190):Fn 320 [] [.sl .u32 (toL x),.sl .u32 (toL y)] (dnV (toL (x+y),0)) []:=by
 have h:=y263 x y (by omega) (by omega);have hs:bl (x+y)<=8191:=by
  exact zus hx hy
 rw[if_neg (by omega)]at h;unfold dnN at h
 rwa [if_neg (by omega)]at h
theorem v264 (x y:Nat) (hx:bl x<=8192) (hy:bl y<=8192) (h:y<=x):Fn 321 [] [.sl .u32 (toL x),.sl .u32 (toL y)] (dnV (toL (x-y),0)) []:=by
 have h264:=y264 x y (by omega) (by omega);have:=uo (qD x y);rw[if_neg (by omega),if_neg (by omega)]at h264;unfold dnN at h264
 rwa [if_neg (by omega)]at h264
theorem zni {a b:Dy} {p:Nat} (ha:VD a) (hb:VD b) (h0:nm a≠0) (hle:zu b<=zu a) (hb0:nm b≠0) (hp:8<=p/\p<=512):
 jr a b p<=a.e/\zu a-4200<=jr a b p/\ -40000<=jr a b p/\jr a b p<=16384:=by
 have a1:=ha.bits;have b1:=hb.bits;have a2:=ha.exp;have b2:=hb.exp;have ta:zu a=bl (nm a)+a.e:=by unfold zu;rw[if_neg h0]
 have tb:zu b=bl (nm b)+b.e:=by unfold zu;rw[if_neg hb0]
 unfold jr;split<;>omega
theorem v224 {a b:Dy} (ha:VD a) (hb:VD b) (ha0:nm a≠0) (hb0:nm b≠0) (hle:zu b<=zu a) (p:Nat) (hp:8<=p/\p<=512):
 Fn 232 [] [.agg (dyC a),.agg (dyC b),.int .i64 p] (.tup [.agg (xcC (zhs a b p).1.1 (zhs a b p).1.2.1 (zhs a b p).1.2.2),.bool (zhs a b p).2]) []:=by
 have a1:=ha.bits;have b1:=hb.bits;have a2:=ha.exp;have b2:=hb.exp;have h176a:=zu9 ha;have h176b:=zu9 hb;obtain⟨l1,l2,l3,l4⟩:=zni ha hb ha0 hle hb0 hp;have ta:zu a=bl (nm a)+a.e:=by unfold zu;rw[if_neg ha0]
 have tb:zu b=bl (nm b)+b.e:=by unfold zu;rw[if_neg hb0]
 have xb:bl (nm a*2^(a.e-jr a b p).toNat)<=4200:=by rw[qk _ _ ha0];omega
 have fb:bl (ja (nm b) b.e false (jr a b p)).1<=4200:=by
  unfold ja;split
  ·simp only;rw[qk _ _ hb0];omega
  ·simp only;have:=uo (qA (nm b) (2^(jr a b p-b.e).toNat));omega
 have hf1:jr a b p<=b.e->ja (nm b) b.e false (jr a b p)=(nm b*2^(b.e-jr a b p).toNat,false):=fun h=>by unfold ja;rw[if_pos h]
 have hf2: ¬jr a b p<=b.e->ja (nm b) b.e false (jr a b p)=(nm b/2^(jr a b p-b.e).toNat,decide (nm b % 2^(jr a b p-b.e).toNat ≠0)):=fun h=>by unfold ja;rw[if_neg h,Bool.false_or]
 have g1:IntKind.i64.wrap (a.e-jr a b p)=(((a.e-jr a b p).toNat :Nat):Int):=by rw[wI (by omega)];omega
 have g2:jr a b p<=b.e->IntKind.i64.wrap (b.e-jr a b p)=(((b.e-jr a b p).toNat :Nat):Int):=fun h=>by rw[wI (by omega)];omega
 have g3: ¬jr a b p<=b.e->IntKind.i64.wrap (jr a b p-b.e)=(((jr a b p-b.e).toNat :Nat):Int):=fun h=>by rw[wI (by omega)];omega
 have m1:(if IntKind.i64.wrap (IntKind.i64.wrap (zu a-(p:Int))-8)<a.e then IntKind.i64.wrap (IntKind.i64.wrap (zu a-(p:Int))-8)else a.e)=min a.e (zu a-p-8):=by
  rw[wI (x:=zu a-(p:Int)) (by omega),wI (by omega)];split<;>omega
 have m2:IntKind.i64.wrap (zu a-zu b)=zu a-zu b:=wI (by omega);have m3:zu a-zu b<=2->(if b.e<min a.e (zu a-p-8)then b.e else min a.e (zu a-p-8))=jr a b p:=fun h=>by unfold jr;rw[if_pos h];split<;>omega
 have m4: ¬zu a-zu b<=2->min a.e (zu a-p-8)=jr a b p:=fun h=>by unfold jr;rw[if_neg h]
 have h167a:=qdo (nm a) (a.e-jr a b p).toNat (by omega) (by omega) (by omega);unfold zhs;generalize jr a b p=low at*;obtain⟨F,hF⟩: ∃F,ja (nm b) b.e false low=F:=⟨_,rfl⟩;rw[hF]at fb hf1 hf2⊢;have h167b:low<=b.e->Fn 318 [] [.sl .u32 (toL (nm b)),.int .i64 (IntKind.i64.wrap (b.e-low))] (.sl .u32 (toL F.1)) []/\F.2=false:=fun h=>by
  have e:=hf1 h;rw[e]at fb⊢;simp only at fb;rw[g2 h];exact⟨qdo (nm b) _ (by omega) (by omega) (by omega),rfl⟩
 have h262b: ¬low<=b.e->Fn 319 [] [.sl .u32 (toL (nm b)),.int .i64 (IntKind.i64.wrap (low-b.e))] (.tup [.sl .u32 (toL F.1),.bool F.2]) []:=fun h=>by
  rw[hf2 h];exact v262 (nm b) _ (g3 h) (by omega) (by omega)
 obtain⟨x,hx⟩: ∃x,nm a*2^(a.e-low).toNat =x:=⟨_,rfl⟩;rw[hx]at xb h167a⊢;have ae:=ha.eq;have be:=hb.eq;clear hF hf1 hf2 g2 g3 ha hb hx;generalize zu a=tA at*;generalize zu b=tB at*;generalize nm a=na at*;generalize nm b=nb at*;obtain⟨an,am,ax⟩:=a;obtain⟨bn,bm,bx⟩:=b;simp only at ae be a2 b2 g1 m1 m3 m4 h167a h167b h262b⊢;subst ae be;rw[←g1]at h167a;have h263:=v263 x F.1 (by omega) (by omega);have h1:=v263 F.1 1 (by omega) (by decide);rw[zjr]at h1;have ub:bl (upN F true)<=4300:=by
  unfold upN;split
  ·have:=zhk F.1;omega
  ·omega
 have hu1:F.2=true->upN F true=F.1+1:=fun h=>by unfold upN;rw[h];rfl
 have hu2:F.2=false->upN F true=F.1:=fun h=>by unfold upN;rw[h];rfl
 have h177:=v177 x (upN F true) (by omega) (by omega);have h264a:=v264 x (upN F true) (by omega) (by omega);have h264b:=v264 (upN F true) x (by omega) (by omega);obtain⟨y,lost⟩:=F;simp only at*;generalize hU:upN (y,lost) true=U at*;refine vn (code:=Tryz.f232.body.getD .skip) hT6 hmx Tryz.func232 rfl rfl (ex:= []) ?_;conv=>whnf
 refine jm hT6 hmx 7 (fun _:Unit=>⟨[.any,.any,.int .i64 p,.ptr 3 0,.ptr 4 0,.any,.ptr 6 0,.bool false,.int .i64 low,.sl .u32 (toL x),.sl .u32 (toL y),.bool lost]++uh 97,[(3,.cells [.bool an,.sl .u32 (toL na),.int .i64 ax]),(4,.cells [.bool bn,.sl .u32 (toL nb),.int .i64 bx]),(6,.cells [.nilsl,.int .i64 0,.bool false])]⟩) (fun _=>by kernel_rfl) ?_ (fun _=>?_)
 ·conv=>whnf
  refine gZn h176a ?_;conv=>whnf
  (refine⟨by kernel_rfl,by kernel_rfl,?_⟩;(conv=>whnf))
  rw[m1];refine gZn h176a ?_;conv=>whnf
  refine gZn h176b ?_;conv=>whnf
  (refine⟨by kernel_rfl,by kernel_rfl,?_⟩;(conv=>whnf))
  rw[m2];have tail:True:=trivial;refine brI (fun h5=>?_) (fun h5=>?_)
  ·have h5:tA-tB<=2:=of_decide_eq_true h5;conv=>whnf
   rw[m3 h5];refine gZn h167a ?_;conv=>whnf
   refine brI (fun h6=>?_) (fun h6=>?_)
   ·have h6:low<=bx:=of_decide_eq_true h6;obtain⟨hb1,hb2⟩:=h167b h6;subst hb2;conv=>whnf
    refine gZn hb1 ?_;conv=>whnf
    refine⟨(),?_⟩
    ((conv=>whnf);refine q9 ?_ ?_;repeat' first|refine lc ?_ ?_|exact la0|exact lr rfl|exact ln0|refine lh1 ?_ ?_|exact lh0|exact bf0|exact bd0|refine bc0 ?_|exact bm0 rfl|exact bb0 rfl|exact bg0 rfl|exact li0 rfl|refine lg0 ?_|refine lt0 ?_|fail)
   ·have h6: ¬low<=bx:=of_decide_eq_false h6;conv=>whnf
    refine gZn (h262b h6) ?_;conv=>whnf
    refine⟨(),?_⟩
    ((conv=>whnf);refine q9 ?_ ?_;repeat' first|refine lc ?_ ?_|exact la0|exact lr rfl|exact ln0|refine lh1 ?_ ?_|exact lh0|exact bf0|exact bd0|refine bc0 ?_|exact bm0 rfl|exact bb0 rfl|exact bg0 rfl|exact li0 rfl|refine lg0 ?_|refine lt0 ?_|fail)
  ·have h5: ¬tA-tB<=2:=of_decide_eq_false h5;conv=>whnf
   rw[m4 h5];refine gZn h167a ?_;conv=>whnf
   refine brI (fun h6=>?_) (fun h6=>?_)
   ·have h6:low<=bx:=of_decide_eq_true h6;obtain⟨hb1,hb2⟩:=h167b h6;subst hb2;conv=>whnf
    refine gZn hb1 ?_;conv=>whnf
    refine⟨(),?_⟩
    ((conv=>whnf);refine q9 ?_ ?_;repeat' first|refine lc ?_ ?_|exact la0|exact lr rfl|exact ln0|refine lh1 ?_ ?_|exact lh0|exact bf0|exact bd0|refine bc0 ?_|exact bm0 rfl|exact bb0 rfl|exact bg0 rfl|exact li0 rfl|refine lg0 ?_|refine lt0 ?_|fail)
   ·have h6: ¬low<=bx:=of_decide_eq_false h6;conv=>whnf
    refine gZn (h262b h6) ?_;conv=>whnf
    refine⟨(),?_⟩
    ((conv=>whnf);refine q9 ?_ ?_;repeat' first|refine lc ?_ ?_|exact la0|exact lr rfl|exact ln0|refine lh1 ?_ ?_|exact lh0|exact bf0|exact bd0|refine bc0 ?_|exact bm0 rfl|exact bb0 rfl|exact bg0 rfl|exact li0 rfl|refine lg0 ?_|refine lt0 ?_|fail)
 ·refine jf hT6 hmx ?_;conv=>whnf
  refine brI (fun h5=>?_) (fun h5=>?_)
  ·have h5:an=bn:=by have h5:(an==bn)=true:=h5;rwa [beq_iff_eq]at h5
   rw[if_pos h5];conv=>whnf
   refine gZn h263 ?_;conv=>whnf
   exact⟨lr rfl,lh0⟩
  ·have h5:an≠bn:=by have h5:(an==bn)=false:=h5;rwa [beq_eq_false_iff_ne]at h5
   rw[if_neg h5];conv=>whnf
   cases lost with
   |true=>
    have e:=hu1 rfl;rw[←e]at h1;conv=>whnf
    refine gZn h1 ?_;conv=>whnf
    refine gZn h177 ?_;conv=>whnf
    refine brI (fun h6=>?_) (fun h6=>?_)
    ·have h6:zae x U<0:=of_decide_eq_true h6;have h6:x<U:=by unfold zae at h6;split at h6;assumption;split at h6<;>omega
     rw[if_pos h6];conv=>whnf
     refine gZn (h264b (by omega)) ?_;conv=>whnf
     exact⟨lr rfl,lh0⟩
    ·have h6: ¬zae x U<0:=of_decide_eq_false h6;have h6: ¬x<U:=fun h=>h6 (by unfold zae;rw[if_pos h];decide)
     rw[if_neg h6];conv=>whnf
     refine gZn (h264a (by omega)) ?_;conv=>whnf
     exact⟨lr rfl,lh0⟩
   |false=>
    have e:=hu2 rfl;subst e;conv=>whnf
    refine gZn h177 ?_;conv=>whnf
    refine brI (fun h6=>?_) (fun h6=>?_)
    ·have h6:zae x U<0:=of_decide_eq_true h6;have h6:x<U:=by unfold zae at h6;split at h6;assumption;split at h6<;>omega
     rw[if_pos h6];conv=>whnf
     refine gZn (h264b (by omega)) ?_;conv=>whnf
     exact⟨lr rfl,lh0⟩
    ·have h6: ¬zae x U<0:=of_decide_eq_false h6;have h6: ¬x<U:=fun h=>h6 (by unfold zae;rw[if_pos h];decide)
     rw[if_neg h6];conv=>whnf
     refine gZn (h264a (by omega)) ?_;conv=>whnf
     exact⟨lr rfl,lh0⟩
theorem zz9 {a b:Dy} {p:Nat} (ha:VD a) (hb:VD b) (ha0:nm a≠0) (hb0:nm b≠0) (hle:zu b<=zu a) (hp:8<=p/\p<=512):
 bl (zhs a b p).1.1<=8000/\ -100000<=(zhs a b p).1.2.1/\(zhs a b p).1.2.1<=100000:=by
 have a1:=ha.bits;have b1:=hb.bits;have a2:=ha.exp;have b2:=hb.exp;obtain⟨l1,l2,l3,l4⟩:=zni ha hb ha0 hle hb0 hp;have ta:zu a=bl (nm a)+a.e:=by unfold zu;rw[if_neg ha0]
 have tb:zu b=bl (nm b)+b.e:=by unfold zu;rw[if_neg hb0]
 have xb:bl (nm a*2^(a.e-jr a b p).toNat)<=4200:=by rw[qk _ _ ha0];omega
 have fb:bl (ja (nm b) b.e false (jr a b p)).1<=4200:=by
  unfold ja;split
  ·simp only;rw[qk _ _ hb0];omega
  ·simp only;have:=uo (qA (nm b) (2^(jr a b p-b.e).toNat));omega
 unfold zhs;generalize jr a b p=low at*;generalize nm a*2^(a.e-low).toNat =x at*;generalize ja (nm b) b.e false low=F at*;have hu:bl (upN F true)<=4201:=by
  unfold upN;split
  ·have:=zhk F.1;omega
  ·omega
 split
 ·refine⟨?_,by simp only;omega,by simp only;omega⟩;simp only;have:bl (x+F.1)<=4201:=zus xb fb;omega
 ·split
  ·refine⟨?_,by simp only;omega,by simp only;omega⟩;have:=uo (qD (upN F true) x);simp only;omega
  ·refine⟨?_,by simp only;omega,by simp only;omega⟩;have:=uo (qD x (upN F true));simp only;omega
def zhy (a b:Dy):Dy:=if zu a<zu b then b else a
def zh3 (a b:Dy):Dy:=if zu a<zu b then a else b
def qcq (c d:Dy) (p:Nat) (up:Bool):Dy×Int:=
 if(zhs c d p).1.1=0/\(zhs c d p).1.2.2=false then(d0,0)else zbe (c.neg != (zhs c d p).2) (zhs c d p).1.1 (zhs c d p).1.2.1 (zhs c d p).1.2.2 p up
def zan (a b:Dy) (p:Nat) (up:Bool):Dy×Int:=
 if nm a=0 then wo b p up else if nm b=0 then wo a p up else qcq (zhy a b) (zh3 a b) p up
theorem v179 {a b:Dy} (ha:VD a) (hb:VD b) (up:Bool) (p:Nat) (hp:8<=p/\p<=512):Fn 158 G0 [.agg (dyC a),.agg (dyC b),.int .i64 p,.bool up] (dyV (zan a b p up)) G0:=by
 have h164:=v164 (p:=p) (l:= [a,b]) hp (by simp) (by simpa using⟨ha,hb⟩);by_cases ha0:nm a=0
 ·have h223:=v223 hb up p hp;have hR:zan a b p up=wo b p up:=by unfold zan;rw[if_pos ha0]
  rw[hR];generalize wo b p up=R at*;have ae:=ha.eq;rw[ha0]at ae;clear ha hb hR ha0;obtain⟨an,am,ax⟩:=a;obtain⟨bn,bm,bx⟩:=b;obtain⟨⟨r1,r2,r3⟩,r4⟩:=R;simp only at ae;subst ae;refine fnT hT6 hmx Tryz.func158 rfl rfl (ex:= []) ?_;conv=>whnf
  refine gZn h164 ?_;conv=>whnf
  refine gZc h223 ?_;conv=>whnf
  exact⟨lr rfl,leG⟩
 by_cases hb0:nm b=0
 ·have h223:=v223 ha up p hp;have hR:zan a b p up=wo a p up:=by unfold zan;rw[if_neg ha0,if_pos hb0]
  rw[hR];generalize wo a p up=R at*;have ae:=ha.eq;have be:=hb.eq;rw[hb0]at be;clear ha hb hR hb0;generalize nm a=na at*;obtain⟨an,am,ax⟩:=a;obtain⟨bn,bm,bx⟩:=b;obtain⟨⟨r1,r2,r3⟩,r4⟩:=R;simp only at ae be;subst ae be;refine fnT hT6 hmx Tryz.func158 rfl rfl (ex:= []) ?_;conv=>whnf
  refine gZn h164 ?_;conv=>whnf
  refine brI (fun h6=>?_) (fun h6=>?_)
  ·have h6:(((toL na).length :Int)==0)=true:=h6;rw[zdf ha0]at h6;cases h6
  conv=>whnf
  refine gZc h223 ?_;conv=>whnf
  exact⟨lr rfl,leG⟩
 have hR:zan a b p up=qcq (zhy a b) (zh3 a b) p up:=by unfold zan;rw[if_neg ha0,if_neg hb0]
 rw[hR];have h176a:=zu9 ha;have h176b:=zu9 hb;have hc:VD (zhy a b)/\VD (zh3 a b)/\nm (zhy a b)≠0/\nm (zh3 a b)≠0/\zu (zh3 a b)<=zu (zhy a b):=by
  unfold zhy zh3;split
  ·exact⟨hb,ha,hb0,ha0,by omega⟩
  ·exact⟨ha,hb,ha0,hb0,by omega⟩
 obtain⟨c1,c2,c3,c4,c5⟩:=hc;have h224:=v224 c1 c2 c3 c4 c5 p hp;obtain⟨s1,s2,s3⟩:=zz9 c1 c2 c3 c4 c5 hp;have h168:=v168 ((zhy a b).neg != (zhs (zhy a b) (zh3 a b) p).2) (zhs (zhy a b) (zh3 a b) p).1.1 (zhs (zhy a b) (zh3 a b) p).1.2.1 (zhs (zhy a b) (zh3 a b) p).1.2.2 up p (by omega) ⟨s2,s3⟩ hp;have hf1:zu a<zu b->zhy a b=b/\zh3 a b=a:=fun h=>by unfold zhy zh3;rw[if_pos h,if_pos h];exact⟨rfl,rfl⟩
 have hf2: ¬zu a<zu b->zhy a b=a/\zh3 a b=b:=fun h=>by unfold zhy zh3;rw[if_neg h,if_neg h];exact⟨rfl,rfl⟩
 unfold qcq;generalize zhy a b=c at*;generalize zh3 a b=d at*;generalize zhs c d p=S at*;obtain⟨⟨sm,sl,sx⟩,st⟩:=S;simp only at h224 h168 s1 s2 s3⊢;generalize zbe (c.neg != st) sm sl sx p up=R at*;have ae:=ha.eq;have be:=hb.eq;clear ha hb c1 c2 c3 c4 c5 hR;generalize zu a=tA at*;generalize zu b=tB at*;generalize nm a=na at*;generalize nm b=nb at*;obtain⟨an,am,ax⟩:=a;obtain⟨bn,bm,bx⟩:=b;obtain⟨cn,cm,cx⟩:=c;obtain⟨dn,dm,dx⟩:=d;obtain⟨⟨r1,r2,r3⟩,r4⟩:=R;simp only at ae be h168;subst ae be;refine vn (code:=Tryz.f158.body.getD .skip) hT6 hmx Tryz.func158 rfl rfl (ex:= []) ?_;conv=>whnf
 refine jm hT6 hmx 4 (fun _:Unit=>⟨[.any,.any,.int .i64 p,.bool up,.ptr 4 0,.ptr 5 0,.any,.any,.ptr 8 0,.int .i64 0,.int .i64 0]++uh 67,[(4,.cells [.bool cn,.sl .u32 cm,.int .i64 cx]),(5,.cells [.bool dn,.sl .u32 dm,.int .i64 dx]),(8,.cells [.bool false,.nilsl,.int .i64 0]),(11,.free),(qa,.gst JT)]⟩) (fun _=>by kernel_rfl) ?_ (fun _=>?_)
 ·conv=>whnf
  refine gZn h164 ?_;conv=>whnf
  refine brI (fun h6=>?_) (fun h6=>?_)
  ·have h6:(((toL na).length :Int)==0)=true:=h6;rw[zdf ha0]at h6;cases h6
  conv=>whnf
  refine brI (fun h6=>?_) (fun h6=>?_)
  ·have h6:(((toL nb).length :Int)==0)=true:=h6;rw[zdf hb0]at h6;cases h6
  conv=>whnf
  refine gZn h176a ?_;conv=>whnf
  refine gZn h176b ?_;conv=>whnf
  (refine⟨by kernel_rfl,by kernel_rfl,?_⟩;(conv=>whnf))
  refine brI (fun h6=>?_) (fun h6=>?_)
  ·have h6:tA<tB:=of_decide_eq_true h6;obtain⟨e1,e2⟩:=hf1 h6;injection e1 with q1 q2 q3
   injection e2 with q4 q5 q6
   subst q1 q2 q3 q4 q5 q6;conv=>whnf
   refine⟨(),?_⟩
   ((conv=>whnf);refine q9 ?_ ?_;repeat' first|refine lc ?_ ?_|exact la0|exact lr rfl|exact ln0|refine lh1 ?_ ?_|exact lh0|exact bf0|exact bd0|refine bc0 ?_|exact bm0 rfl|exact bb0 rfl|exact bg0 rfl|exact li0 rfl|refine lg0 ?_|refine lt0 ?_|fail)
  ·have h6: ¬tA<tB:=of_decide_eq_false h6;obtain⟨e1,e2⟩:=hf2 h6;injection e1 with q1 q2 q3
   injection e2 with q4 q5 q6
   subst q1 q2 q3 q4 q5 q6;conv=>whnf
   refine⟨(),?_⟩
   ((conv=>whnf);refine q9 ?_ ?_;repeat' first|refine lc ?_ ?_|exact la0|exact lr rfl|exact ln0|refine lh1 ?_ ?_|exact lh0|exact bf0|exact bd0|refine bc0 ?_|exact bm0 rfl|exact bb0 rfl|exact bg0 rfl|exact li0 rfl|refine lg0 ?_|refine lt0 ?_|fail)
 ·refine jf hT6 hmx ?_;conv=>whnf
  refine gZn h224 ?_;conv=>whnf
  refine brI (fun h6=>?_) (fun h6=>?_)
  ·have h6:(toL sm).length =0:=by have h6:(((toL sm).length :Int)==0)=true:=h6;rw[beq_iff_eq]at h6;omega
   have h6:=jy.1 h6
   cases sx with
   |false=>
    rw[if_pos ⟨h6,rfl⟩];conv=>whnf
    exact⟨zvd,leG⟩
   |true=>
    rw[if_neg (by simp)];conv=>whnf
    refine gZc h168 ?_;conv=>whnf
    exact⟨lr rfl,leG⟩
  ·have h6:sm≠0:=fun e=>by
    subst e;have h6:(((toL 0).length :Int)==0)=false:=h6;simp[jt]at h6
   rw[if_neg (fun c=>h6 c.1)];conv=>whnf
   refine gZc h168 ?_;conv=>whnf
   exact⟨lr rfl,leG⟩
theorem qdq {a b:Dy} (ha:VD a) (hb:VD b) (p:Nat) (hp:8<=p/\p<=512):Fn 72 G0 [.agg (dyC a),.agg (dyC b),.int .i64 p] (dyV (ue a b p false)) G0:=by
 have h:=v180 ha hb false p hp;generalize ue a b p false=R at*;clear ha hb;obtain⟨an,am,ax⟩:=a;obtain⟨bn,bm,bx⟩:=b;obtain⟨⟨r1,r2,r3⟩,r4⟩:=R;refine fnT hT6 hmx Tryz.func72 rfl rfl (ex:= []) ?_;conv=>whnf
 refine gZc h ?_;conv=>whnf
 exact⟨lr rfl,leG⟩
theorem qdp {a b:Dy} (ha:VD a) (hb:VD b) (p:Nat) (hp:8<=p/\p<=512):Fn 73 G0 [.agg (dyC a),.agg (dyC b),.int .i64 p] (dyV (ue a b p true)) G0:=by
 have h:=v180 ha hb true p hp;generalize ue a b p true=R at*;clear ha hb;obtain⟨an,am,ax⟩:=a;obtain⟨bn,bm,bx⟩:=b;obtain⟨⟨r1,r2,r3⟩,r4⟩:=R;refine fnT hT6 hmx Tryz.func73 rfl rfl (ex:= []) ?_;conv=>whnf
 refine gZc h ?_;conv=>whnf
 exact⟨lr rfl,leG⟩
theorem v76 {a b:Dy} (ha:VD a) (hb:VD b) (p:Nat) (hp:8<=p/\p<=512):Fn 265 G0 [.agg (dyC a),.agg (dyC b),.int .i64 p] (dyV (um a b p false)) G0:=by
 have h:=v121 ha hb false p hp;generalize um a b p false=R at*;clear ha hb;obtain⟨an,am,ax⟩:=a;obtain⟨bn,bm,bx⟩:=b;obtain⟨⟨r1,r2,r3⟩,r4⟩:=R;refine fnT hT6 hmx Tryz.func265 rfl rfl (ex:= []) ?_;conv=>whnf
 refine gZc h ?_;conv=>whnf
 exact⟨lr rfl,leG⟩
theorem v78 {a b:Dy} (ha:VD a) (hb:VD b) (p:Nat) (hp:8<=p/\p<=512):Fn 266 G0 [.agg (dyC a),.agg (dyC b),.int .i64 p] (dyV (um a b p true)) G0:=by
 have h:=v121 ha hb true p hp;generalize um a b p true=R at*;clear ha hb;obtain⟨an,am,ax⟩:=a;obtain⟨bn,bm,bx⟩:=b;obtain⟨⟨r1,r2,r3⟩,r4⟩:=R;refine fnT hT6 hmx Tryz.func266 rfl rfl (ex:= []) ?_;conv=>whnf
 refine gZc h ?_;conv=>whnf
 exact⟨lr rfl,leG⟩
theorem v128 {a b:Dy} (ha:VD a) (hb:VD b) (p:Nat) (hp:8<=p/\p<=512):Fn 77 G0 [.agg (dyC a),.agg (dyC b),.int .i64 p] (dyV (zan a b p false)) G0:=by
 have h:=v179 ha hb false p hp;generalize zan a b p false=R at*;clear ha hb;obtain⟨an,am,ax⟩:=a;obtain⟨bn,bm,bx⟩:=b;obtain⟨⟨r1,r2,r3⟩,r4⟩:=R;refine fnT hT6 hmx Tryz.func77 rfl rfl (ex:= []) ?_;conv=>whnf
 refine gZc h ?_;conv=>whnf
 exact⟨lr rfl,leG⟩
theorem v129 {a b:Dy} (ha:VD a) (hb:VD b) (p:Nat) (hp:8<=p/\p<=512):Fn 78 G0 [.agg (dyC a),.agg (dyC b),.int .i64 p] (dyV (zan a b p true)) G0:=by
 have h:=v179 ha hb true p hp;generalize zan a b p true=R at*;clear ha hb;obtain⟨an,am,ax⟩:=a;obtain⟨bn,bm,bx⟩:=b;obtain⟨⟨r1,r2,r3⟩,r4⟩:=R;refine fnT hT6 hmx Tryz.func78 rfl rfl (ex:= []) ?_;conv=>whnf
 refine gZc h ?_;conv=>whnf
 exact⟨lr rfl,leG⟩
theorem zxm {x y:Nat} (h:bl x<bl y):x<y:=Nat.not_le.1 fun c=>by have:=uo c;omega
def cmA (a b:Dy):Int:=zae (nm a*2^(a.e-min a.e b.e).toNat) (nm b*2^(b.e-min a.e b.e).toNat)
theorem znb {x y:Nat} (h:x<y):zae x y= -1:=by unfold zae;rw[if_pos h]
theorem znc {x y:Nat} (h:y<x):zae x y=1:=by unfold zae;rw[if_neg (by omega),if_pos h]
theorem v125 {a b:Dy} (ha:VD a) (hb:VD b) (ha0:nm a≠0) (hb0:nm b≠0):Fn 180 [] [.agg (dyC a),.agg (dyC b)] (.int .i64 (cmA a b)) []:=by
 have a1:=ha.bits;have b1:=hb.bits;have a2:=ha.exp;have b2:=hb.exp;have h176a:=zu9 ha;have h176b:=zu9 hb;have ta:zu a=bl (nm a)+a.e:=by unfold zu;rw[if_neg ha0]
 have tb:zu b=bl (nm b)+b.e:=by unfold zu;rw[if_neg hb0]
 have m1:(if b.e<a.e then b.e else a.e)=min a.e b.e:=by split<;>omega
 have xa:=qk (nm a) (a.e-min a.e b.e).toNat ha0;have xb:=qk (nm b) (b.e-min a.e b.e).toNat hb0;have hlt:zu a<zu b->cmA a b= -1:=fun h=>znb (zxm (by omega))
 have hgt:zu b<zu a->cmA a b=1:=fun h=>znc (zxm (by omega))
 have g1:IntKind.i64.wrap (a.e-min a.e b.e)=(((a.e-min a.e b.e).toNat :Nat):Int):=by rw[wI (by omega)];omega
 have g2:IntKind.i64.wrap (b.e-min a.e b.e)=(((b.e-min a.e b.e).toNat :Nat):Int):=by rw[wI (by omega)];omega
 have h178a:zu a=zu b->Fn 274 [] [.sl .u32 (toL (nm a)),.int .i64 (IntKind.i64.wrap (a.e-min a.e b.e))] (.sl .u32 (toL (nm a*2^(a.e-min a.e b.e).toNat))) []:=fun h=>by
  rw[g1];exact v178 _ _ (by omega) (by omega) (by omega)
 have h178b:zu a=zu b->Fn 274 [] [.sl .u32 (toL (nm b)),.int .i64 (IntKind.i64.wrap (b.e-min a.e b.e))] (.sl .u32 (toL (nm b*2^(b.e-min a.e b.e).toNat))) []:=fun h=>by
  rw[g2];exact v178 _ _ (by omega) (by omega) (by omega)
 have h177:zu a=zu b->Fn 273 [] [.sl .u32 (toL (nm a*2^(a.e-min a.e b.e).toNat)),.sl .u32 (toL (nm b*2^(b.e-min a.e b.e).toNat))] (.int .i64 (cmA a b)) []:=fun h=>v177 _ _ (by omega) (by omega)
 generalize cmA a b=c at*;generalize nm a*2^(a.e-min a.e b.e).toNat =X at*;generalize nm b*2^(b.e-min a.e b.e).toNat =Y at*;generalize zu a=tA at*;generalize zu b=tB at*;generalize min a.e b.e=t at*;have ae:=ha.eq;have be:=hb.eq;clear ha hb xa xb;generalize nm a=na at*;generalize nm b=nb at*;obtain⟨an,am,ax⟩:=a;obtain⟨bn,bm,bx⟩:=b;simp only at ae be m1 h178a h178b;subst ae be;refine fnT hT6 hmx Tryz.func180 rfl rfl (ex:= []) ?_;conv=>whnf
 refine gZn h176a ?_;conv=>whnf
 refine gZn h176b ?_;conv=>whnf
 (refine⟨by kernel_rfl,by kernel_rfl,?_⟩;(conv=>whnf))
 refine brI (fun h1=>?_) (fun h1=>?_)
 ·rw[hlt (of_decide_eq_true h1)];conv=>whnf
  exact⟨lr rfl,lh0⟩
 have h1: ¬tA<tB:=of_decide_eq_false h1;conv=>whnf
 refine brI (fun h2=>?_) (fun h2=>?_)
 ·rw[hgt (of_decide_eq_true h2)];conv=>whnf
  exact⟨lr rfl,lh0⟩
 have h2: ¬tB<tA:=of_decide_eq_false h2;have he:tA=tB:=by omega
 conv=>whnf
 rw[m1];refine gZn (h178a he) ?_;conv=>whnf
 refine gZn (h178b he) ?_;conv=>whnf
 refine gZn (h177 he) ?_;conv=>whnf
 (refine⟨by kernel_rfl,by kernel_rfl,?_⟩;(conv=>whnf))
 exact⟨lr rfl,lh0⟩
def zv9 (x y:Int):Int:=if x<y then-1 else if y<x then 1 else 0
def zi (d:Dy) (t:Int):Int:=if d.neg=true then-((nm d*2^(d.e-t).toNat :Nat):Int)else((nm d*2^(d.e-t).toNat :Nat):Int)
def qe (a b:Dy):Int:=zv9 (zi a (min a.e b.e)) (zi b (min a.e b.e))
theorem zq6 (d:Dy) (t:Int):wk d=zv9 (zi d t) 0:=by
 unfold wk zi zv9;have hp:=Nat.two_pow_pos (d.e-t).toNat;by_cases h:nm d=0
 ·rw[if_pos h,h];split<;>simp
 ·rw[if_neg h];have:0<nm d*2^(d.e-t).toNat :=Nat.mul_pos (Nat.pos_of_ne_zero h) hp;split<;>split<;>omega
theorem zmb {a b:Dy} (h:wk a=wk b) (h0:wk a≠0):qe a b=wk a*cmA a b:=by
 unfold qe cmA;unfold wk at h h0⊢;by_cases ha:nm a=0
 ·rw[if_pos ha]at h0;exact absurd rfl h0
 ·rw[if_neg ha]at h h0⊢;by_cases hb:nm b=0
  ·rw[if_pos hb]at h;exact absurd h h0
  ·rw[if_neg hb]at h;unfold zi zv9 zae;generalize nm a*2^(a.e-min a.e b.e).toNat =X;generalize nm b*2^(b.e-min a.e b.e).toNat =Y;by_cases hna:a.neg=true<;>by_cases hnb:b.neg=true<;>simp only[hna,hnb,if_true,if_false,Bool.false_eq_true]at h⊢
   ·by_cases c1:X<Y
    ·rw[if_pos c1,if_neg (by omega),if_pos (by omega)];rfl
    ·by_cases c2:Y<X
     ·rw[if_neg c1,if_pos c2,if_pos (by omega)];rfl
     ·rw[if_neg c1,if_neg c2,if_neg (by omega),if_neg (by omega)];rfl
   ·cases h
   ·cases h
   ·by_cases c1:X<Y
    ·rw[if_pos c1,if_pos (by omega)];rfl
    ·by_cases c2:Y<X
     ·rw[if_neg c1,if_pos c2,if_neg (by omega),if_pos (by omega)];rfl
     ·rw[if_neg c1,if_neg c2,if_neg (by omega),if_neg (by omega)];rfl
theorem zpw {a b:Dy}:(wk a<wk b->qe a b= -1)/\(wk b<wk a->qe a b=1)/\(wk a=wk b->wk a=0->qe a b=0):=by
 rw[zq6 a (min a.e b.e),zq6 b (min a.e b.e)];unfold qe;generalize zi a (min a.e b.e)=x;generalize zi b (min a.e b.e)=y;unfold zv9;refine⟨?_,?_,?_⟩
 ·intro h;split at h<;>split at h<;>(try split at h)<;>(try split at h)<;>first|(rw[if_pos (by omega)])|omega
 ·intro h;split at h<;>split at h<;>(try split at h)<;>(try split at h)<;>first|(rw[if_neg (by omega),if_pos (by omega)])|omega
 ·intro h h0;split at h0<;>(try split at h0)<;>split at h<;>(try split at h)<;>(try split at h)<;>first|(rw[if_neg (by omega),if_neg (by omega)])|omega
theorem v81 {a b:Dy} (ha:VD a) (hb:VD b):Fn 101 [] [.agg (dyC a),.agg (dyC b)] (.int .i64 (qe a b)) []:=by
 have h80a:=v80 ha;have h80b:=v80 hb;have h124a:=zzw ha;have h124b:=zzw hb;obtain⟨s1,s2,s3⟩:=zpw (a:=a) (b:=b);have s4:=zmb (a:=a) (b:=b);have h125:wk a=wk b->wk a≠0->Fn 180 [] [.agg (dyC a),.agg (dyC b)] (.int .i64 (cmA a b)) []:=fun h h0=>by
  refine v125 ha hb (fun c=>?_) (fun c=>?_)
  ·unfold wk at h0;rw[if_pos c]at h0;exact h0 rfl
  ·rw[h]at h0;unfold wk at h0;rw[if_pos c]at h0;exact h0 rfl
 have hb1: -1<=wk a/\wk a<=1:=by unfold wk;split;omega;split<;>omega
 have hb2: -1<=cmA a b/\cmA a b<=1:=by unfold cmA zae;split;omega;split<;>omega
 have hw:IntKind.i64.wrap (wk a*cmA a b)=wk a*cmA a b:=by
  have:wk a= -1\/wk a=0\/wk a=1:=by omega
  rcases this with h|h|h<;>rw[h]<;>exact wI (by omega)
 generalize cmA a b=C at*;generalize qe a b=R at*;generalize wk a=A at*;generalize wk b=B at*;clear ha hb;obtain⟨an,am,ax⟩:=a;obtain⟨bn,bm,bx⟩:=b;refine fnT hT6 hmx Tryz.func101 rfl rfl (ex:= []) ?_;conv=>whnf
 refine gZn h80a ?_;conv=>whnf
 refine gZn h80b ?_;conv=>whnf
 refine gZn h124a ?_;conv=>whnf
 refine gZn h124b ?_;conv=>whnf
 (refine⟨by kernel_rfl,by kernel_rfl,?_⟩;(conv=>whnf))
 refine brI (fun h1=>?_) (fun h1=>?_)
 ·rw[s1 (of_decide_eq_true h1)];conv=>whnf
  exact⟨lr rfl,lh0⟩
 have h1: ¬A<B:=of_decide_eq_false h1;conv=>whnf
 refine brI (fun h2=>?_) (fun h2=>?_)
 ·rw[s2 (of_decide_eq_true h2)];conv=>whnf
  exact⟨lr rfl,lh0⟩
 have h2: ¬B<A:=of_decide_eq_false h2;have he:A=B:=by omega
 conv=>whnf
 refine brI (fun h3=>?_) (fun h3=>?_)
 ·have h3:A=0:=by simpa using h3
  rw[s3 he h3];conv=>whnf
  exact⟨lr rfl,lh0⟩
 have h3:A≠0:=by simpa using h3
 conv=>whnf
 refine gZn (h125 he h3) ?_;conv=>whnf
 exact⟨ai0 (by rw[hw,s4 he h3]),lh0⟩
def vj (d:Dy) (k:Int):Dy×Int:=if exB k=false then(d0,1)else ckN d.neg (nm d) (d.e+k)
theorem v230 {d:Dy} (hd:VD d) (k:Int):Fn 207 G0 [.agg (dyC d),.int .i64 k] (dyV (vj d k)) G0:=by
 have h80:=v80 hd;have h268:=y268 k;have a1:=hd.bits;have a2:=hd.exp;have hlen:=hd.len;have hlb:=hd.lb;by_cases hk:exB k=false
 ·have hR:vj d k=(d0,1):=by unfold vj;rw[if_pos hk]
  rw[hR];rw[hk]at h268;obtain⟨an,am,ax⟩:=d;have h80:Fn 100 [] [.agg [.bool an,.sl .u32 am,.int .i64 ax]] (.bool true) []:=h80;show Fn 207 G0 [.agg [.bool an,.sl .u32 am,.int .i64 ax],.int .i64 k] _ G0;refine fnT hT6 hmx Tryz.func207 rfl rfl (ex:= []) ?_;conv=>whnf
  refine gZn h80 ?_;conv=>whnf
  refine gZn h268 ?_;conv=>whnf
  exact⟨zvd,leG⟩
 ·have hR:vj d k=ckN d.neg (nm d) (d.e+k):=by unfold vj;rw[if_neg hk]
  rw[hR];have hk:exB k=true:=by simpa using hk
  rw[hk]at h268;unfold exB at hk;simp only[q7,decide_eq_true_eq]at hk;have h122:=v122 d.neg d.m (d.e+k) hlb (by omega) (show bl (nm d)<=8192 by omega) (by omega);have h122:Fn 159 G0 [.bool d.neg,.sl .u32 d.m,.int .i64 (d.e+k)] (.agg (dyC (cnN d.neg (nm d) (d.e+k)))) G0:=h122;have hc:=y269 (cnN d.neg (nm d) (d.e+k)) (by unfold cnN;split;exact qc.lb;exact zz _) (by
   unfold cnN;split
   ·simp[d0]
   ·have:=uo (qA (nm d) (2^tz (nm d)));have:=(qs (nm d/2^tz (nm d)) 1000000).2 (by omega);exact this)
  rw[zuk]at hc;have hw:IntKind.i64.wrap (d.e+k)=d.e+k:=wI (by omega);generalize ckN d.neg (nm d) (d.e+k)=R at*;generalize cnN d.neg (nm d) (d.e+k)=C at*;clear hR hd;obtain⟨an,am,ax⟩:=d;obtain⟨⟨r1,r2,r3⟩,r4⟩:=R;obtain⟨c1,c2,c3⟩:=C;simp only at h122 hw;have h80:Fn 100 [] [.agg [.bool an,.sl .u32 am,.int .i64 ax]] (.bool true) []:=h80;have hc:Fn 297 [] [.agg [.bool c1,.sl .u32 c2,.int .i64 c3]] (dyV (⟨r1,r2,r3⟩,r4)) []:=hc;show Fn 207 G0 [.agg [.bool an,.sl .u32 am,.int .i64 ax],.int .i64 k] _ G0;refine fnT hT6 hmx Tryz.func207 rfl rfl (ex:= []) ?_;conv=>whnf
  refine gZn h80 ?_;conv=>whnf
  refine gZn h268 ?_;conv=>whnf
  rw[hw];refine gZc h122 ?_;conv=>whnf
  refine gZn hc ?_;conv=>whnf
  exact⟨lr rfl,leG⟩
def za4 (n:Int):Dy:=cnN (decide (n<0)) n.natAbs 0
theorem v77 (n:Int) (h: -4611686018427387904<=n/\n<=4611686018427387904):Fn 83 G0 [.int .i64 n] (.agg (dyC (za4 n))) G0:=by
 have key: ∀X:Int,X=n.natAbs->Fn 159 G0 [.bool (decide (n<0)),.sl .u32 [IntKind.u32.wrap X,IntKind.u32.wrap (X.fdiv 4294967296)],.int .i64 0] (.agg (dyC (za4 n))) G0:=by
  intro X hX;have e1:IntKind.u32.wrap X=X % 4294967296:=by simp[IntKind.wrap,IntKind.signed,IntKind.bits]
  have e2:IntKind.u32.wrap (X.fdiv 4294967296)=X/4294967296:=by
   rw[Int.fdiv_eq_ediv_of_nonneg _ (by decide),zq8 (by omega)]
  rw[e1,e2];have hv:val [X % 4294967296,X/4294967296]=n.natAbs:=by
   rw[qq,qq];show(X % 4294967296).toNat +4294967296*((X/4294967296).toNat +4294967296*0)=n.natAbs;omega
  have h1:=v122 (decide (n<0)) [X % 4294967296,X/4294967296] 0 (fun z hz=>by
   simp only[List.mem_cons,List.not_mem_nil,or_false]at hz;rcases hz with rfl|rfl<;>omega) (by simp) (by rw[hv];exact Nat.le_trans (yg.2 (show n.natAbs<2^64 by omega)) (by decide)) (by decide)
  rw[hv]at h1;exact h1
 generalize za4 n=R at*;refine fnT hT6 hmx Tryz.func83 rfl rfl (ex:= []) ?_;conv=>whnf
 refine brI (fun h1=>?_) (fun h1=>?_)
 ·have h1':n<0:=of_decide_eq_true h1;have e:IntKind.u64.wrap (0-IntKind.u64.wrap n)=n.natAbs:=by
   simp[IntKind.wrap,IntKind.signed,IntKind.bits];omega
  conv=>whnf
  refine⟨by decide,?_⟩;conv=>whnf
  refine gZc (key _ e) ?_;conv=>whnf
  exact⟨lr rfl,leG⟩
 ·have h1': ¬n<0:=of_decide_eq_false h1;have e:IntKind.u64.wrap n=n.natAbs:=by
   simp[IntKind.wrap,IntKind.signed,IntKind.bits];omega
  conv=>whnf
  refine⟨by decide,?_⟩;conv=>whnf
  refine gZc (key _ e) ?_;conv=>whnf
  exact⟨lr rfl,leG⟩
structure RI (x:Iv):Prop where
 lo:LB x.lo.m
 hi:LB x.hi.m
 l1:x.lo.m.length<9223372036854775808
 l2:x.hi.m.length<9223372036854775808
def zrB (d:Dy):Bool:= !d.neg&&decide (d.m.length=0)&&decide (d.e=0)
def viB (x:Iv):Bool:=if x.all=true then zrB x.lo&&zrB x.hi else vB x.lo&&vB x.hi&&decide (qe x.lo x.hi<=0)
def kB (x:Iv):Bool:= !x.all&&viB x
structure KI (x:Iv):Prop where
 all:x.all=false
 lo:VD x.lo
 hi:VD x.hi
 le:qe x.lo x.hi<=0
def wI0:Iv:=⟨d0,d0,true⟩
def VI (x:Iv):Prop:=KI x\/x=wI0
theorem zzq {d:Dy}:zrB d=true<->d=d0:=by
 obtain⟨a,b,c⟩:=d;unfold zrB d0;simp only[q7,qB,decide_eq_true_eq,List.length_eq_zero_iff,Dy.mk.injEq];constructor
 ·rintro⟨⟨h1,h2⟩,h3⟩;exact⟨h1,h2,h3⟩
 ·rintro⟨h1,h2,h3⟩;exact⟨⟨h1,h2⟩,h3⟩
theorem zy {x:Iv} (h:RI x):kB x=true<->KI x:=by
 unfold kB viB;constructor
 ·intro e;simp only[q7,qB]at e;obtain⟨e1,e2⟩:=e;rw[if_neg (by rw[e1];simp)]at e2;simp only[q7,decide_eq_true_eq]at e2;exact⟨e1,(xj h.lo).1 e2.1.1,(xj h.hi).1 e2.1.2,e2.2⟩
 ·intro k;rw[k.all,if_neg (by simp),(xj h.lo).2 k.lo,(xj h.hi).2 k.hi,decide_eq_true k.le];rfl
theorem je {x:Iv} (h:RI x):viB x=true<->VI x:=by
 by_cases ha:x.all=true
 ·unfold viB VI;rw[if_pos ha];simp only[q7,zzq];constructor
  ·rintro⟨h1,h2⟩;obtain⟨lo,hi,al⟩:=x;simp only at h1 h2 ha;subst h1 h2 ha;exact .inr rfl
  ·rintro(k|rfl)
   ·rw[k.all]at ha;cases ha
   ·exact⟨rfl,rfl⟩
 ·have e:viB x=kB x:=by unfold kB;rw[show x.all=false by simpa using ha];rfl
  rw[e,zy h];unfold VI;constructor
  ·exact .inl
  ·rintro(k|rfl)
   ·exact k
   ·exact absurd rfl ha
theorem KI.ri {x:Iv} (k:KI x):RI x:=⟨k.lo.lb,k.hi.lb,by have:=k.lo.len;omega,by have:=k.hi.len;omega⟩
theorem zxy:RI wI0:=⟨qc.lb,qc.lb,by decide,by decide⟩
theorem VI.ri {x:Iv} (k:VI x):RI x:=by
 rcases k with k|rfl
 ·exact k.ri
 ·exact zxy
theorem i79 (d:Dy):Fn 99 [] [.agg (dyC d)] (.bool (zrB d)) []:=by
 obtain⟨R,hR⟩: ∃R,zrB d=R:=⟨_,rfl⟩;rw[hR];unfold zrB at hR;obtain⟨d1,d2,d3⟩:=d;simp only at hR;show Fn 99 [] [.agg [.bool d1,.sl .u32 d2,.int .i64 d3]] _ [];refine fnT hT6 hmx Tryz.func99 rfl rfl (ex:= []) ?_;conv=>whnf
 cases d1 with
 |true=>
  conv=>whnf
  exact⟨ab0 hR,lh0⟩
 |false=>
  conv=>whnf
  refine brI (fun h1=>?_) (fun h1=>?_)
  ·have h2:d2.length=0:=by have h1:((d2.length:Int)==0)=true:=h1;rw[beq_iff_eq]at h1;omega
   rw[decide_eq_true h2]at hR;conv=>whnf
   exact⟨ab0 (by rw[←hR];simp;rw[qC];simp),lh0⟩
  ·have h2: ¬d2.length=0:=by have h1:((d2.length:Int)==0)=false:=h1;rw[beq_eq_false_iff_ne]at h1;omega
   rw[decide_eq_false h2]at hR;conv=>whnf
   exact⟨ab0 (by rw[←hR];simp),lh0⟩
theorem i51 (x:Iv) (h:RI x):Fn 35 [] [.agg (ivC x)] (.bool (viB x)) []:=by
 have hlo:=y80 x.lo h.lo h.l1;have hhi:=y80 x.hi h.hi h.l2;have zlo:=i79 x.lo;have zhi:=i79 x.hi;have hc:vB x.lo=true->vB x.hi=true->Fn 101 [] [.agg (dyC x.lo),.agg (dyC x.hi)] (.int .i64 (qe x.lo x.hi)) []:=fun h1 h2=>v81 ((xj h.lo).1 h1) ((xj h.hi).1 h2)
 obtain⟨R,hR⟩: ∃R,viB x=R:=⟨_,rfl⟩;rw[hR];unfold viB at hR;generalize vB x.lo=a at*;generalize vB x.hi=b at*;generalize zrB x.lo=c at*;generalize zrB x.hi=d at*;generalize qe x.lo x.hi=C at*;clear h;obtain⟨⟨x1,x2,x3⟩,⟨x4,x5,x6⟩,x7⟩:=x;simp only at hR;have hlo:Fn 100 [] [.agg [.bool x1,.sl .u32 x2,.int .i64 x3]] (.bool a) []:=hlo;have hhi:Fn 100 [] [.agg [.bool x4,.sl .u32 x5,.int .i64 x6]] (.bool b) []:=hhi;have zlo:Fn 99 [] [.agg [.bool x1,.sl .u32 x2,.int .i64 x3]] (.bool c) []:=zlo;have zhi:Fn 99 [] [.agg [.bool x4,.sl .u32 x5,.int .i64 x6]] (.bool d) []:=zhi;have hc:a=true->b=true->Fn 101 [] [.agg [.bool x1,.sl .u32 x2,.int .i64 x3],.agg [.bool x4,.sl .u32 x5,.int .i64 x6]] (.int .i64 C) []:=hc;show Fn 35 [] [.agg [.bool x1,.sl .u32 x2,.int .i64 x3,.bool x4,.sl .u32 x5,.int .i64 x6,.bool x7]] _ [];refine fnT hT6 hmx Tryz.func35 rfl rfl (ex:= []) ?_;conv=>whnf
 cases x7 with
 |true=>
  rw[if_pos rfl]at hR
  cases c with
  |false=>
   conv=>whnf
   refine gZn zlo ?_;conv=>whnf
   exact⟨ab0 hR,lh0⟩
  |true=>
   conv=>whnf
   refine gZn zlo ?_;conv=>whnf
   refine gZn zhi ?_;conv=>whnf
   exact⟨ab0 (by rw[←hR,Bool.true_and]),lh0⟩
 |false=>
  rw[if_neg (by simp)]at hR
  cases a with
  |false=>
   conv=>whnf
   refine gZn hlo ?_;conv=>whnf
   exact⟨ab0 (by rw[←hR];rfl),lh0⟩
  |true=>
   cases b with
   |false=>
    conv=>whnf
    refine gZn hlo ?_;conv=>whnf
    refine gZn hhi ?_;conv=>whnf
    exact⟨ab0 (by rw[←hR];rfl),lh0⟩
   |true=>
    conv=>whnf
    refine gZn hlo ?_;conv=>whnf
    refine gZn hhi ?_;conv=>whnf
    refine gZn (hc rfl rfl) ?_;conv=>whnf
    exact⟨ab0 (by rw[←hR];rfl),lh0⟩
theorem ztn (l:List Iv) (hl:l.length<=1000000) (h: ∀x∈l,RI x):Fn 69 [] [.sl .iv l] (.bool (l.all kB)) []:=by
 obtain⟨A,hA⟩: ∃A,l.all kB=A:=⟨_,rfl⟩;rw[hA];refine fnT hT6 hmx Tryz.func69 rfl rfl (ex:= []) ?_;conv=>whnf
 refine⟨Nat,fun i=>i<=l.length/\(l.drop i).all kB=A,fun i=> [(7,.int .i64 i)],fun _=> [],fun i=>l.length-i,0,⟨by simp,by simpa using hA⟩,?_,fun i hi=>?_⟩
 ·((conv=>whnf);refine q9 ?_ ?_;repeat' first|refine lc ?_ ?_|exact la0|exact lr rfl|exact ln0|refine lh1 ?_ ?_|exact lh0|exact bf0|exact bd0|refine bc0 ?_|exact bm0 rfl|exact bb0 rfl|exact bg0 rfl|exact li0 rfl|refine lg0 ?_|refine lt0 ?_|fail)
 (refine⟨by kernel_rfl,?_⟩;(conv=>whnf))
 obtain⟨hi1,hi2⟩:=hi;refine brI (fun h1=>?_) (fun h1=>?_)
 ·conv=>whnf
  have hi:i<l.length:=by simp only[decide_eq_true_eq]at h1;omega
  refine⟨⟨by omega,by omega⟩,fun(x:Iv) hx=>?_⟩;have hx:l[i]? =some x:=by simpa using hx
  have hr:=h x (List.mem_of_getElem? hx);have h51:=i51 x hr;rw[zp hx,List.all_cons]at hi2;have hk:kB x=(!x.all&&viB x):=rfl;generalize kB x=K at*;generalize viB x=V at*;clear hr;obtain⟨⟨x1,x2,x3⟩,⟨x4,x5,x6⟩,x7⟩:=x;have h51:Fn 35 [] [.agg [.bool x1,.sl .u32 x2,.int .i64 x3,.bool x4,.sl .u32 x5,.int .i64 x6,.bool x7]] (.bool V) []:=h51;simp only at hk;conv=>whnf
  cases x7 with
  |true=>
   rw[hk]at hi2;subst hi2;conv=>whnf
   exact⟨lr rfl,lh0⟩
  |false=>
   cases V with
   |false=>
    rw[hk]at hi2;subst hi2;conv=>whnf
    refine gZn h51 ?_;conv=>whnf
    exact⟨lr rfl,lh0⟩
   |true=>
    rw[hk]at hi2;conv=>whnf
    refine gZn h51 ?_;conv=>whnf
    refine⟨i+1,⟨by omega,by simpa using hi2⟩,by show l.length-(i+1)<l.length-i;omega,?_⟩
    ((conv=>whnf);refine q9 ?_ ?_;repeat' first|refine lc ?_ ?_|exact la0|exact lr rfl|exact ln0|refine lh1 ?_ ?_|exact lh0|exact bf0|exact bd0|refine bc0 ?_|exact bm0 rfl|exact bb0 rfl|exact bg0 rfl|exact li0 rfl|refine lg0 ?_|refine lt0 ?_|fail)
    exact ai0 (by rw[wI (by omega)];omega)
 ·have hi: ¬i<l.length:=by simp only[decide_eq_false_iff_not]at h1;omega
  rw[List.drop_of_length_le (by omega)]at hi2;conv=>whnf
  exact⟨ab0 hi2,lh0⟩
theorem qfp (p:Int):Fn 70 [] [.int .i64 p] (.bool (pcB p)) []:=by
 refine fnT hT6 hmx Tryz.func70 rfl rfl (ex:= []) ?_;conv=>whnf
 refine brI (fun h1=>?_) (fun h1=>?_)
 ·have h1:8<=p:=by simpa using h1
  conv=>whnf
  exact⟨ab0 (by simp[pcB,h1]),lh0⟩
 ·have h1: ¬8<=p:=by simpa using h1
  conv=>whnf
  exact⟨ab0 (by simp[pcB,h1]),lh0⟩
theorem leW {h h':Hp}:leA h h' (.agg [.bool false,.nilsl,.int .i64 0,.bool false,.nilsl,.int .i64 0,.bool true]) (.agg (ivC wI0)):=
 lg0 (lc (lr rfl) (lc (li0 rfl) (lc (lr rfl) (lc (lr rfl) (lc (li0 rfl) (lc (lr rfl) (lc (lr rfl) ln0)))))))
theorem i25:Fn 66 [] [] (.agg (ivC wI0)) []:=by
 refine fnT hT6 hmx Tryz.func66 rfl rfl (ex:= []) ?_;conv=>whnf
 exact⟨leW,lh0⟩
def jq (a b:Dy×Int):Iv:=if a.2≠0\/b.2≠0 then wI0 else⟨a.1,b.1,false⟩
theorem i130 (a b:Dy×Int):Fn 79 [] [.agg (dyC a.1),.int .i64 a.2,.agg (dyC b.1),.int .i64 b.2] (.agg (ivC (jq a b))) []:=by
 obtain⟨R,hR⟩: ∃R,jq a b=R:=⟨_,rfl⟩;rw[hR];unfold jq at hR;have h25:=i25;have e25:ivC wI0= [.bool false,.sl .u32 [],.int .i64 0,.bool false,.sl .u32 [],.int .i64 0,.bool true]:=rfl;rw[e25]at h25;obtain⟨⟨a1,a2,a3⟩,e⟩:=a;obtain⟨⟨b1,b2,b3⟩,f⟩:=b;simp only at hR;refine fnT hT6 hmx Tryz.func79 rfl rfl (ex:= []) ?_;conv=>whnf
 refine brI (fun h1=>?_) (fun h1=>?_)
 ·have h1:e≠0:=by simpa using h1
  rw[if_pos (.inl h1)]at hR;subst hR;conv=>whnf
  refine gZn h25 ?_;conv=>whnf
  exact⟨lr rfl,lh0⟩
 have h1:e=0:=by simpa using h1
 conv=>whnf
 refine brI (fun h2=>?_) (fun h2=>?_)
 ·have h2:f≠0:=by simpa using h2
  rw[if_pos (.inr h2)]at hR;subst hR;conv=>whnf
  refine gZn h25 ?_;conv=>whnf
  exact⟨lr rfl,lh0⟩
 have h2:f=0:=by simpa using h2
 rw[if_neg (by simp[h1,h2])]at hR;subst hR;conv=>whnf
 exact⟨lr rfl,lh0⟩
theorem zd4 {d:Dy} (h:VD d):VD (uy d):=by
 unfold uy;split
 ·exact qc
 ·rename_i h0;refine⟨h.eq,.inr ?_⟩;rcases h.ok with ⟨h1,_⟩|h1
  ·exact absurd h1 h0
  ·exact h1
theorem zd5 {d:Dy} (h:VD d):VD (zbd d):=by
 refine⟨h.eq,?_⟩;rcases h.ok with ⟨h1,h2,h3⟩|h1
 ·exact .inl ⟨h1,rfl,h3⟩
 ·exact .inr h1
theorem zp1 (neg:Bool) (m:Nat) (e:Int) (more up:Bool) (p:Nat) (hp:8<=p/\p<=512):VD (zbe neg m e more p up).1:=by
 have h:=zuf m e more (up != neg) p hp;unfold zbe;split
 ·exact zd4 h
 ·exact h
theorem xr (d:Dy) (up:Bool) (p:Nat) (hp:8<=p/\p<=512):VD (wo d p up).1:=zp1 _ _ _ _ _ _ hp
theorem za7 (a b:Dy) (up:Bool) (p:Nat) (hp:8<=p/\p<=512):VD (ue a b p up).1:=zp1 _ _ _ _ _ _ hp
theorem zcm (a b:Dy) (up:Bool) (p:Nat) (hp:8<=p/\p<=512):VD (um a b p up).1:=by
 unfold um;split
 ·exact qc
 ·exact zp1 _ _ _ _ _ _ hp
theorem ze5 (a b:Dy) (up:Bool) (p:Nat) (hp:8<=p/\p<=512):VD (zan a b p up).1:=by
 unfold zan;split
 ·exact xr _ _ _ hp
 ·split
  ·exact xr _ _ _ hp
  ·unfold qcq;split
   ·exact qc
   ·exact zp1 _ _ _ _ _ _ hp
theorem VD_ck (neg:Bool) (n:Nat) (e:Int):VD (ckN neg n e).1:=by
 unfold ckN;split
 ·rename_i h;exact zmg h
 ·exact qc
theorem zp0 (d:Dy) (k:Int):VD (vj d k).1:=by
 unfold vj;split
 ·exact qc
 ·exact VD_ck _ _ _
theorem jz {p:Int}:pcB p=true<-> ∃q:Nat,p=q/\8<=q/\q<=512:=by
 unfold pcB;simp only[q7,decide_eq_true_eq];constructor
 ·intro h;exact⟨p.toNat,by omega,by omega,by omega⟩
 ·rintro⟨q,rfl,h⟩;omega
theorem e25:ivC wI0= [.bool false,.sl .u32 [],.int .i64 0,.bool false,.sl .u32 [],.int .i64 0,.bool true]:=rfl
theorem k1 (x:Iv): [x].all kB=kB x:=by simp
theorem k2 (x y:Iv): [x,y].all kB=(kB x&&kB y):=by simp
def zd9 (x:Iv):Iv:=if kB x=true then⟨uy x.hi,uy x.lo,false⟩else wI0
theorem i86 (x:Iv) (h:RI x):Fn 26 [] [.agg (ivC x)] (.agg (ivC (zd9 x))) []:=by
 have h126:=ztn [x] (by simp) (by simpa using h);rw[k1]at h126;have h25:=i25;rw[e25]at h25;by_cases hk:kB x=true
 ·have k:=(zy h).1 hk;have hR:zd9 x=⟨uy x.hi,uy x.lo,false⟩:=by unfold zd9;rw[if_pos hk]
  rw[hR];rw[hk]at h126;have n1:Fn 85 [] [.agg (dyC x.lo)] (.agg (dyC (uy x.lo))) []:=v135 k.lo;have n2:Fn 85 [] [.agg (dyC x.hi)] (.agg (dyC (uy x.hi))) []:=v135 k.hi;generalize uy x.lo=a at*;generalize uy x.hi=b at*;clear hR k hk h;refine fnT hT6 hmx Tryz.func26 rfl rfl (ex:= []) ?_;conv=>whnf
  refine gZn h126 ?_;conv=>whnf
  refine gZn n2 ?_;conv=>whnf
  refine gZn n1 ?_;conv=>whnf
  (refine⟨by kernel_rfl,by kernel_rfl,?_⟩;(conv=>whnf))
  exact⟨lr rfl,lh0⟩
 ·have hR:zd9 x=wI0:=by unfold zd9;rw[if_neg hk]
  rw[hR];rw[show kB x=false by simpa using hk]at h126;clear hR hk h;refine fnT hT6 hmx Tryz.func26 rfl rfl (ex:= []) ?_;conv=>whnf
  refine gZn h126 ?_;conv=>whnf
  refine gZn h25 ?_;conv=>whnf
  exact⟨lr rfl,lh0⟩
def zmy (x:Iv):Int:=if kB x=true then(if 0<wk x.lo then 1 else if wk x.hi<0 then-1 else 0)else 0
theorem i134 (x:Iv) (h:RI x):Fn 298 [] [.agg (ivC x)] (.int .i64 (zmy x)) []:=by
 have h126:=ztn [x] (by simp) (by simpa using h);rw[k1]at h126;by_cases hk:kB x=true
 ·have k:=(zy h).1 hk;have hR:zmy x=(if 0<wk x.lo then 1 else if wk x.hi<0 then-1 else 0):=by unfold zmy;rw[if_pos hk]
  rw[hk]at h126;have n1:=zzw k.lo;have n2:=zzw k.hi;generalize zmy x=R at*;generalize wk x.lo=a at*;generalize wk x.hi=b at*;clear k hk h;refine fnT hT6 hmx Tryz.func298 rfl rfl (ex:= []) ?_;conv=>whnf
  refine gZn h126 ?_;conv=>whnf
  refine gZn n1 ?_;conv=>whnf
  refine brI (fun h1=>?_) (fun h1=>?_)
  ·have h1:0<a:=of_decide_eq_true h1;rw[if_pos h1]at hR;subst hR;conv=>whnf
   exact⟨lr rfl,lh0⟩
  have h1: ¬0<a:=of_decide_eq_false h1;rw[if_neg h1]at hR;conv=>whnf
  refine gZn n2 ?_;conv=>whnf
  refine brI (fun h2=>?_) (fun h2=>?_)
  ·have h2:b<0:=of_decide_eq_true h2;rw[if_pos h2]at hR;subst hR;conv=>whnf
   exact⟨lr rfl,lh0⟩
  ·have h2: ¬b<0:=of_decide_eq_false h2;rw[if_neg h2]at hR;subst hR;conv=>whnf
   exact⟨lr rfl,lh0⟩
 ·have hR:zmy x=0:=by unfold zmy;rw[if_neg hk]
  rw[hR];rw[show kB x=false by simpa using hk]at h126;clear hR hk h;refine fnT hT6 hmx Tryz.func298 rfl rfl (ex:= []) ?_;conv=>whnf
  refine gZn h126 ?_;conv=>whnf
  exact⟨lr rfl,lh0⟩
def zj (d:Dy):Iv:=⟨d,d,false⟩
theorem qfo {d:Dy} (h:VD d):Fn 82 [] [.agg (dyC d)] (.agg (ivC (zj d))) []:=by
 have h80:=v80 h;clear h;refine fnT hT6 hmx Tryz.func82 rfl rfl (ex:= []) ?_;conv=>whnf
 refine gZn h80 ?_;conv=>whnf
 exact⟨lr rfl,lh0⟩
def yo (x y:Iv) (p:Int):Iv:=if(kB x&&kB y)=true/\pcB p=true then jq (zan x.lo y.lo p.toNat false) (zan x.hi y.hi p.toNat true)else wI0
theorem i82 (x y:Iv) (hx:RI x) (hy:RI y) (p:Int):Fn 23 G0 [.agg (ivC x),.agg (ivC y),.int .i64 p] (.agg (ivC (yo x y p))) G0:=by
 have h126:=ztn [x,y] (by simp) (by simpa using⟨hx,hy⟩);rw[k2]at h126;have h127:=qfp p;have h25:=i25;rw[e25]at h25;by_cases hk:(kB x&&kB y)=true
 ·rw[hk]at h126;by_cases hp:pcB p=true
  ·rw[hp]at h127;have hR:yo x y p=jq (zan x.lo y.lo p.toNat false) (zan x.hi y.hi p.toNat true):=by unfold yo;rw[if_pos ⟨hk,hp⟩]
   rw[hR];rw[q7]at hk;have kx:=(zy hx).1 hk.1;have ky:=(zy hy).1 hk.2;obtain⟨q,rfl,hq⟩:=jz.1 hp;rw[Int.toNat_natCast];have n1:=v128 kx.lo ky.lo q hq;have n2:=v129 kx.hi ky.hi q hq;have h130:=i130 (zan x.lo y.lo q false) (zan x.hi y.hi q true);generalize jq (zan x.lo y.lo q false) (zan x.hi y.hi q true)=M at*;generalize zan x.lo y.lo q false=A at*;generalize zan x.hi y.hi q true=B at*;clear hR hk kx ky hx hy;obtain⟨⟨a1,a2,a3⟩,e⟩:=A;obtain⟨⟨b1,b2,b3⟩,f⟩:=B;refine fnT hT6 hmx Tryz.func23 rfl rfl (ex:= []) ?_;conv=>whnf
   refine gZn h126 ?_;conv=>whnf
   refine gZn h127 ?_;conv=>whnf
   refine gZc n1 ?_;conv=>whnf
   refine gZc n2 ?_;conv=>whnf
   refine gZn h130 ?_;conv=>whnf
   exact⟨lr rfl,leG⟩
  ·have hR:yo x y p=wI0:=by unfold yo;rw[if_neg fun c=>hp c.2]
   rw[hR];rw[show pcB p=false by simpa using hp]at h127;clear hR hk hx hy;refine fnT hT6 hmx Tryz.func23 rfl rfl (ex:= []) ?_;conv=>whnf
   refine gZn h126 ?_;conv=>whnf
   refine gZn h127 ?_;conv=>whnf
   refine gZn h25 ?_;conv=>whnf
   exact⟨lr rfl,leG⟩
 ·have hR:yo x y p=wI0:=by unfold yo;rw[if_neg fun c=>hk c.1]
  rw[hR];rw[show(kB x&&kB y)=false by simpa using hk]at h126;clear hR hk hx hy;refine fnT hT6 hmx Tryz.func23 rfl rfl (ex:= []) ?_;conv=>whnf
  refine gZn h126 ?_;conv=>whnf
  refine gZn h25 ?_;conv=>whnf
  exact⟨lr rfl,leG⟩
end Go.Proofs.YtbolipecnhlnnaaGreatDoor
