/-
  ratio.Compare: a ratio and a dyadic number.
-/
import Derived.Test.YtajnlbbgolmklaaGreatDoorQXa
import Derived.Test.YtajnlbbgolmklaaGreatDoorQWx
import Derived.Test.YtajnlbbgolmklaaGreatDoorQX2
set_option linter.unusedVariables false
set_option linter.unusedSimpArgs false
namespace Go.Proofs.YtajnlbbgolmklaaGreatDoor
open Go Go.Sx
set_option maxRecDepth 100000
set_option maxHeartbeats 8000000
theorem rneg_lt {a b:Rat}:a<b↔ -b< -a:=by constructor<;>intro h<;>grind
theorem rlt_asymm {a b:Rat} (h1:a<b) (h2:b<a):False:=by grind
theorem rdiv_lt {a b:Nat} (hb:0<b) {z:Rat}:(a:Rat)/(b:Rat)<z↔(a:Rat)<z*(b:Rat):=by
 have h:(0:Rat)<(b:Rat):=by have:=natR_lt.2 hb;simpa using this
 constructor
 ·intro c
  have:=Rat.mul_lt_mul_of_pos_right c h
  rwa [Rat.div_mul_cancel (by grind)]at this
 ·intro c
  have hi:(0:Rat)<(b:Rat)⁻¹ :=Rat.inv_pos.2 h
  have:=Rat.mul_lt_mul_of_pos_right c hi
  rw[Rat.mul_assoc,Rat.mul_inv_cancel _ (by grind),Rat.mul_one]at this
  rwa [Rat.div_def]
theorem lt_rdiv {a b:Nat} (hb:0<b) {z:Rat}:z<(a:Rat)/(b:Rat)↔z*(b:Rat)<(a:Rat):=by
 have h:(0:Rat)<(b:Rat):=by have:=natR_lt.2 hb;simpa using this
 constructor
 ·intro c
  have:=Rat.mul_lt_mul_of_pos_right c h
  rwa [Rat.div_mul_cancel (by grind)]at this
 ·intro c
  have hi:(0:Rat)<(b:Rat)⁻¹ :=Rat.inv_pos.2 h
  have:=Rat.mul_lt_mul_of_pos_right c hi
  rw[Rat.mul_assoc,Rat.mul_inv_cancel _ (by grind),Rat.mul_one]at this
  rwa [Rat.div_def]
def mgN (a b m:Nat) (e:Int):Int:=
 if 32<(bl m:Int)+e then-1 else if(bl m:Int)+e< -32 then 1 else if 0≤e then ordN a (m*b*2^e.toNat)else ordN (a*2^(-e).toNat) (m*b)
theorem ordN_spec (x y:Nat):(ordN x y<0↔x<y)∧(0<ordN x y↔y<x):=by
 unfold ordN
 split
 ·constructor<;>constructor<;>intro<;>omega
 ·split<;>constructor<;>constructor<;>intro<;>omega
theorem mgN_spec {a b m:Nat} {e:Int} (ha:0<a) (ha':a<2^32) (hb:0<b) (hb':b<2^32) (hm:m≠0):
 (mgN a b m e<0↔(a:Rat)/(b:Rat)<vN m e)∧(0<mgN a b m e↔vN m e<(a:Rat)/(b:Rat)):=by
 have bp:(0:Rat)<(b:Rat):=by have:=natR_lt.2 hb;simpa using this
 rw[rdiv_lt hb,lt_rdiv hb]
 unfold mgN
 by_cases h1:32<(bl m:Int)+e
 ·rw[if_pos h1]
  have h:=top_le_vN h1 hm
  have p32:pw 32=((2^32:Nat):Rat):=pw_nat 32
  rw[p32]at h
  have hx:(a:Rat)<((2^32:Nat):Rat):=natR_lt.2 ha'
  have h1b:((1:Nat):Rat)≤(b:Rat):=natR_le.2 hb
  have hv:vN m e≤vN m e*(b:Rat):=by
   have:=Rat.mul_le_mul_of_nonneg_left h1b (vN_nn m e)
   rwa [show((1:Nat):Rat)=1 from rfl,Rat.mul_one]at this
  have:(a:Rat)<vN m e*(b:Rat):=rlt_le hx (Rat.le_trans h hv)
  exact⟨⟨fun _=>this,fun _=>by decide⟩,⟨fun c=>absurd c (by decide),fun c=>(rlt_asymm c this).elim⟩⟩
 rw[if_neg h1]
 by_cases h2:(bl m:Int)+e< -32
 ·rw[if_pos h2]
  have h:=vN_lt_top (n:=m) (e:=e) (t:= -32) (by omega)
  have hx:vN m e*(b:Rat)<(a:Rat):=by
   have l1:vN m e*(b:Rat)<pw (-32)*(b:Rat):=Rat.mul_lt_mul_of_pos_right h bp
   have l2:pw (-32)*(b:Rat)≤pw (-32)*pw 32:=Rat.mul_le_mul_of_nonneg_left (by rw[show pw 32=((2^32:Nat):Rat)from pw_nat 32];exact natR_le.2 (by omega)) (Rat.le_of_lt (pw_pos _))
   rw[←pwA]at l2
   have l3:pw (-32+32)=((1:Nat):Rat):=by show pw 0=_;rfl
   rw[l3]at l2
   exact rlt_le l1 (Rat.le_trans l2 (natR_le.2 ha))
  exact⟨⟨fun c=>absurd c (by decide),fun c=>(rlt_asymm c hx).elim⟩,⟨fun _=>hx,fun _=>by decide⟩⟩
 rw[if_neg h2]
 by_cases h3:0≤e
 ·rw[if_pos h3]
  have hv:vN m e*(b:Rat)=((m*b*2^e.toNat:Nat):Rat):=by
   unfold vN
   rw[show e=((e.toNat:Nat):Int) by omega,pw_nat,Int.toNat_natCast,natR_mul,natR_mul]
   grind
  rw[hv,natR_lt,natR_lt]
  exact ordN_spec _ _
 ·rw[if_neg h3]
  have hs:=ordN_spec (a*2^(-e).toNat) (m*b)
  rw[hs.1,hs.2,←natR_lt,←natR_lt]
  have hk:(0:Rat)<pw e:=pw_pos e
  have he:pw e*((2^(-e).toNat :Nat):Rat)=1:=by
   rw[←pw_nat,←pwA,show e+((-e).toNat :Int)=0 by omega];rfl
  have e1:(a:Rat)=((a*2^(-e).toNat :Nat):Rat)*pw e:=by
   rw[natR_mul,Rat.mul_assoc,Rat.mul_comm _ (pw e),he,Rat.mul_one]
  have e2:vN m e*(b:Rat)=((m*b:Nat):Rat)*pw e:=by
   unfold vN;rw[natR_mul];grind
  rw[e2]
  constructor
  ·constructor
   ·intro c;rw[e1];exact Rat.mul_lt_mul_of_pos_right c hk
   ·intro c;rw[e1]at c;exact(pw_lt_iff hk).1 c
  ·constructor
   ·intro c;rw[e1];exact Rat.mul_lt_mul_of_pos_right c hk
   ·intro c;rw[e1]at c;exact(pw_lt_iff hk).1 c
theorem shlL_val {l:List Int} (h:LB l) (n:Nat):shlL l n=shlL (toL (val l)) n:=by
 unfold shlL;rw[trL_toL h,trL_of_toL]
theorem cmpL_val {l m:List Int} (h:LB l) (g:LB m):cmpL l m=ordN (val l) (val m):=by
 rw[←cmpL_toL]
 unfold cmpL;rw[trL_toL h,trL_toL g,trL_of_toL,trL_of_toL]
theorem val_two (a:Nat):val [(a:Int),0]=a:=by
 rw[val_cons,val_cons]
 show(a:Int).toNat +4294967296*((0:Int).toNat +4294967296*0)=a
 simp
theorem LB_two {a:Nat} (h:a<2^32):LB [(a:Int),0]:=fun z hz=>by
 simp only[List.mem_cons,List.not_mem_nil,or_false]at hz
 rcases hz with rfl|rfl<;>omega
theorem bl_mulk (x y:Nat) {k:Nat} (h:y<2^k):bl (x*y)≤bl x+k:=by
 rw[bl_le,Nat.pow_add]
 exact Nat.mul_lt_mul'' (lt_bl x) h
theorem mulR_two {m b:Nat} (hm:bl m≤4096) (hb:b<2^32):mulR (toL m) [(b:Int),0]=(toL (m*b),0):=by
 unfold mulR
 have h1:=len256 m
 rw[if_neg (by simp;omega),trL_of_toL,trL_toL (LB_two hb),val_two]
 have h2:=mulL_spec m b
 rw[dnL_toL h2.2,h2.1,if_neg (by have:=bl_mulk m b hb;omega)]
theorem shlR_big {x:Nat} {n:Int} (h0:0≤n) (h1:n≤65536) (h2:bl x+n≤8192):shlR (toL x) n=(toL (x*2^n.toNat),0):=by
 rw[shlR_toL,if_neg (by omega),if_neg (by omega)]
 unfold dnN
 by_cases hx:x=0
 ·subst hx;simp[bl]
 ·rw[if_neg (by rw[bl_mul_pow x _ hx];omega)]
theorem shlR_two {a:Nat} {n:Int} (ha:a<2^32) (h0:0≤n) (h1:n≤8000):shlR [(a:Int),0] n=(toL (a*2^n.toNat),0):=by
 rw[←shlR_big (x:=a) h0 (by omega) (by have:=bl_le.2 ha;omega)]
 have hl: ¬256<(toL a).length :=by
  have:=(len256 a).1
  have:=bl_le.2 ha
  intro c;have:=(len256 a).1 c;omega
 unfold shlR
 rw[if_neg (by simp),if_neg hl,shlL_val (LB_two ha),val_two]
theorem x157 (n:Nat) (h:n<2^32):Fn 157 [] [.int .u64 (n:Int)] (.sl .u32 [(n:Int),0]) []:=by
 refine fnT hT8 hmx Tryz.func157 rfl rfl (ex:= []) ?_
 conv=>whnf
 refine⟨by decide,?_⟩
 conv=>whnf
 refine⟨leA_sl ?_,lh0⟩
 have e1:IntKind.u32.wrap (n:Int)=n:=wU32 (by omega)
 have e2:(n:Int).fdiv 4294967296=0:=by rw[Int.fdiv_eq_ediv_of_nonneg _ (by decide)];omega
 show [IntKind.u32.wrap (n:Int),IntKind.u32.wrap ((n:Int).fdiv 4294967296)]=_
 rw[e1,e2];rfl
theorem mgN_bd (a b m:Nat) (e:Int): -1≤mgN a b m e∧mgN a b m e≤1:=by
 unfold mgN ordN
 split
 ·decide
 split
 ·decide
 split<;>split<;>(try split)<;>decide
theorem x100 (r:Rt) (d:Dy) (hr:rOk r=true) (hd:VD d) (hm:nm d≠0):Fn 100 [] [.agg [.int .i64 r.n,.int .i64 r.d],.agg (dyC d)] (.int .i64 (mgN r.n.natAbs r.d.natAbs (nm d) d.e)) []:=by
 have h127:=v176 hd
 obtain⟨h1,h2,h3⟩:=hd.exp
 have hbits:=hd.bits
 have hb:=rOk_in hr
 unfold rIn at hb
 have heq:=hd.eq
 unfold topD at h127
 rw[if_neg hm]at h127
 clear hr hm hd
 obtain⟨n,q⟩:=r
 obtain⟨neg,mm,e⟩:=d
 generalize nm ⟨neg,mm,e⟩=m at*
 simp only at*
 subst heq
 obtain⟨a,ha⟩: ∃a,n.natAbs=a:=⟨_,rfl⟩
 obtain⟨b,hb'⟩: ∃b,q.natAbs=b:=⟨_,rfl⟩
 have c1:=f105 n (by omega)
 have c3:=f105 q (by omega)
 rw[ha]at c1⊢
 rw[hb']at c3⊢
 have al:a<2^32:=by omega
 have bl':b<2^32:=by omega
 have c2:=x157 a al
 have c4:=x157 b bl'
 have c5:=y225 (toL m) [(b:Int),0] (LB_toL m) (LB_two bl') ((len_bl m 100000).2 (by omega)) (by simp)
 rw[mulR_two hbits bl']at c5
 have hml:=bl_mulk m b bl'
 have hR:mgN a b m e=if 32<(bl m:Int)+e then-1 else if(bl m:Int)+e< -32 then 1 else if 0≤e then ordN a (m*b*2^e.toNat)else ordN (a*2^(-e).toNat) (m*b):=rfl
 generalize mgN a b m e=R at*
 have go: ¬32<(bl m:Int)+e→ ¬(bl m:Int)+e< -32→(0≤e→Fn 159 [] [.sl .u32 (toL (m*b)),.int .i64 e] (.tup [.sl .u32 (toL (m*b*2^e.toNat)),.int .i64 0]) []∧Fn 160 [] [.sl .u32 [(a:Int),0],.sl .u32 (toL (m*b*2^e.toNat))] (.int .i64 (ordN a (m*b*2^e.toNat))) [])∧
  (¬0≤e→Fn 159 [] [.sl .u32 [(a:Int),0],.int .i64 (-e)] (.tup [.sl .u32 (toL (a*2^(-e).toNat)),.int .i64 0]) []∧Fn 160 [] [.sl .u32 (toL (a*2^(-e).toNat)),.sl .u32 (toL (m*b))] (.int .i64 (ordN (a*2^(-e).toNat) (m*b))) []):=by
  intro t1 t2
  constructor
  ·intro he
   constructor
   ·have:=y218 (toL (m*b)) e (LB_toL _) ((len_bl _ 100000).2 (by omega))
    rw[shlR_big he (by omega) (by omega)]at this
    exact this
   ·have hz:bl (m*b*2^e.toNat)≤8192:=by
     by_cases h0:m*b=0
     ·rw[h0];simp[bl]
     ·rw[bl_mul_pow _ _ h0];omega
    have:=y177 [(a:Int),0] (toL (m*b*2^e.toNat)) (by simp) ((len_bl _ 1000000).2 (by omega))
    rw[cmpL_val (LB_two al) (LB_toL _),val_two,toL_val]at this
    exact this
  ·intro he
   have hz:bl (a*2^(-e).toNat)≤8192:=by
    have:=bl_le.2 al
    by_cases h0:a=0
    ·rw[h0];simp[bl]
    ·rw[bl_mul_pow _ _ h0];omega
   constructor
   ·have:=y218 [(a:Int),0] (-e) (LB_two al) (by simp)
    rw[shlR_two al (by omega) (by omega)]at this
    exact this
   ·have:=y177 (toL (a*2^(-e).toNat)) (toL (m*b)) ((len_bl _ 1000000).2 (by omega)) ((len_bl _ 1000000).2 (by omega))
    rw[cmpL_val (LB_toL _) (LB_toL _),toL_val,toL_val]at this
    exact this
 have hw:IntKind.i64.wrap (0-e)= -e:=by rw[wI (by omega)];omega
 have c5:Fn 158 [] [.sl .u32 (toL m),.sl .u32 [(b:Int),0]] (.tup [.sl .u32 (toL (m*b)),.int .i64 0]) []:=c5
 generalize toL (m*b)=MB at*
 generalize toL (m*b*2^e.toNat)=MS at*
 generalize toL (a*2^(-e).toNat)=AS at*
 generalize ordN a (m*b*2^e.toNat)=O1 at*
 generalize ordN (a*2^(-e).toNat) (m*b)=O2 at*
 have h127:Fn 127 [] [.agg [.bool neg,.sl .u32 (toL m),.int .i64 e]] (.int .i64 ((bl m:Int)+e)) []:=h127
 show Fn 100 [] [.agg [.int .i64 n,.int .i64 q],.agg [.bool neg,.sl .u32 (toL m),.int .i64 e]] _ []
 generalize toL m=M at*
 generalize (bl m:Int)+e=t at*
 refine fnT hT8 hmx Tryz.func100 rfl rfl (ex:= []) ?_
 conv=>whnf
 refine⟨[],_,h127,?_⟩
 conv=>whnf
 refine brI (fun k1=>?_) (fun k1=>?_)
 ·have k1:=of_decide_eq_true k1
  rw[if_pos k1]at hR
  subst hR
  conv=>whnf
  exact⟨lr rfl,lh0⟩
 have k1: ¬32<t:=of_decide_eq_false k1
 rw[if_neg k1]at hR
 conv=>whnf
 refine brI (fun k2=>?_) (fun k2=>?_)
 ·have k2:=of_decide_eq_true k2
  rw[if_pos k2]at hR
  subst hR
  conv=>whnf
  exact⟨lr rfl,lh0⟩
 have k2: ¬t< -32:=of_decide_eq_false k2
 rw[if_neg k2]at hR
 obtain⟨g1,g2⟩:=go k1 k2
 conv=>whnf
 refine⟨[],_,c1,?_⟩
 conv=>whnf
 refine⟨[],_,c2,?_⟩
 conv=>whnf
 refine⟨[],_,c3,?_⟩
 conv=>whnf
 refine⟨[],_,c4,?_⟩
 conv=>whnf
 refine⟨[],_,c5,?_⟩
 conv=>whnf
 (refine⟨by kernel_rfl,by kernel_rfl,?_⟩;(conv=>whnf))
 refine brI (fun k3=>?_) (fun k3=>?_)
 ·have k3:0≤e:=of_decide_eq_true k3
  rw[if_pos k3]at hR
  subst hR
  obtain⟨c6,c7⟩:=g1 k3
  conv=>whnf
  refine⟨[],_,c6,?_⟩
  conv=>whnf
  refine⟨[],_,c7,?_⟩
  conv=>whnf
  exact⟨lr rfl,lh0⟩
 ·have k3: ¬0≤e:=of_decide_eq_false k3
  rw[if_neg k3]at hR
  subst hR
  obtain⟨c6,c7⟩:=g2 k3
  conv=>whnf
  rw[hw]
  refine⟨[],_,c6,?_⟩
  conv=>whnf
  refine⟨[],_,c7,?_⟩
  conv=>whnf
  exact⟨lr rfl,lh0⟩
def cmpR (r:Rt) (d:Dy):Int:=
 if r.n.sign<sgnD d then-1 else if sgnD d<r.n.sign then 1 else if r.n.sign=0 then 0 else r.n.sign*mgN r.n.natAbs r.d.natAbs (nm d) d.e
theorem x43 (r:Rt) (d:Dy) (hr:rOk r=true) (hd:VD d):Fn 43 [] [.agg [.int .i64 r.n,.int .i64 r.d],.agg (dyC d)] (.tup [.int .i64 (cmpR r d),.int .i64 0]) []:=by
 have h98:=f54 r.n r.d
 rw[show rOk ⟨r.n,r.d⟩=true from hr]at h98
 have h59:=v80 hd
 have h81:=v124 hd
 have h100:=fun h=>x100 r d hr hd h
 have hg:=mgN_bd r.n.natAbs r.d.natAbs (nm d) d.e
 have hR:cmpR r d=if r.n.sign<sgnD d then-1 else if sgnD d<r.n.sign then 1 else if r.n.sign=0 then 0 else r.n.sign*mgN r.n.natAbs r.d.natAbs (nm d) d.e:=rfl
 have hs:sgnD d=if nm d=0 then 0 else if d.neg=true then-1 else 1:=rfl
 generalize cmpR r d=R at*
 generalize sgnD d=S at*
 generalize mgN r.n.natAbs r.d.natAbs (nm d) d.e=G at*
 generalize nm d=z at*
 clear hd hr
 obtain⟨n,q⟩:=r
 obtain⟨neg,m,e⟩:=d
 simp only at*
 have h98:Fn 98 [] [.agg [.int .i64 n,.int .i64 q]] (.bool true) []:=h98
 have h59:Fn 59 [] [.agg [.bool neg,.sl .u32 m,.int .i64 e]] (.bool true) []:=h59
 have h81:Fn 81 [] [.agg [.bool neg,.sl .u32 m,.int .i64 e]] (.int .i64 S) []:=h81
 have h100: ¬z=0→Fn 100 [] [.agg [.int .i64 n,.int .i64 q],.agg [.bool neg,.sl .u32 m,.int .i64 e]] (.int .i64 G) []:=h100
 show Fn 43 [] [.agg [.int .i64 n,.int .i64 q],.agg [.bool neg,.sl .u32 m,.int .i64 e]] _ []
 have hw1:IntKind.i64.wrap (1*G)=1*G:=wI (by omega)
 have hw2:IntKind.i64.wrap (-1*G)= -1*G:=wI (by omega)
 have hS:S=0∨((S=1∨S= -1)∧ ¬z=0):=by
  by_cases h0:z=0
  ·rw[if_pos h0]at hs;exact .inl hs
  ·rw[if_neg h0]at hs
   split at hs
   ·exact .inr ⟨.inr hs,h0⟩
   ·exact .inr ⟨.inl hs,h0⟩
 clear hs
 refine fnT hT8 hmx Tryz.func43 rfl rfl (ex:= []) ?_
 conv=>whnf
 refine⟨[],_,h98,?_⟩
 conv=>whnf
 refine⟨[],_,h59,?_⟩
 conv=>whnf
 refine brI (fun k1=>?_) (fun k1=>?_)
 ·have k1:0<n:=of_decide_eq_true k1
  rw[Int.sign_eq_one_of_pos k1]at hR
  conv=>whnf
  refine⟨[],_,h81,?_⟩
  rcases hS with rfl|⟨rfl|rfl,h0⟩
  ·subst hR
   conv=>whnf
   exact⟨lr rfl,lh0⟩
  ·conv=>whnf
   refine⟨[],_,h100 h0,?_⟩
   conv=>whnf
   exact⟨lt0 (lc (ai0 (by rw[hR];exact hw1)) (lc (lr rfl) ln0)),lh0⟩
  ·subst hR
   conv=>whnf
   exact⟨lr rfl,lh0⟩
 have k1: ¬0<n:=of_decide_eq_false k1
 conv=>whnf
 refine brI (fun k2=>?_) (fun k2=>?_)
 ·have k2:n<0:=of_decide_eq_true k2
  rw[Int.sign_eq_neg_one_of_neg k2]at hR
  conv=>whnf
  refine⟨[],_,h81,?_⟩
  rcases hS with rfl|⟨rfl|rfl,h0⟩
  ·subst hR
   conv=>whnf
   exact⟨lr rfl,lh0⟩
  ·subst hR
   conv=>whnf
   exact⟨lr rfl,lh0⟩
  ·conv=>whnf
   refine⟨[],_,h100 h0,?_⟩
   conv=>whnf
   exact⟨lt0 (lc (ai0 (by rw[hR];exact hw2)) (lc (lr rfl) ln0)),lh0⟩
 have k2: ¬n<0:=of_decide_eq_false k2
 obtain rfl:n=0:=by omega
 conv=>whnf
 refine⟨[],_,h81,?_⟩
 rcases hS with rfl|⟨rfl|rfl,h0⟩
 ·subst hR
  conv=>whnf
  exact⟨lr rfl,lh0⟩
 ·subst hR
  conv=>whnf
  exact⟨lr rfl,lh0⟩
 ·subst hR
  conv=>whnf
  exact⟨lr rfl,lh0⟩
theorem rv_abs {r:Rt} (hr:rOk r=true):rv r=if r.n<0 then-((r.n.natAbs:Rat)/(r.d.natAbs:Rat))else(r.n.natAbs:Rat)/(r.d.natAbs:Rat):=by
 have hb:=rOk_in hr
 unfold rIn at hb
 have hd:((r.d.natAbs:Nat):Rat)=(r.d:Rat):=by
  rw[←Rat.intCast_natCast];congr 1;omega
 unfold rv
 split
 ·have hn:((r.n.natAbs:Nat):Rat)= -(r.n:Rat):=by
   rw[←Rat.intCast_natCast,←Rat.intCast_neg];congr 1;omega
  rw[hd,hn];grind
 ·have hn:((r.n.natAbs:Nat):Rat)=(r.n:Rat):=by
   rw[←Rat.intCast_natCast];congr 1;omega
  rw[hd,hn]
theorem rv_sign {r:Rt} (hr:rOk r=true):(rv r<0↔r.n<0)∧(0<rv r↔0<r.n):=by
 have hb:=rOk_in hr
 unfold rIn at hb
 have hd:(0:Rat)<((r.d.natAbs:Nat):Rat):=by have:=natR_lt.2 (show 0<r.d.natAbs by omega);simpa using this
 have key: ∀a:Nat,0<a→(0:Rat)<(a:Rat)/((r.d.natAbs:Nat):Rat):=fun a ha=>by
  have:=(lt_rdiv (a:=a) (b:=r.d.natAbs) (by omega) (z:=0)).2 (by rw[Rat.zero_mul];have:=natR_lt.2 ha;simpa using this)
  exact this
 rw[rv_abs hr]
 by_cases h1:r.n<0
 ·rw[if_pos h1]
  have:=key r.n.natAbs (by omega)
  constructor<;>constructor<;>intro c
  ·exact h1
  ·grind
  ·exfalso;grind
  ·omega
 ·rw[if_neg h1]
  by_cases h2:r.n=0
  ·rw[h2]
   have e:((Int.natAbs 0:Nat):Rat)/((r.d.natAbs:Nat):Rat)=0:=by
    rw[show((Int.natAbs 0:Nat):Rat)=0 from rfl];grind
   rw[e]
   constructor<;>constructor<;>intro c
   ·exact absurd c (by decide)
   ·omega
   ·exact absurd c (by decide)
   ·omega
  ·have:=key r.n.natAbs (by omega)
   constructor<;>constructor<;>intro c
   ·exfalso;grind
   ·omega
   ·omega
   ·exact this
theorem cmpR_spec {r:Rt} {d:Dy} (hr:rOk r=true):(cmpR r d<0↔rv r<dv d)∧(0<cmpR r d↔dv d<rv r):=by
 obtain⟨s1,s2,s3⟩:=sgn_spec d
 obtain⟨t1,t2⟩:=rv_sign hr
 have hs:sgnD d=if nm d=0 then 0 else if d.neg=true then-1 else 1:=rfl
 have hb:=rOk_in hr
 unfold rIn at hb
 have hv:=rv_abs hr
 have hz:dv d=if d.neg=true then-(vN (nm d) d.e)else vN (nm d) d.e:=rfl
 have hg:=fun h h'=>mgN_spec (a:=r.n.natAbs) (b:=r.d.natAbs) (m:=nm d) (e:=d.e) h (by omega) (by omega) (by omega) h'
 unfold cmpR
 generalize mgN r.n.natAbs r.d.natAbs (nm d) d.e=G at*
 generalize (r.n.natAbs:Rat)/(r.d.natAbs:Rat)=A at*
 generalize vN (nm d) d.e=B at*
 generalize rv r=X at*
 generalize dv d=Y at*
 generalize sgnD d=S at*
 have hS:S=0∨(S=1∧d.neg=false∧nm d≠0)∨(S= -1∧d.neg=true∧nm d≠0):=by
  by_cases h0:nm d=0
  ·rw[if_pos h0]at hs;exact .inl hs
  ·rw[if_neg h0]at hs
   split at hs
   ·rename_i hn;exact .inr (.inr ⟨hs,hn,h0⟩)
   ·rename_i hn;exact .inr (.inl ⟨hs,by simpa using hn,h0⟩)
 clear hs
 rcases Int.lt_trichotomy r.n 0 with h|h|h
 ·rw[Int.sign_eq_neg_one_of_neg h,if_pos h]at*
  have hX:=t1.2 h
  rcases hS with rfl|⟨rfl,hn,h0⟩|⟨rfl,hn,h0⟩
  ·have:=s3.1 rfl
   simp;grind
  ·have:=s2.1 (by decide)
   simp;grind
  ·rw[if_pos hn]at hz
   obtain⟨g1,g2⟩:=hg (by omega) h0
   simp only[Int.reduceNeg,Int.lt_irrefl,if_false,if_neg (show ¬(-1:Int)=0 by decide)]
   constructor
   ·rw[show-1*G<0↔0<G by omega,g2,hv,hz];exact rneg_lt
   ·rw[show 0< -1*G↔G<0 by omega,g1,hv,hz];exact rneg_lt
 ·rw[show r.n.sign=0 by rw[h];rfl]
  have hX:X=0:=by
   have a1: ¬X<0:=fun c=>by have:=t1.1 c;omega
   have a2: ¬0<X:=fun c=>by have:=t2.1 c;omega
   grind
  subst hX
  rcases hS with rfl|⟨rfl,hn,h0⟩|⟨rfl,hn,h0⟩
  ·have:=s3.1 rfl
   simp;grind
  ·have:=s2.1 (by decide)
   simp;grind
  ·have:=s1.1 (by decide)
   simp;grind
 ·rw[Int.sign_eq_one_of_pos h]at*
  rw[if_neg (by omega)]at hv
  have hX:=t2.2 h
  rcases hS with rfl|⟨rfl,hn,h0⟩|⟨rfl,hn,h0⟩
  ·have:=s3.1 rfl
   simp;grind
  ·rw[if_neg (by rw[hn];decide)]at hz
   obtain⟨g1,g2⟩:=hg (by omega) h0
   simp only[Int.lt_irrefl,if_false,if_neg (show ¬(1:Int)=0 by decide),Int.one_mul]
   rw[g1,g2,hv,hz]
   exact⟨Iff.rfl,Iff.rfl⟩
  ·have:=s1.1 (by decide)
   simp;grind
end Go.Proofs.YtajnlbbgolmklaaGreatDoor

namespace Go.Proofs.YtajnlbbgolmklaaGreatDoor
open Go Go.Sx
set_option maxHeartbeats 2000000
theorem inI_sub {q:Rat} {x y:Iv} (h:subI' x y) (hq:inI q x):inI q y:=by
 rcases h with h|⟨h1,_,h2,h3⟩
 ·exact .inl h
 ·rcases hq with hq|⟨a,b⟩
  ·rw[h1]at hq;cases hq
  ·exact .inr ⟨Rat.le_trans h2 a,Rat.le_trans b h3⟩
def EnvX (es:Env0) (es':EnvI):Prop:=All2 (fun a b=>a.1=b.1∧rOk a.2=true∧inI (rv a.2) (okI b.2)) es es'
theorem envX_has {es:Env0} {es':EnvI} (h:EnvX es es') (s:Bytes):mhas .str s es=mhas .str s es':=by
 induction h with
 |nil=>rfl
 |cons hab _ ih=>
  rename_i a b l l' _
  obtain⟨y,v⟩:=a
  obtain⟨y',v'⟩:=b
  obtain⟨rfl,_⟩:=hab
  simp only[mhas,ih]
theorem envX_get {es:Env0} {es':EnvI} (h:EnvX es es') (s:Bytes) (hm:mhas .str s es'=true):rOk (mget .str s ⟨0,0⟩ es)=true∧inI (rv (mget .str s ⟨0,0⟩ es)) (okI (mget .str s zI es')):=by
 induction h with
 |nil=>cases hm
 |cons hab _ ih=>
  rename_i a b l l' _
  obtain⟨y,v⟩:=a
  obtain⟨y',v'⟩:=b
  obtain⟨rfl,h2⟩:=hab
  simp only[mhas]at hm
  simp only[mget]
  cases hk:keyB .str s y with
  |true=>exact h2
  |false=>rw[hk,Bool.false_or]at hm;exact ih hm
theorem envX_put {es:Env0} {es':EnvI} (h:EnvX es es') (n:Bytes) {r:Rt} {x:Iv} (hr:rOk r=true∧inI (rv r) (okI x)):EnvX (mput .str n r es) (mput .str n x es'):=by
 induction h with
 |nil=>exact .cons ⟨rfl,hr⟩ .nil
 |cons hab ht ih=>
  rename_i a b l l'
  obtain⟨y,v⟩:=a
  obtain⟨y',v'⟩:=b
  obtain⟨rfl,h2⟩:=hab
  simp only[mput]
  cases keyB .str n y with
  |true=>exact .cons ⟨rfl,hr⟩ ht
  |false=>exact .cons ⟨rfl,h2⟩ ih
theorem envX_env: ∀ {ns:List Bytes} {rs:List Rt} {xs:List Iv},All2 (fun r x=>rOk r=true∧inI (rv r) (okI x)) rs xs→ ∀ {es:Env0} {es':EnvI},EnvX es es'→EnvX (envL ns rs es) (envI ns xs es')
 | [],_,_,h,_,_,he=>by cases h<;>exact he
 | _::_,_,_,.nil,_,_,he=>he
 |n::ns,_,_,.cons h1 h2,_,_,he=>envX_env (ns:=ns) h2 (envX_put he n h1)
def encL (rs:List Rt):List Iv:=rs.map fun r=>encI r 40
theorem enc_ri (r:Rt):RI (encI r 40):=(CI_enc r (p:=40) (by decide)).ri
theorem encL_ri (rs:List Rt): ∀x∈encL rs,RI x:=fun x hx=>by
 obtain⟨r,_,rfl⟩:=List.mem_map.1 hx
 exact enc_ri r
theorem encL_in: ∀ {rs:List Rt},rs.all rOk=true→ ∀ {ms:List Iv},(∀x∈ms,RI x)→All2 (fun r x=>rOk r=true∧inI (rv r) (okI x)) rs (lgI (encL rs) ms)
 | [],_,ms,_=>by cases ms<;>exact .nil
 |r::rs,h,ms,hm=>by
  rw[List.all_cons,Bool.and_eq_true]at h
  obtain⟨v,i⟩:=enc_VI_in r (p:=40) (by decide)
  have i:=i h.1
  rw[←okI_of v]at i
  cases ms with
  |nil=>
   have ih:=encL_in h.2 (ms:= []) hm
   rw[lgI_nil]at ih⊢
   exact .cons ⟨h.1,i⟩ ih
  |cons m ms=>exact .cons ⟨h.1,inI_sub (hull_sub (enc_ri r) (hm m List.mem_cons_self)) i⟩ (encL_in h.2 fun x hx=>hm x (List.mem_cons_of_mem _ hx))
mutual
theorem allE_pr (p:Ex→Bool): ∀e,allE p e=(preE e).all p
 | .mk k q s n l=>by simp only[allE,preE,List.all_cons,allL_pr p l]
theorem allL_pr (p:Ex→Bool): ∀l,allL p l=(preL l).all p
 | []=>by simp[allL,preL]
 |x::l=>by simp only[allL,preL,List.all_append,allE_pr p x,allL_pr p l]
end
theorem con_law {fx:Int→Iv→Int→Iv} {e:Ex} {ns:List Bytes} {rs:List Rt} {ms:List Iv} {p:Int} {r:Rt} (hm: ∀x∈ms,RI x) (h:exF e ns rs=(r,0)):
 rOk r=true∧inI (rv r) (valI fx e ns (lgI (encL rs) ms) p)∧VI (valI fx e ns (lgI (encL rs) ms) p):=by
 unfold exF at h
 split at h
 rotate_left
 ·simp at h
 rename_i c
 obtain⟨⟨c1,c2⟩,c3,c4,c5,c6⟩:=c
 split at h
 rotate_left
 ·rename_i d
  exact absurd (congrArg Prod.snd h) d
 rename_i d
 obtain⟨hok,h9⟩:=ratB_ok c4
 have hvt:=okT_VT hok
 have hX:=envX_env (ns:=ns) (encL_in c5 hm) (es:= []) (es':= []) .nil
 generalize envL ns rs []=es at*
 have hVK:VK Ka e:=VK_of' hvt fun y hy=>by
  rw[allE_pr]at h9
  have:=of_decide_eq_true (List.all_eq_true.1 h9 y hy)
  unfold alg;omega
 have hin: ∀y∈preE e,y.k=2→mhas .str y.s es=true:=fun y hy hk=>List.all_eq_true.1 c6 y.s ((mem_nmE hok).2 ⟨y,hy,hk,rfl⟩)
 have hv:VarsOk es e:=fun y hy hk=>(envX_get hX y.s (by rw[←envX_has hX];exact hin y hy hk)).1
 obtain⟨x1,x2⟩:=xc_val es hvt h9 hv
 obtain⟨v,hq⟩:=x2 d
 obtain⟨r1,r2⟩:=done_ok (x1 v hq) d
 rw[h]at r1 r2
 refine⟨r1,?_⟩
 have hri:=envI_REs ns (lgI (encL rs) ms) [] (lgI_ri (encL_ri rs) hm) fun q hq=>by cases hq
 unfold valI
 generalize envI ns (lgI (encL rs) ms) []=es' at*
 by_cases c:(enB ns (lgI (encL rs) ms)=true∧okT e=true∧pcB p=true)∧(evE fx p es' e).2=true
 ·rw[if_pos c]
  refine⟨?_,ev_VI c.1.2.2 hri hVK⟩
  simp only at r2
  rw[r2]
  exact ev_in c.1.2.2 hri (fun s hs=>(envX_get hX s hs).2) hVK c.2 v hq
 ·rw[if_neg c]
  exact⟨.inl rfl,.inr rfl⟩
end Go.Proofs.YtajnlbbgolmklaaGreatDoor

namespace Go.Proofs.YtajnlbbgolmklaaGreatDoor
open Go Go.Sx
set_option maxRecDepth 100000
set_option maxHeartbeats 8000000
theorem encL_len (rs:List Rt):(encL rs).length =rs.length:=by simp[encL]
theorem con_get {rs:List Rt} {ms:List Iv} {i:Nat} {r:Rt} (hr:rs[i]? =some r):(lgI (encL rs) ms)[i]? =some (match ms[i]? with|some m=>hullI (encI r 40) m|none=>encI r 40):=by
 induction rs generalizing ms i with
 |nil=>simp at hr
 |cons a rs ih=>
  cases ms with
  |nil=>
   show(encL (a::rs))[i]? =_
   show(List.map (fun r=>encI r 40) (a::rs))[i]? =_
   rw[List.getElem?_map,hr];rfl
  |cons m ms=>
   cases i with
   |zero=>simp at hr;subst hr;rfl
   |succ i=>simpa[lgI,encL]using ih (ms:=ms) (i:=i) (by simpa using hr)
theorem con_step {rs:List Rt} {ms:List Iv} {i:Nat} {r:Rt} (hr:rs[i]? =some r):(lgI (encL rs) ms).take i++ [match ms[i]? with|some m=>hullI (encI r 40) m|none=>encI r 40]=(lgI (encL rs) ms).take (i+1):=by
 rw[List.take_add_one,con_get hr];rfl
theorem x8 (e:Ex) (ns:List Bytes) (rs:List Rt) (ms:List Iv) (p:Int) (he:Sm e) (h1:ns.length<9223372036854775808) (h2:rs.length<9223372036854775808) (h3:ms.length<9223372036854775808)
 (hm: ∀x∈ms,LB x.lo.m∧LB x.hi.m):
 Fn 8 G0 [.agg (exC e),.sl .str ns,.sl .rat rs,.sl .iv ms,.int .i64 p] (.bool true) G0:=by
 have hg2:=x10 ns ms p h1 h3
 by_cases g2:grB ns ms p=true
 ·rw[g2]at hg2
  cases e
  refine fnT hT8 hmx Tryz.func8 rfl rfl (ex:= []) ?_
  conv=>whnf
  refine⟨[.gst JT],_,y4,?_⟩
  conv=>whnf
  refine⟨[],_,hg2,?_⟩
  conv=>whnf
  exact⟨lr rfl,leG⟩
 have g2:grB ns ms p=false:=by simpa using g2
 rw[g2]at hg2
 have l2:=grB_len g2
 have rm: ∀x∈ms,RI x:=fun x hxx=>⟨(hm x hxx).1,(hm x hxx).2,by have:=l2.2.2 x hxx;omega,by have:=l2.2.2 x hxx;omega⟩
 by_cases hl:20<rs.length
 ·cases e
  refine fnT hT8 hmx Tryz.func8 rfl rfl (ex:= []) ?_
  conv=>whnf
  refine⟨[.gst JT],_,y4,?_⟩
  conv=>whnf
  refine⟨[],_,hg2,?_⟩
  conv=>whnf
  refine brI (fun k1=>?_) (fun k1=>?_)
  ·conv=>whnf
   exact⟨lr rfl,leG⟩
  ·have k1: ¬20<(rs.length:Int):=of_decide_eq_false k1
   omega
 have h51:=f51 e ns rs he h1 h2
 by_cases hF:(exF e ns rs).2=0
 rotate_left
 ·generalize exF e ns rs=X at*
  obtain⟨⟨n,q⟩,f⟩:=X
  have h51:Fn 41 [] [.agg (exC e),.sl .str ns,.sl .rat rs] (.tup [.agg [.int .i64 n,.int .i64 q],.int .i64 f]) []:=h51
  cases e
  refine fnT hT8 hmx Tryz.func8 rfl rfl (ex:= []) ?_
  conv=>whnf
  refine⟨[.gst JT],_,y4,?_⟩
  conv=>whnf
  refine⟨[],_,hg2,?_⟩
  conv=>whnf
  refine brI (fun k1=>?_) (fun k1=>?_)
  ·have k1:20<(rs.length:Int):=of_decide_eq_true k1
   omega
  conv=>whnf
  refine⟨[],_,h51,?_⟩
  conv=>whnf
  refine brI (fun k2=>?_) (fun k2=>?_)
  ·conv=>whnf
   exact⟨lr rfl,leG⟩
  ·have k2:(f != 0)=false:=k2
   exact absurd (by simpa using k2) hF
 obtain⟨r,hX⟩: ∃r,exF e ns rs=(r,0):=⟨(exF e ns rs).1,by rw[←hF]⟩
 rw[hX]at h51
 clear hF
 let fx:Int→Iv→Int→Iv:=fun _ x _=>x
 have hok:okT e=true∧VK Ka e:=by
  have hX':=hX
  unfold exF at hX'
  split at hX'
  rotate_left
  ·simp at hX'
  rename_i c
  obtain⟨_,_,c4,_⟩:=c
  obtain⟨hok,h9⟩:=ratB_ok c4
  refine⟨hok,VK_of' (okT_VT hok) fun y hy=>?_⟩
  rw[allE_pr]at h9
  have:=of_decide_eq_true (List.all_eq_true.1 h9 y hy)
  unfold alg;omega
 have hll:=lgI_len (encL rs) ms
 rw[encL_len]at hll
 have hri:=lgI_ri (encL_ri rs) rm
 have v1:=i8 (fx:=fx) (K:=Ka) (fun p _=>apK_a fx p) e he (fun _=>hok.2) ns (lgI (encL rs) ms) hri h1 (by omega) p
 obtain⟨ro,hin,hvi⟩:=con_law (fx:=fx) (p:=p) rm hX
 have hcmp:(valI fx e ns (lgI (encL rs) ms) p).all =false→ ∃a b:Int,0≤a∧b≤0∧Fn 43 [] [.agg [.int .i64 r.n,.int .i64 r.d],.agg (dyC (valI fx e ns (lgI (encL rs) ms) p).lo)] (.tup [.int .i64 a,.int .i64 0]) []∧
  Fn 43 [] [.agg [.int .i64 r.n,.int .i64 r.d],.agg (dyC (valI fx e ns (lgI (encL rs) ms) p).hi)] (.tup [.int .i64 b,.int .i64 0]) []:=by
  intro h
  have k:=(vi_all hvi).1 h
  rcases hin with c|⟨c1,c2⟩
  ·rw[h]at c;cases c
  refine⟨_,_,?_,?_,x43 r _ ro k.lo,x43 r _ ro k.hi⟩
  ·have:=(cmpR_spec (d:=(valI fx e ns (lgI (encL rs) ms) p).lo) ro).1
   rw[←Int.not_lt,this]
   exact Rat.not_lt.2 c1
  ·have:=(cmpR_spec (d:=(valI fx e ns (lgI (encL rs) ms) p).hi) ro).2
   rw[←Int.not_lt,this]
   exact Rat.not_lt.2 c2
 have hst: ∀i r,rs[i]? =some r→_:=fun i r h=>con_step (ms:=ms) h
 clear hin hvi hX hok
 generalize valI fx e ns (lgI (encL rs) ms) p=A at v1 hcmp
 generalize lgI (encL rs) ms=L at*
 obtain⟨⟨a1,a2,a3⟩,⟨a4,a5,a6⟩,a7⟩:=A
 obtain⟨n,q⟩:=r
 have h51:Fn 41 [] [.agg (exC e),.sl .str ns,.sl .rat rs] (.tup [.agg [.int .i64 n,.int .i64 q],.int .i64 0]) []:=h51
 have eL:L.take rs.length=L:=by rw[←hll,List.take_length]
 have v1:Fn 16 G0 [.agg (exC e),.sl .str ns,.sl .iv (L.take rs.length),.int .i64 p] (.agg [.bool a1,.sl .u32 a2,.int .i64 a3,.bool a4,.sl .u32 a5,.int .i64 a6,.bool a7]) G0:=by rw[eL];exact v1
 obtain⟨e1,e2,e3,e4,e5⟩:=e
 refine fnT hT8 hmx Tryz.func8 rfl rfl (ex:= []) ?_
 conv=>whnf
 refine⟨[.gst JT],_,y4,?_⟩
 conv=>whnf
 refine⟨[],_,hg2,?_⟩
 conv=>whnf
 refine brI (fun k1=>?_) (fun k1=>?_)
 ·have k1:20<(rs.length:Int):=of_decide_eq_true k1
  omega
 clear k1
 conv=>whnf
 refine⟨[],_,h51,?_⟩
 conv=>whnf
 refine⟨Nat,fun i=>i≤rs.length,fun i=> [(44,.int .i64 i),(13,.own 64)],fun i=> [(64,.buf 37 .iv (L.take i)),(15,.free),(16,.free)],fun i=>rs.length-i,0,by simp,?_,fun i hi=>?_⟩
 ·((conv=>whnf);refine And.intro ?_ ?_;repeat' first|refine lc ?_ ?_|exact la0|exact lr rfl|exact ln0|refine lh1 ?_ ?_|exact lh0|exact bf0|exact bd0|refine bc0 ?_|exact bm0 rfl|exact bb0 rfl|exact bg0 rfl|exact li0 rfl|refine lg0 ?_|refine lt0 ?_|fail)
  ·exact trivial
  ·exact⟨rfl,rfl⟩
 (refine⟨by kernel_rfl,?_⟩;(conv=>whnf))
 refine brI (fun k1=>?_) (fun k1=>?_)
 ·have k1:=of_decide_eq_true k1
  have hi:i<rs.length:=by omega
  obtain⟨x,hxi⟩: ∃x,rs[i]? =some x:=⟨_,List.getElem?_eq_getElem hi⟩
  have hs:=hst i x hxi
  have h50:=i50 x 40 (by decide)
  conv=>whnf
  refine⟨⟨by omega,by omega⟩,fun(x':Rt) hx'=>?_⟩
  have hx':rs[i]? =some x':=by simpa using hx'
  obtain rfl:x=x':=by rw[hxi]at hx';exact Option.some.inj hx'
  by_cases hmi:i<ms.length
  ·obtain⟨m,hmx'⟩: ∃m,ms[i]? =some m:=⟨_,List.getElem?_eq_getElem hmi⟩
   rw[hmx']at hs
   replace hs:L.take i++ [hullI (encI x 40) m]=L.take (i+1):=hs
   have h201:=i201 (encI x 40) m (enc_ri x) (rm m (List.mem_of_getElem? hmx'))
   generalize hullI (encI x 40) m=Q at h201 hs
   generalize encI x 40=Z at*
   obtain⟨x1,x2⟩:=x
   obtain⟨⟨z1,z2,z3⟩,⟨z4,z5,z6⟩,z7⟩:=Z
   obtain⟨⟨q1,q2,q3⟩,⟨q4,q5,q6⟩,q7⟩:=Q
   have h50:Fn 42 G0 [.agg [.int .i64 x1,.int .i64 x2],.int .i64 40] (.agg [.bool z1,.sl .u32 z2,.int .i64 z3,.bool z4,.sl .u32 z5,.int .i64 z6,.bool z7]) G0:=h50
   conv=>whnf
   refine⟨[.gst JT],_,h50,?_⟩
   conv=>whnf
   refine brI (fun k2=>?_) (fun k2=>?_)
   rotate_left
   ·have k2:=of_decide_eq_false k2
    omega
   conv=>whnf
   refine⟨⟨by omega,by omega⟩,fun(m':Iv) hm'=>?_⟩
   have hm':ms[i]? =some m':=by simpa using hm'
   obtain rfl:m=m':=by rw[hmx']at hm';exact Option.some.inj hm'
   obtain⟨⟨m1,m2,m3⟩,⟨m4,m5,m6⟩,m7⟩:=m
   have h201:Fn 14 [] [.agg [.bool z1,.sl .u32 z2,.int .i64 z3,.bool z4,.sl .u32 z5,.int .i64 z6,.bool z7],.agg [.bool m1,.sl .u32 m2,.int .i64 m3,.bool m4,.sl .u32 m5,.int .i64 m6,.bool m7]] (.agg [.bool q1,.sl .u32 q2,.int .i64 q3,.bool q4,.sl .u32 q5,.int .i64 q6,.bool q7]) []:=h201
   conv=>whnf
   refine⟨[],_,h201,?_⟩
   conv=>whnf
   (refine⟨by kernel_rfl,by kernel_rfl,?_⟩;(conv=>whnf))
   refine⟨by simp;omega,?_⟩
   conv=>whnf
   refine⟨i+1,by omega,by show rs.length-(i+1)<rs.length-i;omega,?_⟩
   ((conv=>whnf);refine And.intro ?_ ?_;repeat' first|refine lc ?_ ?_|exact la0|exact lr rfl|exact ln0|refine lh1 ?_ ?_|exact lh0|exact bf0|exact bd0|refine bc0 ?_|exact bm0 rfl|exact bb0 rfl|exact bg0 rfl|exact li0 rfl|refine lg0 ?_|refine lt0 ?_|fail)
   ·exact ai0 (by rw[wI (by omega)];omega)
   ·exact bb0 hs
  ·rw[List.getElem?_eq_none (by omega)]at hs
   generalize encI x 40=Z at*
   obtain⟨x1,x2⟩:=x
   obtain⟨⟨z1,z2,z3⟩,⟨z4,z5,z6⟩,z7⟩:=Z
   have h50:Fn 42 G0 [.agg [.int .i64 x1,.int .i64 x2],.int .i64 40] (.agg [.bool z1,.sl .u32 z2,.int .i64 z3,.bool z4,.sl .u32 z5,.int .i64 z6,.bool z7]) G0:=h50
   conv=>whnf
   refine⟨[.gst JT],_,h50,?_⟩
   conv=>whnf
   refine brI (fun k2=>?_) (fun k2=>?_)
   ·have k2:=of_decide_eq_true k2
    omega
   conv=>whnf
   refine⟨by simp;omega,?_⟩
   conv=>whnf
   refine⟨i+1,by omega,by show rs.length-(i+1)<rs.length-i;omega,?_⟩
   ((conv=>whnf);refine And.intro ?_ ?_;repeat' first|refine lc ?_ ?_|exact la0|exact lr rfl|exact ln0|refine lh1 ?_ ?_|exact lh0|exact bf0|exact bd0|refine bc0 ?_|exact bm0 rfl|exact bb0 rfl|exact bg0 rfl|exact li0 rfl|refine lg0 ?_|refine lt0 ?_|fail)
   ·exact ai0 (by rw[wI (by omega)];omega)
   ·exact bb0 hs
 ·have k1:=of_decide_eq_false k1
  obtain rfl:i=rs.length:=by omega
  conv=>whnf
  refine⟨[.gst JT],_,v1,?_⟩
  cases a7 with
  |true=>
   conv=>whnf
   exact⟨lr rfl,leG⟩
  |false=>
   obtain⟨a,b,ha,hb,c1,c2⟩:=hcmp rfl
   have c1:Fn 43 [] [.agg [.int .i64 n,.int .i64 q],.agg [.bool a1,.sl .u32 a2,.int .i64 a3]] (.tup [.int .i64 a,.int .i64 0]) []:=c1
   have c2:Fn 43 [] [.agg [.int .i64 n,.int .i64 q],.agg [.bool a4,.sl .u32 a5,.int .i64 a6]] (.tup [.int .i64 b,.int .i64 0]) []:=c2
   conv=>whnf
   refine⟨[],_,c1,?_⟩
   conv=>whnf
   refine⟨[],_,c2,?_⟩
   conv=>whnf
   refine brI (fun k2=>?_) (fun k2=>?_)
   rotate_left
   ·have k2:=of_decide_eq_false k2
    omega
   conv=>whnf
   exact⟨ab0 (decide_eq_true hb),leG⟩
end Go.Proofs.YtajnlbbgolmklaaGreatDoor
