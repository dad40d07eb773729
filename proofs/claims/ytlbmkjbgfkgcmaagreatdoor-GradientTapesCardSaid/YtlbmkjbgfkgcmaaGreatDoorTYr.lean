/- Dyadic numbers by natural numbers: plain functions and laws. -/
import Derived.Test.YtlbmkjbgfkgcmaaGreatDoorTYk
import Derived.Test.YtlbmkjbgfkgcmaaGreatDoorTYq
set_option linter.all false
open Bool renaming and_eq_true->q1,false_or->qC,not_eq_true'->qH,eq_iff_iff->qJ
open Int renaming toNat_natCast->qA,ofNat_tmod->qK
open Nat renaming two_pow_pos->q2,mul_comm->q3,mul_assoc->q4,div_eq_of_lt->qB,pow_succ->qD,eq_of_mul_eq_mul_left->qE,pow_add->qF,div_le_self->qG,mul_ne_zero->qI,one_mul->qL
open Go.IntKind renaming i64->qM
namespace Go.Proofs.YtlbmkjbgfkgcmaaGreatDoor
open Go Go.Sx
def tzF:Nat->Nat->Nat
 |0,_=>0
 |f+1,n=>if n % 2=1 then 0 else tzF f (n/2)+1
def tz(n:Nat):Nat:=tzF (bl n) n
theorem zn4:∀(f n:Nat),n≠0->n<2^f->∃m,n=2^tzF f n*m/\m % 2=1
 |0,n,h0,h=>by simp at h;omega
 |f+1,n,h0,h=>by
  simp only[tzF];split
  .rename_i h1;exact⟨n,OC,h1⟩
  .rename_i h1;obtain⟨m,hm,hm1⟩:=zn4 f (n/2) O (by rw[qD]at h;omega);refine⟨m,?_,hm1⟩;rw[qD,q4,q3 2 m,<-q4,<-hm];omega
theorem kq{n:Nat}(h:n≠0):∃m,n=2^tz n*m/\m % 2=1:=zn4 _ n h (zaq n)
theorem zrc{s t m k:Nat}(h:2^s*m=2^t*k)(hm:m % 2=1)(hk:k % 2=1):s=t/\m=k:=by
 have aux:∀ {s t m k:Nat},2^s*m=2^t*k->m % 2=1->¬s<t:=by
  intro s t m k h hm hlt;obtain⟨d,rfl⟩:∃d,t=s+(d+1):=⟨t-s-1,O⟩;rw[qF,q4]at h;have:=qE (q2 s) h;rw[qD,q3 (2^d),q4]at this;omega
 have h1:=aux h hm;have h2:=aux h.symm hk;have e:s=t:=O;subst e;exact⟨rfl,qE (q2 s) h⟩
theorem zgc{n t m:Nat}(h:n=2^t*m)(hm:m % 2=1):tz n=t:=by
 have h0:n≠0:=by
  subst h;have:=q2 t;exact qI O O
 obtain⟨k,hk,hk1⟩:=kq h0;exact(zrc (hk.symm.trans h) hk1 hm).1
theorem zx4{n:Nat}(h:n % 2=1):tz n=0:=zgc (t:=0) OC h
theorem zx5{n:Nat}(k:Nat)(h:n≠0):tz (n*2^k)=tz n+k:=by
 obtain⟨m,hm,hm1⟩:=kq h;refine zgc (m:=m) ?_ hm1;rw[qF,Nat.mul_right_comm,<-hm]
theorem zyn:∀(l:List Int)(n:Int),LB l->val l≠0->lwL l n=n+(tz (val l):Nat)
 | [],_,_,h=>absurd rfl h
 |x::l,n,hb,h=>by
  have hx:=hb x List.mem_cons_self;have hl:LB l:=fun y hy=>hb y (List.mem_cons_of_mem _ hy)
  simp only[lwL];split
  .rename_i h0;subst h0;have hv:val ((0:Int)::l)=val l*2^32:=by rw[qg];simp[q3]
   have h1:val l≠0:=fun e=>h (by rw[hv,e])
   rw[zyn l _ hl h1,hv,zx5 _ h1,Int.natCast_add];omega
  .rename_i h0;obtain⟨m,hm,hk⟩:=Lib.ctzFrom_spec 32 x.toNat O O;have e:Lib.ctz 32 x.toNat=Lib.ctzFrom 32 x.toNat:=by unfold Lib.ctz;rw[Z7 O]
   rw[e]
   congr 2
   symm;generalize Lib.ctzFrom 32 x.toNat=c at hm hk;refine zgc (m:=2*m+1+2^(32-c)*val l) ?_ ?_
   .rw[qg,Nat.mul_add,<-hm,<-q4,<-qF,(O:c+(32-c)=32)]
   .obtain⟨d,hd⟩:∃d,32-c=d+1:=⟨31-c,O⟩;rw[hd,qD,q3 (2^d),q4];omega
def cnN(neg:Bool)(n:Nat)(e:Int):Dy:=if n=0 then d0 else⟨neg,toL (n/2^tz n),e+tz n⟩
theorem wv{n:Nat}:(toL n).length =0<->n=0:=by
 constructor
 .intro h;have:=congrArg val (List.length_eq_zero_iff.1 h);rw[zg]at this;exact this
 .intro h;subst h;rfl
theorem zui(neg:Bool){l:List Int}(e:Int)(hb:LB l)(hl:bl (val l)<=8192):cnD neg l e=cnN neg (val l) e:=by
 unfold cnD cnN;rw[yk hb];by_cases h:val l=0
 .rw[Z6 (wv.2 h),Z6 h]
 .rw[Z7 fun c=>h (wv.1 c),Z7 h,zyn _ _ (zk _) (by rw[zg];exact h),zg,Int.zero_add];obtain⟨m,hm,hm1⟩:=kq h;have ht:tz (val l)<=bl (val l):=by
   have h1:2^tz (val l)<=val l:=by
    conv=>rhs;rw[hm]
    exact Nat.le_mul_of_pos_right _ O
   have:=(xd (k:=tz (val l)) h).2 h1;omega
  have hd:bl (val l/2^tz (val l))<=8192:=by
   have:val l/2^tz (val l)<=val l:=qG _ _;have h2:bl (val l/2^tz (val l))<=bl (val l):=vr.2 (Nat.lt_of_le_of_lt this (zaq _));omega
  rw[zod,Z7 O,Z7 O,qA];unfold dnN;rw[Z7 O]
theorem zuh(neg:Bool)(n k:Nat)(e:Int):cnN neg (n*2^k) e=cnN neg n (e+k):=by
 unfold cnN;by_cases h:n=0
 .subst h;simp
 .have h2:n*2^k≠0:=qI h (by have:=q2 k;omega);rw[Z7 h,Z7 h2,zx5 k h,qF,q3 (2^tz n),<-Nat.div_div_eq_div_mul,Nat.mul_div_cancel _ (q2 k)]
  congr 1;omega
def nm(d:Dy):Nat:=val d.m
structure VD(d:Dy):Prop where
 eq:d.m=toL (nm d)
 ok:(nm d=0/\d.neg=false/\d.e=0)\/(nm d % 2=1/\bl (nm d)<=4096/\ -16384<=d.e/\d.e<=16384/\(bl (nm d):Int)+d.e<=16384)
theorem VD.lb{d:Dy}(h:VD d):LB d.m:=by rw[h.eq];exact zk _
theorem VD.bits{d:Dy}(h:VD d):bl (nm d)<=4096:=by
 rcases h.ok with ⟨h0,_⟩|⟨_,h1,_⟩
 .rw[h0];decide
 .exact h1
theorem VD.len{d:Dy}(h:VD d):d.m.length<=128:=by
 rw[h.eq,zu];exact h.bits
theorem VD.exp{d:Dy}(h:VD d): -16384<=d.e/\d.e<=16384/\(bl (nm d):Int)+d.e<=16384:=by
 rcases h.ok with ⟨h0,_,h2⟩|⟨_,_,h⟩
 .rw[h0,h2];decide
 .exact h
theorem VD.canon{d:Dy}(h:VD d):d=cnN d.neg (nm d) d.e:=by
 obtain⟨neg,m,e⟩:=d;have he:=h.eq;rcases h.ok with ⟨h0,h1,h2⟩|⟨h1,_⟩
 .simp only at h1 h2 he;unfold cnN;rw[Z6 h0];rw[h0]at he;rw[he,h1,h2];rfl
 .unfold cnN;rw[Z7 O,zx4 h1,Nat.pow_zero,Nat.div_one,<-he];simp
theorem qv:VD d0:=⟨rfl,.inl ⟨rfl,rfl,rfl⟩⟩
theorem zld(neg:Bool)(n:Nat)(e:Int):nm (cnN neg n e)=n/2^tz n:=by
 unfold cnN;split
 .rename_i h;subst h;simp[nm,d0,val]
 .exact zg _
theorem zdh{n:Nat}(h:n≠0):∃m,n=m*2^tz n/\m % 2=1/\n/2^tz n=m/\bl n=bl m+tz n:=by
 obtain⟨m,hm,hm1⟩:=kq h;refine⟨m,by rw[q3];exact hm,hm1,?_,?_⟩
 .conv=>lhs;arg 1;rw[hm]
  exact Nat.mul_div_cancel_left _ (q2 _)
 .conv=>lhs;rw[hm,q3]
  exact zq m _ O
def irN(n:Nat)(e:Int):Bool:=decide (n=0)||(decide (bl n-tz n<=4096)&&decide (-16384<=e+tz n)&&decide (e+tz n<=16384)&&decide ((bl n:Int)+e<=16384))
theorem ztp(neg:Bool)(n:Nat)(e:Int):irB (cnN neg n e)=irN n e:=by
 by_cases h:n=0
 .subst h;rfl
 .obtain⟨m,hm,hm1,hm2,hm3⟩:=zdh h;unfold irB irN cnN;rw[Z7 h];simp only;rw[zho (zk _),zg,hm2];have hb:bl m≠0:=fun e=>by have:=kj.1 e;omega
  rw[Z9 O,Z9 h,qC,qC,qJ];simp only[q1,Z4];omega
theorem zhs{neg:Bool}{n:Nat}{e:Int}(h:irN n e=true):VD (cnN neg n e):=by
 by_cases h0:n=0
 .subst h0;exact qv
 .obtain⟨m,hm,hm1,hm2,hm3⟩:=zdh h0;unfold irN at h;rw[Z9 h0,qC]at h;simp only[q1,Z4]at h;have hc:cnN neg n e=⟨neg,toL m,e+tz n⟩:=by unfold cnN;rw[Z7 h0,hm2]
  have hn:nm (cnN neg n e)=m:=by rw[zld,hm2]
  refine⟨by rw[hn,hc],.inr ?_⟩;rw[hn,hc];simp only;omega
def ckN(neg:Bool)(n:Nat)(e:Int):Dy×Int:=if irN n e=true then(cnN neg n e,0)else(d0,9)
theorem zuk(neg:Bool)(n:Nat)(e:Int):ckD (cnN neg n e)=ckN neg n e:=by unfold ckD ckN;rw[ztp]
theorem qa2{n:Nat}(h:n≠0):(toL n).getLast?.getD 0≠0:=by
 have hl:=zd8 n
 cases hg:(toL n).getLast? with
 |none=>exact absurd (wv.1 (by rw[List.getLast?_eq_none_iff.1 hg];rfl)) h
 |some x=>
  rw[hg]at hl;simp only at hl;rw[Option.getD_some];intro e;subst e;have h1:Lib.bitLen (0:Int).toNat =0:=OA;rw[h1]at hl;have h2:=(zu n ((toL n).length -1));have h3:0<(toL n).length :=by have:=fun c=>h (wv.1 c);omega
  have:¬bl n<=32*((toL n).length -1):=fun hc=>by have:=h2.2 hc;omega
  omega
theorem zpc{n:Nat}(h:n≠0):(toL n)[0]?.getD 0=((n % 4294967296:Nat):Int):=by rw[uj h];rfl
theorem zn8:∀ {l:List Int},LB l->l.getLast?.getD 0≠0->l=toL (val l)
 |l,hb,h=>by
  rw[<-yk hb];unfold trL;have hl:0<l.length:=by
   cases l with
   |nil=>simp at h
   |cons _ _=>simp
  have:trN l l.length=l.length:=by
   obtain⟨k,hk⟩:∃k,l.length=k+1:=⟨l.length-1,O⟩;rw[hk];simp only[trN];rw[Z7];rw[List.getLast?_eq_getElem?,hk]at h;exact h
  rw[this,List.take_length]
theorem jc{d:Dy}(hb:LB d.m):vB d=true<->VD d:=by
 obtain⟨neg,m,e⟩:=d;simp only at hb;constructor
 .intro h;unfold vB at h;simp only at h;split at h
  .rename_i h0;rw[List.length_eq_zero_iff]at h0;subst h0;simp only[q1,qH,Z4]at h;obtain⟨rfl,rfl⟩:=h;exact qv
  .rename_i h0;simp only[q1,Z4]at h;obtain⟨⟨⟨h1,h2⟩,h3⟩,h4⟩:=h;have he:=zn8 hb h3;refine⟨he,.inr ?_⟩;show val m % 2=1/\bl (val m)<=4096/\ -16384<=e/\e<=16384/\(bl (val m):Int)+e<=16384;have hv:val m≠0:=fun c=>h0 (by rw[he,c];rfl)
   unfold irB at h4;simp only at h4;rw[zho hb]at h4;have hbz:bl (val m)≠0:=fun c=>hv (kj.1 c)
   rw[Z9 O,qC]at h4;simp only[q1,Z4]at h4;rw[he,zpc hv]at h2;have h2:((val m % 4294967296 % 2:Nat):Int)=1:=by rw[<-h2];exact(qK _ 2).symm
   omega
 .intro h;have he:=h.eq;unfold vB;simp only at he⊢;rcases h.ok with ⟨h0,h1,h2⟩|⟨h1,h2,h3,h4,h5⟩
  .simp only at h1 h2;rw[h0]at he;subst h1 h2;rw[he];rfl
  .have he:m=toL (val m):=he;have h1:val m % 2=1:=h1;have h2:bl (val m)<=4096:=h2;have h5:(bl (val m):Int)+e<=16384:=h5;simp only at h3 h4;have hv:val m≠0:=O;rw[Z7 (by rw[he];exact fun c=>hv (wv.1 c))];simp only[q1,Z4];refine⟨⟨⟨?_,?_⟩,?_⟩,?_⟩
   .rw[he,zu];omega
   .rw[he,zpc hv];show((val m % 4294967296:Nat):Int).tmod ((2:Nat):Int)=1;rw[<-qK];omega
   .rw[he];exact qa2 hv
   .unfold irB;simp only;rw[zho hb];simp only[Bool.or_eq_true,q1,Z4];omega
set_option maxRecDepth 100000
set_option maxHeartbeats 8000000
theorem VD.cases{P:Dy->Prop}{d:Dy}(h:VD d)(h0:P d0)(h1:∀neg n e,VD ⟨neg,toL n,e⟩->n % 2=1->bl n<=4096-> -16384<=e->e<=16384->(bl n:Int)+e<=16384->P ⟨neg,toL n,e⟩):P d:=by
 obtain⟨neg,m,e⟩:=d;have he:=h.eq;rcases h.ok with ⟨a,b,c⟩|⟨a,b,c,d,f⟩
 .simp only at b c he;rw[a]at he;subst b c he;exact h0
 .simp only at c d f he;generalize nm ⟨neg,m,e⟩=n at*;subst he;exact h1 neg n e h a b c d f
theorem yr(neg:Bool)(n:Nat)(e:Int):nm ⟨neg,toL n,e⟩=n:=zg n
theorem zs4:nm d0=0:=rfl
theorem zgf{n:Nat}(h:n % 2=1):(((toL n).length :Int)==0)=false:=by
 rw[beq_eq_false_iff_ne];intro c;have:=wv.1 (show(toL n).length =0 by omega);omega
theorem v80{d:Dy}(h:VD d):Fn 49 [] [.agg (dyC d)] (.bool true) []:=by
 have:=y80 d h.lb (by have:=h.len;omega)
 rwa [(jc h.lb).2 h]at this
theorem v122(neg:Bool)(l:List Int)(e:Int)(hb:LB l)(hl:l.length<=100000)(hn:bl (val l)<=8192)(he: -1000000000<=e/\e<=1000000000):Fn 173 G0 [.bool neg,.sl .u32 l,.int .i64 e] (.agg (dyC (cnN neg (val l) e))) G0:=by
 have:=y122 neg l e hb hl he
 rwa [zui neg e hb hn]at this
def mkN(neg:Bool)(n:Nat)(e:Int):Dy×Int:=if 8192<bl n\/exB e=false then(d0,1)else ckN neg n e
theorem v265(neg:Bool)(n:Nat)(e:Int)(hl:bl n<=100000)(he: -1000000000<=e/\e<=1000000000):Fn 300 G0 [.bool neg,.sl .u32 (toL n),.int .i64 e] (dyV (mkN neg n e)) G0:=by
 have:=y265 neg (toL n) e (zk n) ((zu n 100000).2 O) he;have e2:mkD neg (toL n) e=mkN neg n e:=by
  unfold mkD mkN;have h1:=zfi n;by_cases h:8192<bl n\/exB e=false
  .rw[Z6 h,Z6 (h.imp h1.2 id)]
  .rw[Z7 h,Z7 fun c=>h (c.imp h1.1 id),zui neg e (zk n) (by rw[zg];omega),zg,zuk]
 rwa [e2]at this
theorem zzq{d:Dy}(h:VD d):Fn 175 [] [.agg (dyC d)] (.agg (dyC (if nm d=0 then d0 else⟨!d.neg,d.m,d.e⟩))) []:=by
 have:=y135 d h.lb (by have:=h.len;omega);unfold ngD at this;rw[(jc h.lb).2 h]at this;by_cases h0:nm d=0
 .rw[Z6 h0]
  rwa [Z6 (.inr (by rw[h.eq];exact wv.2 h0))]at this
 .rw[Z7 h0]
  rwa [Z7 (by rw[h.eq];simp;exact fun c=>h0 (wv.1 (by rw[c];rfl)))]at this
def jp(d:Dy):Dy:=if nm d=0 then d0 else⟨!d.neg,d.m,d.e⟩
def qs(d:Dy):Int:=if nm d=0 then 0 else if d.neg=true then-1 else 1
theorem zq9{d:Dy}(h:VD d):Fn 92 [] [.agg (dyC d)] (.int .i64 (qs d)) []:=by
 have:=y124 d h.lb (by have:=h.len;omega);have e:sgD d=qs d:=by
  unfold sgD qs;rw[(jc h.lb).2 h];by_cases h0:nm d=0
  .rw[Z6 h0,Z6 (.inr (by rw[h.eq];exact wv.2 h0))]
  .rw[Z7 h0,Z7 (by rw[h.eq];simp;exact fun c=>h0 (wv.1 (by rw[c];rfl)))]
 rwa [e]at this
def zn(d:Dy):Int:=if nm d=0 then 0 else bl (nm d)+d.e
theorem v175(n:Nat)(h:bl n<=100000):Fn 161 [] [.sl .u32 (toL n)] (.int .i64 (bl n)) []:=by
 have:=y175 (toL n) (zk n) ((zu n 1000000).2 O)
 rwa [zho (zk n),zg]at this
theorem qcm(n:Nat)(h:bl n<=100000):Fn 215 [] [.sl .u32 (toL n)] (.int .i64 (bl n)) []:=by
 have:=y169 (toL n) (zk n) ((zu n 1000000).2 O)
 rwa [zho (zk n),zg]at this
theorem zn0{d:Dy}(h:VD d):Fn 167 [] [.agg (dyC d)] (.int .i64 (zn d)) []:=by
 refine VD.cases (P:=fun d=>Fn 167 [] [.agg (dyC d)] (.int .i64 (zn d)) []) h ?_ ?_
 .refine fY4 Tryz.func167 rfl ?_;refine gYn (v80 qv) ?_;exact⟨lr rfl,lh0⟩
 .intro neg n e hv h1 h2 h3 h4 h5;have ht:zn ⟨neg,toL n,e⟩=bl n+e:=by unfold zn;rw[yr,Z7 O]
  rw[ht];have h80:Fn 49 [] [.agg [.bool neg,.sl .u32 (toL n),.int .i64 e]] (.bool true) []:=v80 hv;have h175:=v175 n O;have hne:=zgf h1;show Fn 167 [] [.agg [.bool neg,.sl .u32 (toL n),.int .i64 e]] _ [];refine fY4 Tryz.func167 rfl ?_;refine gYn h80 ?_;refine brI (fun h6=>?_) (fun h6=>?_)
  .have h6:(((toL n).length :Int)==0)=true:=h6;rw[hne]at h6;cases h6
  conv=>whnf
  refine gYn h175 ?_;refine gYd ?_;exact⟨ai0 (by rw[wI O]),lh0⟩
theorem v165{d:Dy}(h:VD d):Fn 228 [] [.agg (dyC d)] (.int .i64 (bl (nm d))) []:=by
 have h80:=v80 h;have hb:=h.bits;have h175:=v175 (nm d) O;have he:=h.eq;generalize nm d=n at*;obtain⟨neg,m,e⟩:=d;simp only at he;subst he;refine fY4 Tryz.func228 rfl ?_;refine gYn h80 ?_;refine gYn h175 ?_;exact⟨lr rfl,lh0⟩
def yq(d:Dy):Dy:=⟨false,d.m,d.e⟩
theorem qdf{d:Dy}(h:VD d):Fn 236 [] [.agg (dyC d)] (.agg (dyC (yq d))) []:=by
 refine VD.cases (P:=fun d=>Fn 236 [] [.agg (dyC d)] (.agg (dyC (yq d))) []) h ?_ ?_
 .refine fY4 Tryz.func236 rfl ?_;refine gYn (v80 qv) ?_;exact⟨zyq,lh0⟩
 .intro neg n e hv h1 h2 h3 h4 h5;have h80:Fn 49 [] [.agg [.bool neg,.sl .u32 (toL n),.int .i64 e]] (.bool true) []:=v80 hv;have h174:=y174 (toL n) ((zu n 1000000).2 O);have hne:=zgf h1;refine fY4 Tryz.func236 rfl ?_;refine gYn h80 ?_;refine brI (fun h6=>?_) (fun h6=>?_)
  .have h6:(((toL n).length :Int)==0)=true:=h6;rw[hne]at h6;cases h6
  conv=>whnf
  refine gYn h174 ?_;refine gYd ?_;exact⟨lr rfl,lh0⟩
theorem v178(n k:Nat)(hn:bl n<=8192)(hk:bl (n*2^k)<=8192)(hk2:k<=65536):Fn 169 [] [.sl .u32 (toL n),.int .i64 k] (.sl .u32 (toL (n*2^k))) []:=by
 have h218:=y218 (toL n) k (zk n) ((zu n 100000).2 O);rw[zjm,Z7 O,Z7 O,qA]at h218;unfold dnN at h218;rw[Z7 O]at h218;refine fY4 Tryz.func169 rfl ?_;refine gYn h218 ?_;exact⟨lr rfl,lh0⟩
theorem qcn(n k:Nat)(hn:bl n<=8192)(hk:bl (n*2^k)<=8192)(hk2:k<=65536):Fn 230 [] [.sl .u32 (toL n),.int .i64 k] (.sl .u32 (toL (n*2^k))) []:=by
 have h:=y167 (toL n) k (zk n) ((zu n 100000).2 O);rw[zjm,Z7 O,Z7 O,qA]at h;unfold dnN at h;rw[Z7 O]at h;exact h
theorem qdh{K:Int}(n k:Nat)(e:K=k)(hn:bl n<=8192)(hk:bl (n*2^k)<=8192)(hk2:k<=65536):Fn 230 [] [.sl .u32 (toL n),.int .i64 K] (.sl .u32 (toL (n*2^k))) []:=by subst e;exact qcn n k hn hk hk2
theorem v172(n k:Nat)(hn:bl n<=8192)(hk2:k<=65536):Fn 224 [] [.sl .u32 (toL n),.int .i64 k] (dnV (toL (n/2^k),0)) []:=by
 have h:=y172 (toL n) k (zk n) ((zu n 100000).2 O);rw[zod,Z7 O,Z7 O,qA]at h;unfold dnN at h;have:bl (n/2^k)<=bl n:=zz (qG _ _);rw[Z7 O]at h;exact h
theorem qdg(x y:Nat)(hx:bl x<=100000)(hy:bl y<=100000):Fn 168 [] [.sl .u32 (toL x),.sl .u32 (toL y)] (.int .i64 (kd x y)) []:=by
 have h:=qc9 (toL x) (toL y) ((zu x 1000000).2 O) ((zu y 1000000).2 O)
 rwa [zcs]at h
theorem zjt(x y:Nat):(kd x y != 0)=decide (x≠y):=by
 unfold kd;split
 .rw[Z8 O];rfl
 .split
  .rw[Z8 O];rfl
  .rw[Z9 O];rfl
theorem v262{K:Int}(m k:Nat)(e:K=k)(hm:bl m<=8192)(hk:k<=1000000):Fn 268 [] [.sl .u32 (toL m),.int .i64 K] (.tup [.sl .u32 (toL (m/2^k)),.bool (decide (m % 2^k≠0))]) []:=by
 subst e;have h169:=qcm m O;have key:∀n:Nat,n<=8192->m/2^n=m/2^k->(m/2^n*2^n≠m<->m % 2^k≠0)->
  Fn 224 [] [.sl .u32 (toL m),.int .i64 n] (dnV (toL (m/2^k),0)) []/\Fn 230 [] [.sl .u32 (toL (m/2^k)),.int .i64 n] (.sl .u32 (toL (m/2^k*2^n))) []/\
  Fn 168 [] [.sl .u32 (toL (m/2^k*2^n)),.sl .u32 (toL m)] (.int .i64 (kd (m/2^k*2^n) m)) []/\(kd (m/2^k*2^n) m != 0)=decide (m % 2^k≠0):=by
  intro n hn h1 h2;have hle:m/2^n*2^n<=m:=Nat.div_mul_le_self _ _;have hb:=zz hle;have hb2:=zz (qG m (2^n));have h3:=v172 m n hm O;rw[<-h1];refine⟨h3,qcn _ n O O O,qdg _ _ O O,?_⟩;rw[zjt,qJ];simp only[Z4];exact h2
 by_cases hk1:bl m<k
 .have hlt:m<2^bl m:=zaq m;have hlt2:m<2^k:=Nat.lt_of_lt_of_le hlt (Nat.pow_le_pow_right OA O);obtain⟨k1,k2,k3,k4⟩:=key (bl m) hm (by rw[qB hlt,qB hlt2]) (by rw[qB hlt,Nat.mod_eq_of_lt hlt2];omega);refine fY4 Tryz.func268 rfl ?_;refine gYn h169 ?_;refine brI (fun h1=>?_) (fun h1=>?_)
  rotate_left
  .have h1:=Z3 h1;omega
  conv=>whnf
  refine gYn h169 ?_;refine gYn k1 ?_;refine gYn k2 ?_;refine gYn k3 ?_;exact⟨lt0 (lc (lr rfl) (lc (ab0 k4) ln0)),lh0⟩
 .obtain⟨k1,k2,k3,k4⟩:=key k O rfl (by
   have h1:=Nat.div_add_mod' m (2^k);omega)
  refine fY4 Tryz.func268 rfl ?_;refine gYn h169 ?_;refine brI (fun h1=>?_) (fun h1=>?_)
  .have h1:=Z0 h1;omega
  conv=>whnf
  refine gYn k1 ?_;refine gYn k2 ?_;refine gYn k3 ?_;exact⟨lt0 (lc (lr rfl) (lc (ab0 k4) ln0)),lh0⟩
def wz(m:Nat)(e:Int)(more:Bool)(u:Int):Nat×Bool:=
 if u<=e then(m*2^(e-u).toNat,more)else(m/2^(u-e).toNat,more||decide (m % 2^(u-e).toNat ≠0))
def upN(f:Nat×Bool)(up:Bool):Nat:=if up&&f.2 then f.1+1 else f.1
def unN(m:Nat)(e p:Int):Int:=max (e+bl m-p) (-16384)
def za8(m:Nat)(e:Int)(more:Bool)(p:Nat)(up:Bool):Dy×Int:=
 if 16384<(bl (upN (wz m e more (unN m e p)) up):Int)+unN m e p then(if up then(d0,9)else(cnN false (2^p-1) (16384-p),0))
 else(cnN false (upN (wz m e more (unN m e p)) up) (unN m e p),0)
theorem zbz(n:Nat):bl (n+1)<=bl n+1:=by
 refine vr.2 ?_;have:=zaq n;rw[qD];omega
theorem zkf(m:Nat)(e:Int)(more:Bool)(p:Nat):bl (wz m e more (unN m e p)).1<=p:=by
 unfold wz unN;by_cases h0:m=0
 .subst h0;split
  .simp[qx]
  .simp[qx]
 split
 .rename_i h;simp only;rw[zq m _ h0];omega
 .rename_i h;simp only;by_cases h1:2^(max (e+bl m-p) (-16384)-e).toNat <=m
  .rw[xg m _ h1];omega
  .rw[qB O];simp[qx]
theorem zn3{n:Nat}(h:n≠0):tz n<bl n:=by
 obtain⟨m,hm,hm1,_,hb⟩:=zdh h;have:bl m≠0:=fun e=>by have:=kj.1 e;omega
 omega
theorem zo9{n:Nat}{e:Int}(h1:bl n<=4096)(h2: -16384<=e)(h3:(bl n:Int)+e<=16384):irN n e=true:=by
 unfold irN;by_cases h0:n=0
 .rw[Z8 h0];rfl
 .have:=zn3 h0;rw[Z9 h0,qC];simp only[q1,Z4];omega
theorem qek{n:Nat}{e:Int}{neg:Bool}(h1:bl n<=4096)(h2: -16384<=e)(h3:(bl n:Int)+e<=16384)(h4:e<=32768):mkN neg n e=(cnN neg n e,0):=by
 unfold mkN ckN;rw[Z7,Z6 (zo9 h1 h2 h3)];unfold exB;rw[Z8 (show-32768<=e by omega),Z8 h4];simp;omega
theorem zjz:toL 1= [1]:=rfl
theorem qb5(p:Nat):bl (1*2^p)=p+1:=by rw[zq 1 p OA];show 1+p=p+1;omega
theorem zi8(p:Nat)(hp:0<p):bl (2^p-1)<=p:=vr.2 (by have:=q2 p;omega)
abbrev xcC(m:Nat)(e:Int)(more:Bool):List AV:= [.sl .u32 (toL m),.int .i64 e,.bool more]
noncomputable def qb4:Code:=Tryz.f271.body.getD .skip
theorem qdd{E:Int}(neg:Bool)(n:Nat)(e:Int)(hE:E=e)(h1:bl n<=4096)(h2: -16384<=e)(h3:(bl n:Int)+e<=16384)(h4:e<=32768):Fn 300 G0 [.bool neg,.sl .u32 (toL n),.int .i64 E] (dyV (cnN neg n e,0)) G0:=by
 subst hE;have h:=v265 neg n E O O
 rwa [qek h1 h2 h3 h4]at h
theorem v219(m:Nat)(e:Int)(more up:Bool)(p:Nat)(hm:bl m<=8192)(he: -100000<=e/\e<=100000)(hp:8<=p/\p<=512):Fn 271 G0 [.agg (xcC m e more),.int .i64 p,.bool up] (dyV (za8 m e more p up)) G0:=by
 have h169:=qcm m O;have hfb:=zkf m e more p;unfold za8;obtain⟨u,hu⟩:∃u,unN m e p=u:=⟨_,rfl⟩;have hu1: -16384<=u:=by rw[<-hu];unfold unN;omega
 have hu2:e+bl m-p<=u:=by rw[<-hu];unfold unN;omega
 have hu3:u=e+bl m-p\/u= -16384:=by rw[<-hu];unfold unN;omega
 have hmax:(if-16384>qM.wrap (qM.wrap (e+((bl m:Nat):Int))-(p:Int))then-16384 else qM.wrap (qM.wrap (e+((bl m:Nat):Int))-(p:Int)))=u:=by
  rw[wI (x:=e+((bl m:Nat):Int)) O,wI O,<-hu];unfold unN;split<;>omega
 rw[hu]at hfb⊢;obtain⟨F,hF⟩:∃F,wz m e more u=F:=⟨_,rfl⟩;rw[hF]at hfb⊢;refine qr (code:=qb4) hT4 hmx Tryz.func271 rfl rfl (ex:= []) ?_;conv=>whnf
 refine jm hT4 hmx 5 (fun q: {q:Nat//q=upN F up}=>⟨[.any,.int .i64 p,.bool up,.any,.any,.any,.ptr 6 0,.int .i64 0,.int .i64 u,.sl .u32 (toL q.1)]++uo 74,[(3,.dead),(6,.cells [.bool false,.nilsl,.int .i64 0]),(qi,.gst JT)]⟩) (fun _=>Z) ?_ (fun q=>?_)
 .conv=>whnf
  refine gYn h169 ?_;refine gYd ?_;refine gYd ?_;rw[hmax];have hw:u<=e->qM.wrap (e-u)=(((e-u).toNat :Nat):Int):=fun h=>by rw[wI O];omega
  have hw2:¬u<=e->qM.wrap (u-e)=(((u-e).toNat :Nat):Int):=fun h=>by rw[wI O];omega
  have hF0:u<=e->F=(m*2^(e-u).toNat,more):=fun h=>by rw[<-hF];unfold wz;rw[Z6 h]
  have hF1:¬u<=e->F=(m/2^(u-e).toNat,more||decide (m % 2^(u-e).toNat ≠0)):=fun h=>by rw[<-hF];unfold wz;rw[Z7 h]
  have h263:∀x,bl x<=512->Fn 269 [] [.sl .u32 (toL x),.sl .u32 [1]] (dnV (toL (x+1),0)) []:=fun x hx=>by
   have h:=y263 x 1 O OA;have:=zbz x;have b1:bl 1=1:=rfl;rw[Z7 O,zjz]at h;unfold dnN at h
   rwa [Z7 O]at h
  refine brI (fun h1=>?_) (fun h1=>?_)
  .have h1:u<=e:=Z0 h1;have hF0:=hF0 h1;subst hF0;simp only at hfb;conv=>whnf
   refine gYn (qdh m (e-u).toNat (hw h1) hm O O) ?_
   cases up with
   |false=>
    conv=>whnf
    refine⟨⟨m*2^(e-u).toNat,rfl⟩,?_⟩;exact KZ0
   |true=>
    cases more with
    |false=>
     conv=>whnf
     refine⟨⟨m*2^(e-u).toNat,rfl⟩,?_⟩;exact KZ0
    |true=>
     conv=>whnf
     refine gYn (h263 _ O) ?_;refine⟨⟨m*2^(e-u).toNat +1,rfl⟩,?_⟩;exact KZ0
  .have h1:¬u<=e:=Z3 h1;have hF1:=hF1 h1;subst hF1;simp only at hfb;conv=>whnf
   refine gYn (v262 m (u-e).toNat (hw2 h1) hm O) ?_;generalize m/2^(u-e).toNat =q0 at*;generalize decide (m % 2^(u-e).toNat ≠0)=l0 at*
   cases up with
   |false=>
    cases more with
    |false=>
     conv=>whnf
     refine⟨⟨q0,rfl⟩,?_⟩;exact KZ0
    |true=>
     conv=>whnf
     refine⟨⟨q0,rfl⟩,?_⟩;exact KZ0
   |true=>
    cases more with
    |false=>
     cases l0 with
     |false=>
      conv=>whnf
      refine⟨⟨q0,rfl⟩,?_⟩;exact KZ0
     |true=>
      conv=>whnf
      refine gYn (h263 _ O) ?_;refine⟨⟨q0+1,rfl⟩,?_⟩;exact KZ0
    |true=>
     conv=>whnf
     refine gYn (h263 _ O) ?_;refine⟨⟨q0+1,rfl⟩,?_⟩;exact KZ0
 .obtain⟨q,rfl⟩:=q;have hq:bl (upN F up)<=513:=by
   unfold upN;split
   .have:=zbz F.1;omega
   .omega
  generalize upN F up=q at*;have h169q:=qcm q O;have hw:qM.wrap (((bl q:Nat):Int)+u)=(bl q:Int)+u:=wI O;refine ww hT4 hmx ?_;conv=>whnf
  refine gYn h169q ?_;rw[hw];refine brI (fun h1=>?_) (fun h1=>?_)
  .have h1:16384<(bl q:Int)+u:=Z0 h1;rw[Z6 h1];conv=>whnf
   cases up with
   |true=>
    rw[Z6 rfl];conv=>whnf
    exact⟨zq5,leG⟩
   |false=>
    rw[Z7 OA];have hb1:=qb5 p;have hb2:=zi8 p;have h264:=y264 (1*2^p) 1 O OA;have b1:bl 1=1:=rfl;have:=q2 p;rw[Z7 O,Z7 O,zjz,qL]at h264;unfold dnN at h264;rw[Z7 O]at h264;have h167:=qdh (K:=(p:Int)) 1 p rfl OA O O;rw[zjz,qL]at h167;conv=>whnf
    refine gYn h167 ?_;refine gYn h264 ?_;refine gYc (qdd false (2^p-1) (16384-p) (wI O) O O O O) ?_;exact⟨lr rfl,leG⟩
  .have h1:¬16384<(bl q:Int)+u:=Z3 h1;rw[Z7 h1];conv=>whnf
   refine gYc (qdd false q u rfl O O O O) ?_;exact⟨lr rfl,leG⟩
def T6:Tab:= {T4 with gl:= [66,67,111,112,113,57,59,58,114,115,116,117,118,119,120,179,173,96,99,101,102,103,182,184,186,187,188,189,190,221,223,170,174,233,234,235,237,239,240,133,241,242,243,244,245,247,248,250,251,252,271,272,219,276,277,97,280,281,283,284,287,289,300,306,307,312,313]}
theorem hT6:TabOK Tryz.prog T6:=zfd Z Z
theorem fY6{f:Nat}{fn:Func}{c:Code}(a:Tryz.prog.funcs[f]?=some fn)(b:fn.body=some c){H H':Hp}{A:List AV}{r:AV}{X:Prop}(k:X)(d:(fn.name == "runtime.NumGoroutine")=false:=by first|rfl)(e:(fnC T6 [] c fn.ntmps H A H' fun Y=>zau T6 (CN Tryz.prog) c true Y (fun Y=>ze3 T6 fn.results.toList [] r H' Y) (fun _ _=>False) (fun Y=>ze3 T6 fn.results.toList [] r H' Y))=X:=by conv=>lhs;whnf):zh8 Tryz.prog f H A r H':=fnT hT6 hmx a b d (e.mpr k)
theorem fZ6{f:Nat}{fn:Func}{c:Code}(a:Tryz.prog.funcs[f]?=some fn)(b:fn.body=some c)(d:(fn.name == "runtime.NumGoroutine")=false){H H':Hp}{A:List AV}{r:AV}(h:fnC T6 [] c fn.ntmps H A H' fun Y=>zau T6 (CN Tryz.prog) c true Y (fun Y=>ze3 T6 fn.results.toList [] r H' Y) (fun _ _=>False) (fun Y=>ze3 T6 fn.results.toList [] r H' Y)):zh8 Tryz.prog f H A r H':=fnT hT6 hmx a b d h
theorem qe7{p:Nat}{l:List Dy}(hp:8<=p/\p<=512)(h:∀d∈l,VD d):ftD p l=0:=by
 unfold ftD;rw[Z7,Z7]
 .unfold pcB;simp;omega
 .simp only[List.any_eq_true,qH,not_exists,not_and,Bool.not_eq_false];intro d hd;exact(jc (h d hd).lb).2 (h d hd)
theorem qdi{p:Nat}{l:List Dy}(hp:8<=p/\p<=512)(hl:l.length<=1000000)(h:∀d∈l,VD d):Fn 218 [] [.int .i64 p,.sl .dy l] (.int .i64 0) []:=by
 have:=y164 p l (fun d hd=>⟨(h d hd).lb,by have:=(h d hd).len;omega⟩) hl
 rwa [qe7 hp h]at this
theorem zra(m:Nat)(e p:Int): -16384<=unN m e p:=by unfold unN;omega
theorem qdj(m:Nat)(e:Int)(more:Bool)(p:Nat)(up:Bool):bl (upN (wz m e more (unN m e p)) up)<=p+1:=by
 have h:=zkf m e more p;generalize wz m e more (unN m e p)=F at*;unfold upN;split
 .have:=zbz F.1;omega
 .omega
theorem znn(m:Nat)(e:Int)(more up:Bool)(p:Nat)(hp:8<=p/\p<=512):VD (za8 m e more p up).1:=by
 have h1:=zra m e p;have h2:=qdj m e more p up;unfold za8;split
 .split
  .exact qv
  .have:=zi8 p O;exact zhs (zo9 O O O)
 .exact zhs (zo9 O h1 O)
def xi(neg:Bool)(m:Nat)(e:Int)(more:Bool)(p:Nat)(up:Bool):Dy×Int:=
 if(za8 m e more p (up != neg)).2=0/\neg=true then(jp (za8 m e more p (up != neg)).1,0)else za8 m e more p (up != neg)
theorem zxh(m:Nat)(e:Int)(more up:Bool)(p:Nat):(za8 m e more p up).2=0\/((za8 m e more p up).2=9/\(za8 m e more p up).1=d0):=by
 unfold za8;split
 .split
  .exact .inr ⟨rfl,rfl⟩
  .exact .inl rfl
 .exact .inl rfl
theorem v168(neg:Bool)(m:Nat)(e:Int)(more up:Bool)(p:Nat)(hm:bl m<=8192)(he: -100000<=e/\e<=100000)(hp:8<=p/\p<=512):Fn 221 G0 [.bool neg,.agg (xcC m e more),.int .i64 p,.bool up] (dyV (xi neg m e more p up)) G0:=by
 have h219:=v219 m e more (up != neg) p hm he hp;have hv:=znn m e more (up != neg) p hp;have herr:=zxh m e more (up != neg) p;unfold xi;generalize za8 m e more p (up != neg)=c at*;obtain⟨d,f⟩:=c;have h135:=zzq hv;have hn:(if nm d=0 then d0 else⟨!d.neg,d.m,d.e⟩)=jp d:=rfl;simp only at h135 herr;rw[hn]at h135;obtain⟨dn,dm,de⟩:=d;generalize jp ⟨dn,dm,de⟩=n at h135;rcases herr with rfl|⟨rfl,hd⟩
 .cases neg with
  |true=>
   rw[Z6 ⟨rfl,rfl⟩];refine fY6 Tryz.func221 rfl ?_;refine gYc h219 ?_;refine gYn h135 ?_;exact⟨lr rfl,leG⟩
  |false=>
   rw[Z7 OC];refine fY6 Tryz.func221 rfl ?_;refine gYc h219 ?_;exact⟨lr rfl,leG⟩
 .rw[Z7 OC];refine fY6 Tryz.func221 rfl ?_;refine gYc h219 ?_;exact⟨lr rfl,leG⟩
theorem v266{d:Dy}(h:VD d):Fn 267 [] [.agg (dyC d)] (.agg (xcC (nm d) d.e false)) []:=by
 have he:=h.eq;generalize nm d=n at*;obtain⟨neg,m,e⟩:=d;simp only at he;subst he;refine fY6 Tryz.func267 rfl ?_;exact⟨lr rfl,lh0⟩
def qm(d:Dy)(p:Nat)(up:Bool):Dy×Int:=xi d.neg (nm d) d.e false p up
theorem v223{d:Dy}(h:VD d)(up:Bool)(p:Nat)(hp:8<=p/\p<=512):Fn 219 G0 [.agg (dyC d),.int .i64 p,.bool up] (dyV (qm d p up)) G0:=by
 have h266:=v266 h;have hb:=h.bits;have hx:=h.exp;have h168:=v168 d.neg (nm d) d.e false up p O O hp;have h164:=qdi (p:=p) (l:= [d]) hp OC (by simpa using h);unfold qm;generalize xi d.neg (nm d) d.e false p up=R at*;generalize nm d=n at*;obtain⟨neg,m,e⟩:=d;obtain⟨⟨r1,r2,r3⟩,r4⟩:=R;simp only at h168 h266;refine fY6 Tryz.func219 rfl ?_;refine gYn h164 ?_;refine gYn h266 ?_;refine gYc h168 ?_;refine gYd ?_;exact⟨lr rfl,leG⟩
theorem v184{d:Dy}(h:VD d)(p:Nat)(hp:8<=p/\p<=512):Fn 234 G0 [.agg (dyC d),.int .i64 p] (dyV (qm d p true)) G0:=by
 have h223:=v223 h true p hp;generalize qm d p true=R at*;obtain⟨neg,m,e⟩:=d;obtain⟨⟨r1,r2,r3⟩,r4⟩:=R;refine fY6 Tryz.func234 rfl ?_;refine gYc h223 ?_;exact⟨lr rfl,leG⟩
theorem v185{d:Dy}(h:VD d)(p:Nat)(hp:8<=p/\p<=512):Fn 235 G0 [.agg (dyC d),.int .i64 p] (dyV (qm d p false)) G0:=by
 have h223:=v223 h false p hp;generalize qm d p false=R at*;obtain⟨neg,m,e⟩:=d;obtain⟨⟨r1,r2,r3⟩,r4⟩:=R;refine fY6 Tryz.func235 rfl ?_;refine gYc h223 ?_;exact⟨lr rfl,leG⟩
theorem yi(x y:Nat):bl (x*y)<=bl x+bl y:=by
 refine vr.2 ?_;rw[qF];exact Nat.mul_lt_mul'' (zaq x) (zaq y)
theorem zah(neg:Bool)(e:Int)(p:Nat)(up:Bool)(h:e<=16384+p):xi neg 0 e false p up=(d0,0):=by
 have hc:∀u,za8 0 e false p u=(d0,0):=fun u=>by
  have hf:upN (wz 0 e false (unN 0 e p)) u=0:=by
   unfold wz;split
   .cases u<;>simp[upN]
   .cases u<;>simp[upN]
  unfold za8;rw[hf,Z7]
  .rfl
  .have h1:unN 0 e p=max (e-p) (-16384):=by unfold unN;rw[qx];congr 1;omega
   rw[qx];omega
 unfold xi;rw[hc];split<;>rfl
def ug(a b:Dy)(p:Nat)(up:Bool):Dy×Int:=xi (a.neg != b.neg) (nm a*nm b) (a.e+b.e) false p up
theorem zbn{n:Nat}(h:n≠0):(((toL n).length :Int)==0)=false:=by
 rw[beq_eq_false_iff_ne];intro c;exact h (wv.1 (show(toL n).length =0 by omega))
theorem qde(x y:Nat)(hx:bl x<=4200)(hy:bl y<=4096)(h:bl (x*y)<=8192):Fn 227 [] [.sl .u32 (toL x),.sl .u32 (toL y)] (dnV (toL (x*y),0)) []:=by
 have h225:=y225 (toL x) (toL y) (zk x) (zk y) ((zu x 100000).2 O) ((zu y 100000).2 O);rw[zwm,Z7 O]at h225;unfold dnN at h225
 rwa [Z7 O]at h225
theorem v180{a b:Dy}(ha:VD a)(hb:VD b)(up:Bool)(p:Nat)(hp:8<=p/\p<=512):Fn 174 G0 [.agg (dyC a),.agg (dyC b),.int .i64 p,.bool up] (dyV (ug a b p up)) G0:=by
 have a1:=ha.bits;have b1:=hb.bits;have a2:=ha.exp;have b2:=hb.exp;have h164:=qdi (p:=p) (l:= [a,b]) hp OC (by simpa using⟨ha,hb⟩);have hbl:=yi (nm a) (nm b);have h225:=qde (nm a) (nm b) O O O;have h168:=v168 (a.neg != b.neg) (nm a*nm b) (a.e+b.e) false up p O O hp;have hz:nm a=0\/nm b=0->ug a b p up=(d0,0):=fun h=>by
  unfold ug;have e:nm a*nm b=0:=by rcases h with h|h<;>rw[h]<;>simp
  rw[e];refine zah _ _ _ _ ?_;rcases h with h|h
  .rcases ha.ok with ⟨_,_,h3⟩|⟨h3,_⟩<;>omega
  .rcases hb.ok with ⟨_,_,h3⟩|⟨h3,_⟩<;>omega
 have hr:ug a b p up=xi (a.neg != b.neg) (nm a*nm b) (a.e+b.e) false p up:=rfl;rw[<-hr]at h168;have ae:=ha.eq;have be:=hb.eq;generalize ug a b p up=R at*;generalize nm a=x at*;generalize nm b=y at*;obtain⟨an,am,ax⟩:=a;obtain⟨bn,bm,bx⟩:=b;simp only at ae be a2 b2 h168 hr;subst ae be;show Fn 174 G0 [.agg [.bool an,.sl .u32 (toL x),.int .i64 ax],.agg [.bool bn,.sl .u32 (toL y),.int .i64 bx],.int .i64 p,.bool up] _ G0;by_cases hx0:x=0
 .rw[hz (.inl hx0)];subst hx0;rw[wp]at*;refine fY6 Tryz.func174 rfl ?_;refine gYn h164 ?_;exact⟨zq5,leG⟩
 by_cases hy0:y=0
 .rw[hz (.inr hy0)];subst hy0;rw[wp]at*;refine fY6 Tryz.func174 rfl ?_;refine gYn h164 ?_;refine brI (fun h6=>?_) (fun h6=>?_)
  .have h6:(((toL x).length :Int)==0)=true:=h6;rw[zbn hx0]at h6;cases h6
  conv=>whnf
  exact⟨zq5,leG⟩
 have hw:qM.wrap (ax+bx)=ax+bx:=wI O;obtain⟨⟨r1,r2,r3⟩,r4⟩:=R;refine fY6 Tryz.func174 rfl ?_;refine gYn h164 ?_;refine brI (fun h6=>?_) (fun h6=>?_)
 .have h6:(((toL x).length :Int)==0)=true:=h6;rw[zbn hx0]at h6;cases h6
 conv=>whnf
 refine brI (fun h6=>?_) (fun h6=>?_)
 .have h6:(((toL y).length :Int)==0)=true:=h6;rw[zbn hy0]at h6;cases h6
 conv=>whnf
 refine gYn h225 ?_;rw[hw];have hne:(!(an==bn))=(an != bn):=rfl;refine gYc h168 ?_;exact⟨lr rfl,leG⟩
