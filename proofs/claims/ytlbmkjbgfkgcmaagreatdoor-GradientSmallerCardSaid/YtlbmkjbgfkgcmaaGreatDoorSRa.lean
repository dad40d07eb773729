/- The reference's dyadic numbers (layer 2), at any values: bits, comparisons, signs. -/
import Derived.Test.YtlbmkjbgfkgcmaaGreatDoorSXa
set_option linter.all false
open And renaming intro->qE
open BitVec renaming ofInt->q0,ofInt_natCast->qY,toNat_ofNat->w6,toNat_and->ws
open Bool renaming false_and->qK,true_and->wi,eq_iff_iff->wH,and_false->wW,and_true->wY,or_false->wZ
open Int renaming toNat_natCast->qA,fdiv_eq_ediv_of_nonneg->qB,ofNat_tmod->qP,ofNat_tdiv->qT,toNat_zero->qW,eq_ofNat_of_zero_le->wD,pow_pos->wK,ediv_le_self->wQ,ediv_nonneg->wT,pow_nonneg->wV,add_zero->v0
open List renaming getElem?_eq_getElem->q3,take_of_length_le->q9,getElem?_eq_none->qD,getElem_mem->qG,mem_of_getElem?->qN,take_length->qR,length_set->qS,eq_nil_of_length_eq_zero->qX,mem_of_mem_drop->qZ,getElem?_set_ne->w0,replicate->w7,getLast?_eq_getElem?->w8,length_cons->wA,getElem?_replicate->wE,length_nil->wF,getElem?_drop->wL,take_add_one->wN,length_drop->wP,length_take->wR,set->wX
open Nat renaming two_pow_pos->qF,mul_add->qH,mul_assoc->qI,and_two_pow_sub_one_eq_mod->qJ,le_refl->qL,le_trans->qM,pow_le_pow_right->qO,div_eq_of_eq_mul_right->qQ,add_zero->qU,testBit_eq_decide_div_mod_eq->qV,div_add_mod->w1,mul_le_mul_left->w2,pow_succ->w3,mul_comm->w4,mul_lt_mul_of_pos_right->w5,pow_add->w9,mul_one->we,mod_eq_of_lt->wn,le_mul_of_pos_right->wB,div_le_self->wG,div_lt_iff_lt_mul->wJ,mod_lt->wM,mul_zero->wO,lt_succ_self->wS,add_comm->v3,pow_mul->v4
open Option renaming getD_some->qC,getD_none->wC
open Go.IntKind renaming u64->v5,i64->v6,u32->v7,signed->v8,wrap->v9,bits->vc
namespace Go.Proofs.YtlbmkjbgfkgcmaaGreatDoor
open Go Go.Sx
set_option maxRecDepth 100000
set_option maxHeartbeats 8000000
theorem qdo{l:List Int}(hb:LB l)(hl:l.length<=1000000):Fn 158 [] [.sl .u32 l] (.sl .u32 (toL (val l))) []:=by
 have:=y247 l hl
 rwa [yi hb]at this
theorem r250(n:Nat)(hn:(toL n).length <=1000000):Fn 135 [] [.sl .u32 (toL n)] (.int .i64 (bl n:Nat)) []:=by
 have hb:=zn n;have hla:=zfm n;generalize bl n=B at hla⊢;generalize toL n=t at hn hb hla⊢;refine fY6 Tryz.func135 rfl ?_;refine brI (fun h1=>?_) (fun h1=>?_)
 .have h1:t= []:=by
   have h1:((t.length:Int)==0)=true:=h1;rw[beq_iff_eq]at h1;exact qX O
  subst h1;simp only[List.getLast?_nil]at hla;conv=>whnf
  exact⟨ai0 hla,lh0⟩
 .have h1:0<t.length:=by
   have h1:((t.length:Int)==0)=false:=h1;rw[beq_eq_false_iff_ne]at h1;omega
  have hw:v6.wrap ((t.length:Int)-1)=((t.length-1:Nat):Int):=by rw[wI O];omega
  conv=>whnf
  rw[hw];refine⟨⟨O,O⟩,fun x hx=>?_⟩;have hx:t[t.length-1]? =some x:=by simpa using hx
  have hg:t.getLast?=some x:=by rw[w8];exact hx
  have hxb:=hb x (qN hx);rw[hg]at hla;simp only at hla;rw[zd3 O]at hla;have hbx:bl x.toNat<=32:=wq.2 O;conv=>whnf
  rw[wI (x:=32*((t.length-1:Nat):Int)) O];refine⟨Nat,fun y=>y<4294967296/\bl y<=bl x.toNat,fun y=> [(3,.int .i64 ((B:Int)-(bl y:Nat))),(4,.int .u32 y)],fun _=> [],fun y=>y,x.toNat,⟨O,qL _⟩,?_,fun y hy=>?_⟩
  .exact KZ0
  obtain⟨hy1,hy2⟩:=hy;refine gYe ?_;refine brI (fun h2=>?_) (fun h2=>?_)
  .have h2:0<y:=by simp only[Z4]at h2;omega
   have hh:=zm3 (n:=y) O;conv=>whnf
   refine⟨OA,?_⟩;conv=>whnf
   refine⟨y/2,⟨O,O⟩,by show y/2<y;omega,?_⟩
   ((conv=>whnf);refine qE ?_ ?_;repeat' first|refine lc ?_ ?_|refine lh1 ?_ ?_|refine bc0 ?_|exact KXZ|refine lg0 ?_|refine lt0 ?_)
   .exact ai0 (by rw[wI O];omega)
   .exact ai0 (by
     show((y:Int)).fdiv 2=_;rw[qB _ OA];omega)
  .have h2:y=0:=by simp only[Z5]at h2;omega
   subst h2;conv=>whnf
   exact⟨ai0 (by simp[ja]),lh0⟩
theorem r251(d:Dy):Fn 136 [] [.agg (dyC d)] (.int .i64 (sgR d)) []:=by
 obtain⟨s,m,e⟩:=d;refine fY6 Tryz.func136 rfl ?_;refine brI (fun h1=>?_) (fun h1=>?_)
 .have h1:((m.length:Int)==0)=true:=h1;rw[beq_iff_eq]at h1;conv=>whnf
  exact⟨ai0 (by unfold sgR;rw[Z6 (O:m.length=0)]),lh0⟩
 .have h1:((m.length:Int)==0)=false:=h1;rw[beq_eq_false_iff_ne]at h1;have e1:sgR ⟨s,m,e⟩=if s=true then-1 else 1:=by unfold sgR;rw[Z7 (O:¬m.length=0)]
  rw[e1];cases s
  .conv=>whnf
   exact⟨ai0 rfl,lh0⟩
  .conv=>whnf
   exact⟨ai0 rfl,lh0⟩
theorem r168(x y:Nat)(hal:(toL x).length <=1000000)(hbl:(toL y).length <=1000000):Fn 156 [] [.sl .u32 (toL x),.sl .u32 (toL y)] (.int .i64 (ul x y)) []:=by
 obtain⟨A,hA⟩:∃A,qbg (toL x) (toL y)=A:=⟨_,rfl⟩;rw[<-zcd,hA];unfold qbg at hA;rw[qg,qg]at hA;generalize toL x=s at hal hA⊢;generalize toL y=t at hbl hA⊢;refine fY6 Tryz.func156 rfl ?_;refine brI (fun h1=>?_) (fun h1=>?_)
 .have h1:((s.length:Int) != (t.length:Int))=true:=h1;have h1:(s.length:Int)≠t.length:=by simpa using h1
  conv=>whnf
  refine brI (fun h2=>?_) (fun h2=>?_)
  .have h2:s.length<t.length:=by simp only[Z4]at h2;omega
   rw[Z6 h2]at hA;subst hA;conv=>whnf
   exact⟨lr rfl,lh0⟩
  .have h2:¬s.length<t.length:=by simp only[Z5]at h2;omega
   rw[Z7 h2,Z6 O]at hA;subst hA;conv=>whnf
   exact⟨lr rfl,lh0⟩
 have h1:((s.length:Int) != (t.length:Int))=false:=h1;have h1:(s.length:Int)=t.length:=by simpa using h1
 rw[Z7 O,Z7 O]at hA;conv=>whnf
 rw[wI (x:=(s.length:Int)-1) O];refine⟨Nat,fun n=>n<=s.length/\zbo s t n=A,fun n=> [(5,.int .i64 ((n:Int)-1))],fun _=> [],fun n=>n,s.length,⟨qL _,hA⟩,?_,fun n hn=>?_⟩
 .exact KZ0
 refine gYe ?_;obtain⟨hn1,hn2⟩:=hn;refine brI (fun h2=>?_) (fun h2=>?_)
 .have h2:0<n:=by simp only[Z4]at h2;omega
  obtain⟨m,rfl⟩:∃m,n=m+1:=⟨n-1,O⟩;have hm:(((m+1:Nat):Int)-1)=(m:Int):=O;have hms:m<s.length:=O;have hmt:m<t.length:=O;have hxs:s[m]? =some s[m]:=q3 hms;have hxt:t[m]? =some t[m]:=q3 hmt;obtain⟨x,hx⟩:∃x:Int,s[m]=x:=⟨_,rfl⟩;obtain⟨y,hy⟩:∃y:Int,t[m]=y:=⟨_,rfl⟩;rw[hx]at hxs;rw[hy]at hxt;simp only[zbo,hxs,hxt,qC]at hn2;conv=>whnf
  rw[hm];refine⟨⟨O,O⟩,fun(z:Int)hz=>?_⟩;have hz:s[m]? =some z:=by simpa using hz
  rw[hxs]at hz;cases hz
  conv=>whnf
  refine⟨⟨O,O⟩,fun(z:Int)hz=>?_⟩;have hz:t[m]? =some z:=by simpa using hz
  rw[hxt]at hz;cases hz
  conv=>whnf
  refine gYd ?_;refine brI (fun h3=>?_) (fun h3=>?_)
  .have h3:x<y:=by simpa using h3
   rw[Z6 h3]at hn2;conv=>whnf
   exact⟨ai0 hn2,lh0⟩
  have h3:¬x<y:=by simpa using h3
  rw[Z7 h3]at hn2;conv=>whnf
  refine⟨⟨O,O⟩,fun(z:Int)hz=>?_⟩;have hz:s[m]? =some z:=by simpa using hz
  rw[hxs]at hz;cases hz
  conv=>whnf
  refine⟨⟨O,O⟩,fun(z:Int)hz=>?_⟩;have hz:t[m]? =some z:=by simpa using hz
  rw[hxt]at hz;cases hz
  conv=>whnf
  refine gYd ?_;refine brI (fun h4=>?_) (fun h4=>?_)
  .have h4:y<x:=by simpa using h4
   rw[Z6 h4]at hn2;conv=>whnf
   exact⟨ai0 hn2,lh0⟩
  have h4:¬y<x:=by simpa using h4
  rw[Z7 h4]at hn2;conv=>whnf
  refine⟨m,⟨O,hn2⟩,by show m<m+1;omega,?_⟩;exact KZ0
 .have h2:n=0:=by simp only[Z5]at h2;omega
  subst h2;simp only[zbo]at hn2;conv=>whnf
  exact⟨ai0 hn2,lh0⟩
theorem zij(s:Int)(h:0<=s/\s<18446744073709551616):v5.wrap ((q0 v5.bits s&&& q0 v5.bits 4294967295).toNat :Int)=s % 4294967296:=by
 obtain⟨n,rfl⟩:∃n:Nat,s=n:=⟨s.toNat,O⟩;have e1:(q0 64 (n:Int)).toNat =n:=by rw[qY,w6];exact wn O
 have e2:(q0 64 4294967295).toNat =2^32-1:=OA;have e3:(q0 64 (n:Int)&&& q0 64 4294967295).toNat =n % 4294967296:=by
  rw[ws,e1,e2,qJ]
 show v5.wrap ((q0 64 (n:Int)&&& q0 64 4294967295).toNat :Int)=_;rw[e3,wU O];omega
noncomputable def qbk:Code:=Tryz.f154.body.getD .skip
theorem r295(x n:Nat)(hx:(toL x).length <=100000)(hn:n<=100000):Fn 154 [] [.sl .u32 (toL x),.int .i64 n] (.sl .u32 (toL (x*2^n))) []:=by
 have hb2:=zn x;have hsp:=zbf n x;unfold zf0 at hsp;rw[qg]at hsp;generalize toL x=t at hx hb2 hsp⊢;refine qv (code:=qbk) hT6 hmx Tryz.func154 rfl rfl (ex:= []) ?_;conv=>whnf
 refine wm hT6 hmx 3 (fun _:Unit=>⟨[.sl .u32 t,.int .i64 n,.any,.any,.any,.own 11,.int .u64 0]++yo 36,[(11,.buf 101 .u32 (w7 (n/32) 0)),(34,.dead),(100034,.free),(1500034,.free),(41,.free),(100041,.free),(1500041,.free)]⟩) (fun _=>Z) ?_ (fun _=>?_)
 .have hq:v6.wrap ((n:Int).tdiv 32)=((n/32:Nat):Int):=by
   rw[show(n:Int).tdiv 32=((n/32:Nat):Int)from qT n 32,wI O]
  conv=>whnf
  refine⟨O,?_⟩;conv=>whnf
  rw[hq];refine⟨⟨O,O,O⟩,?_⟩;conv=>whnf
  refine⟨(),?_⟩;exact KZ0
 .refine zbx 34 11 Z ?_;conv=>whnf
  refine vr hT6 hmx ?_;conv=>whnf
  refine⟨Nat×List Int×Int,fun x=>x.1<=t.length/\x.2.1.length=n/32+x.1/\(0<=x.2.2/\x.2.2<2^(n % 32))/\x.2.1++xi (n % 32) (t.drop x.1) x.2.2=w7 (n/32) 0++xi (n % 32) t 0,fun x=> [(7,.int .i64 x.1),(5,.own 34),(6,.int .u64 x.2.2)],fun x=> [(34,.buf 101 .u32 x.2.1)],fun x=>t.length-x.1,(0,w7 (n/32) 0,0),⟨OC,OC,⟨OC,by exact wK OA⟩,OC⟩,?_,fun x hx=>?_⟩
  .exact KZ0
  refine gYe ?_;obtain⟨i,out,c⟩:=x;obtain⟨hi1,hi2,hi3,hi4⟩:=hx;simp only at hi1 hi2 hi3 hi4;have hp31:(2:Int)^(n % 32)<=2147483648:=by
   have h1:2^(n % 32)<=2^31:=qO OA O;have h2:(2:Int)^(n % 32)=((2^(n % 32):Nat):Int):=OC;rw[h2];omega
  refine brI (fun h1=>?_) (fun h1=>?_)
  .have hi:i<t.length:=by simp only[Z4]at h1;omega
   conv=>whnf
   refine⟨⟨O,OD⟩,fun(x:Int)hx=>?_⟩;have hx:t[i]? =some x:=by simpa using hx
   have hxb:=hb2 x (qN hx);have hst:=zl4 (n:=n) hxb hi3;have h9:(n:Int).tmod 32=((n % 32:Nat):Int):=qP n 32;have hrem:v5.wrap ((n:Int).tmod 32)=((n % 32:Nat):Int):=by rw[h9,wU O]
   rw[h9]at hst;rw[qf hx]at hi4;simp only[xi]at hi4;obtain⟨s,hs⟩:∃s,x*2^(n % 32)+c=s:=⟨_,rfl⟩;rw[hs]at hst hi4;have hs0:0<=s/\s<4294967296*2^(n % 32):=by
    have h1:0<=x*2^(n % 32):=Int.mul_nonneg hxb.1 (by exact wV OA);have h2:x*2^(n % 32)<=4294967295*2^(n % 32):=Int.mul_le_mul_of_nonneg_right O (by exact wV OA);omega
   conv=>whnf
   rw[wU (x:=x) O];refine⟨O,?_⟩;conv=>whnf
   rw[hrem];refine⟨O,?_⟩;conv=>whnf
   refine⟨by simp only[wA,wF];omega,?_⟩;conv=>whnf
   refine⟨O,?_⟩;conv=>whnf
   refine⟨(i+1,out++ [s % 4294967296],s/4294967296),⟨OD,by simp only[List.length_append,wA,wF];omega,⟨OD,OD⟩,by rw[List.append_assoc];exact hi4⟩,by show t.length-(i+1)<t.length-i;omega,?_⟩;have e1:v7.wrap (s % 4294967296)=s % 4294967296:=by simp[v9,v8,vc]
   have e2:s.fdiv 4294967296=s/4294967296:=qB _ OA;have e3:=zij s O
   ((conv=>whnf);refine qE ?_ ?_;repeat' first|refine lc ?_ ?_|refine lh1 ?_ ?_|refine bc0 ?_|exact KXZ|refine lg0 ?_|refine lt0 ?_)
   .exact ai0 ((congrArg (fun z:Int=>z.fdiv 4294967296) hst).trans e2)
   .exact ai0 (by rw[wI OD];simp only;omega)
   .exact bb0 (by
     show out++ [_]=out++ [s % 4294967296];rw[<-e1,<-e3,<-hst];rfl)
   all_goals trace_state
  .have hi:¬i<t.length:=by simp only[Z5]at h1;omega
   rw[List.drop_of_length_le O]at hi4;simp only[xi]at hi4;have ec:v7.wrap c=c:=by simp[v9,v8,vc];omega
   have hv:val (out++ [c])=x*2^n/\LB (out++ [c]):=by rw[hi4];exact hsp
   have h326:=qdo hv.2 OE;rw[hv.1]at h326;conv=>whnf
   refine⟨by simp only[wA,wF];omega,?_⟩;conv=>whnf
   rw[ec];refine gYn h326 ?_;exact⟨lr rfl,lh0⟩
theorem r328(x n:Nat)(hl:(toL x).length <=100000)(hn:n<=1000000000):Fn 160 [] [.sl .u32 (toL x),.int .i64 n] (.sl .u32 (toL (x/2^n))) []:=by
 have hb2:=zn x;have hsp:=zdd n x;unfold zfz at hsp;rw[qg]at hsp;generalize x/2^n=V at hsp⊢;generalize toL x=t at hl hb2 hsp⊢;have hq:v6.wrap ((n:Int).tdiv 32)=((n/32:Nat):Int):=by
  rw[show(n:Int).tdiv 32=((n/32:Nat):Int)from qT n 32,wI O]
 have h9:(n:Int).tmod 32=((n % 32:Nat):Int):=qP n 32;have hrem:v5.wrap ((n:Int).tmod 32)=((n % 32:Nat):Int):=by rw[h9,wU O]
 refine fY6 Tryz.func160 rfl ?_;refine⟨O,?_⟩;conv=>whnf
 rw[hq];refine brI (fun h1=>?_) (fun h1=>?_)
 .have h1:t.length<=n/32:=by simp only[Z4]at h1;omega
  rw[Z6 h1]at hsp;have hV:V=0:=hsp.1.symm;subst hV;conv=>whnf
  exact⟨li0 rfl,lh0⟩
 have h1:¬t.length<=n/32:=by simp only[Z5]at h1;omega
 rw[Z7 h1]at hsp;conv=>whnf
 refine⟨O,?_⟩;conv=>whnf
 rw[hq];refine⟨⟨O,O,O⟩,?_⟩;have hb3:LB (t.drop (n/32)):=fun z hz=>hb2 z (qZ hz)
 have hul:(t.drop (n/32)).length <=100000:=by rw[wP];omega
 have hu:((t.take ((t.length:Int)).toNat).drop (((n/32:Nat):Int)).toNat)=t.drop (n/32):=by rw[show((t.length:Int)).toNat =t.length by omega,qR,show((((n/32:Nat):Int))).toNat =n/32 by omega]
 rw[hu];obtain⟨A,hA⟩:∃A,zbe (t.drop (n/32)) (n % 32)=A:=⟨_,rfl⟩;rw[hA]at hsp;generalize t.drop (n/32)=u at hA hb3 hul⊢;have hAl:A.length=u.length:=by rw[<-hA];simp[zbe]
 have h326:=qdo hsp.2 O;rw[hsp.1]at h326;have hfin:∀s:Int,0<=s/\s<18446744073709551616->v7.wrap (v5.wrap ((q0 v5.bits (s.fdiv (2^min ((n % 32:Nat):Int).toNat 64))&&& q0 v5.bits 4294967295).toNat :Int))=(s/2^(n % 32)) % 4294967296:=fun s hs=>by
  have hp:(0:Int)<2^(n % 32):=wK OA;have hd:0<=s/2^(n % 32):=wT hs.1 O;have hd2:s/2^(n % 32)<=s:=wQ _ hs.1;rw[(O:min ((n % 32:Nat):Int).toNat 64=n % 32),qB _ O,zij _ ⟨hd,O⟩];simp[v9,v8,vc]
 conv=>whnf
 refine⟨Nat,fun i=>i<=u.length,fun i=> [(6,.int .i64 i),(5,.own 51)],fun i=> [(51,.buf 101 .u32 (A.take i))],fun i=>u.length-i,0,OC,?_,fun i hi=>?_⟩
 .exact KZ0
 refine gYe ?_;have hi:i<=u.length:=hi;refine brI (fun h2=>?_) (fun h2=>?_)
 .have hi:i<u.length:=by simp only[Z4]at h2;omega
  conv=>whnf
  refine⟨⟨O,O⟩,fun(x:Int)hx=>?_⟩;have hx:u[i]? =some x:=by simpa using hx
  have hxb:=hb3 x (qN hx);have hF:A[i]? =some (zeb u (n % 32) i):=by rw[<-hA];simp[zbe,hi]
  have hstep:A.take i++ [zeb u (n % 32) i]=A.take (i+1):=by rw[wN,hF];rfl
  have hlen:(A.take i).length =i:=by rw[wR];omega
  conv=>whnf
  refine brI (fun h3=>?_) (fun h3=>?_)
  .have h3:i+1<u.length:=by
    have h3:decide (v6.wrap ((i:Int)+1)<(u.length:Int))=true:=h3;rw[wI O]at h3;simp only[Z4]at h3;omega
   conv=>whnf
   rw[wI (x:=(i:Int)+1) O];refine⟨⟨O,O⟩,fun(y:Int)hy=>?_⟩;have hy:u[i+1]? =some y:=by
    have hy:u[((i:Int)+1).toNat]? =some y:=hy;rw[show((i:Int)+1).toNat =i+1 by omega]at hy;exact hy
   have hyb:=hb3 y (qN hy);have hor:=zr8 hxb hyb;conv=>whnf
   rw[wU (x:=x) O,wU (x:=y) O];refine⟨O,?_⟩;conv=>whnf
   refine⟨O,?_⟩;conv=>whnf
   rw[hrem];refine⟨O,?_⟩;conv=>whnf
   refine⟨by rw[hlen];simp;omega,?_⟩;conv=>whnf
   refine⟨i+1,O,by show u.length-(i+1)<u.length-i;omega,?_⟩
   ((conv=>whnf);refine qE ?_ ?_;repeat' first|refine lc ?_ ?_|refine lh1 ?_ ?_|refine bc0 ?_|exact KXZ|refine lg0 ?_|refine lt0 ?_)
   .exact ai0 (by rw[wI O];omega)
   .exact bb0 (by
     rw[<-hstep];show A.take i++ [_]=_
     congr 2
     rw[zeb,hx,hy];show _=(x+y*4294967296)/2^(n % 32) % 4294967296;rw[<-hfin _ O,<-hor];rfl)
  .have h3:¬i+1<u.length:=by
    have h3:decide (v6.wrap ((i:Int)+1)<(u.length:Int))=false:=h3;rw[wI O]at h3;simp only[Z5]at h3;omega
   have hy:u[i+1]? =none:=qD O;conv=>whnf
   rw[wU (x:=x) O];refine⟨O,?_⟩;conv=>whnf
   rw[hrem];refine⟨O,?_⟩;conv=>whnf
   refine⟨by rw[hlen];simp;omega,?_⟩;conv=>whnf
   refine⟨i+1,O,by show u.length-(i+1)<u.length-i;omega,?_⟩
   ((conv=>whnf);refine qE ?_ ?_;repeat' first|refine lc ?_ ?_|refine lh1 ?_ ?_|refine bc0 ?_|exact KXZ|refine lg0 ?_|refine lt0 ?_)
   .exact ai0 (by rw[wI O];omega)
   .exact bb0 (by
     rw[<-hstep];show A.take i++ [_]=_
     congr 2
     rw[zeb,hx,hy];show _=(x+0*4294967296)/2^(n % 32) % 4294967296;rw[Int.zero_mul,v0,<-hfin _ O];rfl)
 .have hi:i=u.length:=by simp only[Z5]at h2;omega
  subst hi;rw[q9 O];conv=>whnf
  refine gYn h326 ?_;exact⟨lr rfl,lh0⟩
theorem bitR{y r:Nat}(hy:y<4294967296)(hr:r<32):v7.wrap ((q0 v7.bits ((y:Int).fdiv (2^min ((r:Nat):Int).toNat v7.bits))&&& q0 v7.bits 1).toNat :Int)=((y/2^r % 2:Nat):Int):=by
 have e0:(y:Int).fdiv (2^min ((r:Nat):Int).toNat 32)=((y/2^r:Nat):Int):=by
  rw[qA,Nat.min_eq_left O,qB _ (Int.le_of_lt (wK OA))];simp
 have hd:y/2^r<4294967296:=Nat.lt_of_le_of_lt (wG _ _) hy;have e1:(q0 32 ((y/2^r:Nat):Int)).toNat =y/2^r:=by rw[qY,w6];exact wn hd
 have e2:(q0 32 1).toNat =2^1-1:=OA;show v7.wrap ((q0 32 ((y:Int).fdiv (2^min ((r:Nat):Int).toNat 32))&&& q0 32 1).toNat :Int)=_;rw[e0,ws,e1,e2,qJ,zpg O]
theorem qcz(x k:Nat)(hk:k<(toL x).length):(toL x)[k]? =some ((x/2^(32*k) % 4294967296:Nat):Int):=by
 have h1:=zfc k (toL x) (zn x);rw[zj]at h1;have hb:LB ((toL x).drop k):=fun z hz=>zn x z (qZ hz)
 obtain⟨z,w,h2,h3,h4⟩:=zoo _ hb;rw[wL,qU]at h3;rw[h1]at h4;have h5:(toL x)[k]? =some (toL x)[k]:=q3 hk;rw[h5]at h3⊢;simp only[qC]at h3;rw[h3]
 congr 2
 omega
theorem qfo(x n:Nat):(x/2^(32*(n/32)) % 4294967296)/2^(n % 32) % 2=x/2^n % 2:=by
 have h1:(x/2^(32*(n/32)) % 2^32).testBit (n % 32)=x.testBit n:=by
  rw[Nat.testBit_mod_two_pow,Nat.testBit_div_two_pow];rw[(O:n % 32+32*(n/32)=n)];simp[wM]
 rw[qV,qV]at h1;have h2:=decide_eq_decide.1 h1;have e:(2:Nat)^32=4294967296:=OA;rw[e]at h2;omega
theorem qcw{x n:Nat}(hx:x≠0)(hn:n<=tz x):x/2^n % 2=0<->n<tz x:=by
 obtain⟨m,h1,h2⟩:=zbc hx;have e:x/2^n=2^(tz x-n)*m:=by
  have h3:x=2^n*(2^(tz x-n)*m):=by rw[<-qI,<-w9,Nat.add_sub_cancel' hn];exact h1
  exact qQ (qF n) h3
 rw[e];constructor
 .intro h;by_cases h4:n<tz x
  .exact h4
  .rw[(O:tz x-n=0)]at h;simp at h;omega
 .intro h;obtain⟨d,hd⟩:∃d,tz x-n=d+1:=⟨tz x-n-1,O⟩;rw[hd,w3,w4 (2^d),qI];omega
theorem zqp{x:Nat}(hx:x≠0):tz x/32<(toL x).length :=by
 obtain⟨m,h1,h2⟩:=zbc hx;have h3:2^tz x<=x:=by
  conv=>rhs;rw[h1]
  exact wB _ O
 have h4:¬(toL x).length <=tz x/32:=by
  rw[jc];intro h;have h5:2^(32*(tz x/32))<=2^tz x:=qO OA O;omega
 omega
theorem r327(x:Nat)(hx:x≠0)(hl:(toL x).length <=100000):Fn 159 [] [.sl .u32 (toL x)] (.int .i64 (tz x:Nat)) []:=by
 have htl:=zqp hx;refine fY6 Tryz.func159 rfl ?_;refine⟨Nat,fun n=>n<=tz x,fun n=> [(3,.int .i64 n)],fun _=> [],fun n=>tz x-n,0,OC,?_,fun n hn=>?_⟩
 .exact KZ0
 have hn:n<=tz x:=hn;have hnl:n/32<(toL x).length :=O;have hq:v6.wrap ((n:Int).tdiv 32)=((n/32:Nat):Int):=by
  rw[show(n:Int).tdiv 32=((n/32:Nat):Int)from qT n 32,wI O]
 have h9:(n:Int).tmod 32=((n % 32:Nat):Int):=qP n 32;have hrem:v5.wrap ((n:Int).tmod 32)=((n % 32:Nat):Int):=by rw[h9,wU O]
 have hat:=qcz x _ hnl;have hbt:=qfo x n;have htz:=qcw hx hn;obtain⟨Y,hY⟩:∃Y,x/2^(32*(n/32)) % 4294967296=Y:=⟨_,rfl⟩;rw[hY]at hat hbt;have hYl:Y<4294967296:=O;have hbr:=bitR hYl (r:=n % 32) O;rw[hbt]at hbr;generalize toL x=t at*;refine⟨Z,?_⟩;conv=>whnf
 refine⟨O,?_⟩;conv=>whnf
 rw[hq];refine⟨⟨O,O⟩,fun(y:Int)hy=>?_⟩;have hy:t[n/32]? =some y:=by
  have hy:t[((n/32:Nat):Int).toNat]? =some y:=hy
  rwa [qA]at hy
 rw[hat]at hy;cases hy
 conv=>whnf
 refine⟨O,?_⟩;conv=>whnf
 rw[hrem];refine⟨O,?_⟩;conv=>whnf
 rw[hbr];refine brI (fun h=>?_) (fun h=>?_)
 .have h:x/2^n % 2=0:=by
   have h:(((x/2^n % 2:Nat):Int)==0)=true:=h;rw[beq_iff_eq]at h;omega
  have h:=htz.1 h;conv=>whnf
  refine⟨n+1,h,by show tz x-(n+1)<tz x-n;omega,?_⟩;exact KZ0
 .have h:¬x/2^n % 2=0:=by
   have h:(((x/2^n % 2:Nat):Int)==0)=false:=h;rw[beq_eq_false_iff_ne]at h;omega
  have hne:n=tz x:=by
   have:=mt htz.2 h;omega
  conv=>whnf
  exact⟨ai0 (by rw[hne]),lh0⟩
theorem zis{l:List Int}(hb:LB l):(toL (val l)).length <=l.length:=(jc _ _).2 (zxn hb)
theorem zzw(neg:Bool){l:List Int}(hb:LB l)(hl:l.length<=100000)(e:Int)(he: -1000000000<=e/\e<=1000000000):Fn 85 [] [.bool neg,.sl .u32 l,.int .i64 e] (.agg (dyC (cnN neg (val l) e))) []:=by
 have h326:=qdo hb O;have hll:(toL (val l)).length <=100000:=qM (zis hb) hl;generalize val l=x at h326 hll⊢;by_cases hx:x=0
 .subst hx;refine fY6 Tryz.func85 rfl ?_;refine gYn h326 ?_;exact⟨lg0 (lc (lr rfl) (lc (li0 rfl) (lc (lr rfl) ln0))),lh0⟩
 have h327:=r327 x hx hll;have h328:=r328 x (tz x) hll (by have:=zqp hx;omega);have htl:=zqp hx;have hne:(toL x).length ≠0:=by rw[Ne,jv];exact hx
 have hc:cnN neg x e=⟨neg,toL (x/2^tz x),e+tz x⟩:=by unfold cnN;rw[Z7 hx]
 rw[hc];generalize toL (x/2^tz x)=R at*;generalize tz x=z at*;generalize toL x=t at*;refine fY6 Tryz.func85 rfl ?_;refine gYn h326 ?_;refine brI (fun h=>?_) (fun h=>?_)
 .have h:((t.length:Int)==0)=true:=h;rw[beq_iff_eq]at h;omega
 conv=>whnf
 refine gYn h327 ?_;refine gYn h328 ?_;exact⟨lg0 (lc (lr rfl) (lc (lr rfl) (lc (ai0 (by rw[wI O])) ln0))),lh0⟩
theorem zvt(B p vo c va vb x y:Nat)(h:vo+p*c=va+vb):vo+p*((c+x+y) % B)+p*B*((c+x+y)/B)=va+p*x+(vb+p*y):=by
 have h1:=w1 (c+x+y) B;have h2:p*((c+x+y) % B)+p*B*((c+x+y)/B)=p*(c+x+y):=by
  conv=>rhs;rw[<-h1]
  rw[qH,qI];omega
 rw[qH,qH]at h2;omega
theorem zsn(B p vo br va vb x y:Nat)(hB:0<B)(hy:br+y<=x+B)(h1:x<B)(hbr:br<=1)(h:va+p*br=vo+vb):
 va+p*x+p*B*(1-(x+B-(br+y))/B)=vo+p*((x+B-(br+y)) % B)+(vb+p*y):=by
 have e:=w1 (x+B-(br+y)) B;have hq:(x+B-(br+y))/B<=1:=by
  have:(x+B-(br+y))/B<2:=(wJ hB).2 O;omega
 generalize (x+B-(br+y))/B=q at*;generalize hm:(x+B-(br+y)) % B=m at*;have k:p*x+p*B*(1-q)+p*br=p*m+p*y+(p*br+p*br):=by
  obtain rfl|rfl:q=0\/q=1:=O
  .have:x+B=m+y+br:=by simp at e;omega
   have:=congrArg (fun z=>p*z) this;simp only[qH]at this;simp only[Nat.sub_zero,we];omega
  .have:x=m+y+br:=by simp at e;omega
   have:=congrArg (fun z=>p*z) this;simp only[qH]at this;simp only[Nat.sub_self,wO];omega
 omega
theorem xn{l:List Int}{i:Nat}:val (l.take (i+1))=val (l.take i)+4294967296^i*(l[i]?.getD 0).toNat :=by
 by_cases h:i<l.length
 .exact wv l h
 .rw[q9 O,q9 O,qD O];simp
theorem LB.snoc{l:List Int}(h:LB l){x:Int}(hx:0<=x/\x<4294967296):LB (l++ [x]):=fun y hy=>by
 rcases List.mem_append.1 hy with hy|hy
 .exact h y hy
 .have:y=x:=by simpa using hy
  rw[this];exact hx
theorem zio(l:List Int)(x:Int):val (l++ [x])=val l+4294967296^l.length*x.toNat:=by rw[ziq];simp[val]
structure PlI(a b:List Int)(i:Nat)(out:List Int)(c:Nat):Prop where
 len:out.length=i
 lb:LB out
 c1:c<=1
 val:val out+4294967296^i*c=val (a.take i)+val (b.take i)
theorem PlI.step{a b:List Int}{i:Nat}{out:List Int}{c:Nat}(h:PlI a b i out c){x y:Nat}(hx:(a[i]?.getD 0).toNat =x)(hy:(b[i]?.getD 0).toNat =y)(hxl:x<4294967296)(hyl:y<4294967296):
 PlI a b (i+1) (out++ [(((c+x+y) % 4294967296:Nat):Int)]) ((c+x+y)/4294967296):=by
 obtain⟨h1,h2,h3,h4⟩:=h;refine⟨by simp[h1],h2.snoc O,O,?_⟩;rw[zio,xn,xn,hx,hy,h1,qA,w3];exact zvt 4294967296 (4294967296^i) _ c _ _ x y h4
theorem zlu{a:List Int}(h:LB a)(i:Nat):(a[i]?.getD 0).toNat <4294967296:=by
 have:=h.at i;omega
theorem r297{a b:List Int}(ha:LB a)(hb:LB b)(hal:a.length<=100000)(hbl:b.length<=100000):Fn 155 [] [.sl .u32 a,.sl .u32 b] (.sl .u32 (toL (val a+val b))) []:=by
 refine fY6 Tryz.func155 rfl ?_;refine⟨Nat×List Int×Nat,fun x=>x.1<=max a.length b.length/\PlI a b x.1 x.2.1 x.2.2,fun x=> [(7,.int .i64 x.1),(5,.own 49),(6,.int .u64 x.2.2)],fun x=> [(49,.buf 101 .u32 x.2.1)],fun x=>max a.length b.length-x.1,(0,[],0),⟨OC,⟨rfl,(fun x hx=>by cases hx),OC,by simp[val]⟩⟩,?_,fun x hx=>?_⟩
 .exact KZ0
 obtain⟨i,out,c⟩:=x;obtain⟨hi,hp⟩:=hx;simp only at hi hp;have hol:=hp.len;have hc:=hp.c1;have hst:=hp.step rfl rfl (zlu ha i) (zlu hb i);have e2:∀s:Nat,((s:Nat):Int).fdiv 4294967296=((s/4294967296:Nat):Int):=fun s=>by rw[qB _ OA];simp
 have e3:∀s:Nat,s<18446744073709551616->v7.wrap (v5.wrap ((q0 v5.bits (s:Int)&&& q0 v5.bits 4294967295).toNat :Int))=((s % 4294967296:Nat):Int):=fun s hs=>by
  rw[zij _ O];simp[v9,v8,vc]
 refine gYe ?_;refine brI (fun h1=>?_) (fun h1=>?_)
 .have h1:i<a.length:=by simp only[Z4]at h1;omega
  have hxa:a[i]? =some a[i]:=q3 h1;have hba:=ha _ (qG h1);generalize a[i]=xa at hxa hba;rw[hxa]at hst;simp only[qC]at hst;conv=>whnf
  refine brI (fun h2=>?_) (fun h2=>?_)
  rotate_left
  .have h2:=Z3 h2;omega
  conv=>whnf
  refine⟨⟨O,O⟩,fun(z:Int)hz=>?_⟩;have hz:a[i]? =some z:=by simpa using hz
  rw[hxa]at hz;cases hz
  conv=>whnf
  refine brI (fun h3=>?_) (fun h3=>?_)
  .have h3:i<b.length:=by simp only[Z4]at h3;omega
   have hxb:b[i]? =some b[i]:=q3 h3;have hbb:=hb _ (qG h3);generalize b[i]=xb at hxb hbb;rw[hxb]at hst;simp only[qC]at hst;have es:v5.wrap (v5.wrap ((c:Int)+v5.wrap xa)+v5.wrap xb)=((c+xa.toNat+xb.toNat:Nat):Int):=by
    rw[wU (x:=xa) O,wU (x:=xb) O,wU (x:=(c:Int)+xa) O,wU O];omega
   conv=>whnf
   refine⟨⟨O,O⟩,fun(z:Int)hz=>?_⟩;have hz:b[i]? =some z:=by simpa using hz
   rw[hxb]at hz;cases hz
   conv=>whnf
   refine⟨OE,?_⟩;conv=>whnf
   refine⟨OA,?_⟩;conv=>whnf
   refine⟨(i+1,out++ [(((c+xa.toNat+xb.toNat) % 4294967296:Nat):Int)],(c+xa.toNat+xb.toNat)/4294967296),⟨OD,hst⟩,by show max a.length b.length-(i+1)<max a.length b.length-i;omega,?_⟩
   ((conv=>whnf);refine qE ?_ ?_;repeat' first|refine lc ?_ ?_|refine lh1 ?_ ?_|refine bc0 ?_|exact KXZ|refine lg0 ?_|refine lt0 ?_)
   .exact ai0 ((congrArg (fun z:Int=>z.fdiv 4294967296) es).trans (e2 _))
   .exact ai0 (by rw[wI OD];simp only;omega)
   .exact bb0 (by
     show out++ [_]=out++ [_];rw[<-e3 _ O,<-es])
  .have h3:¬i<b.length:=by simp only[Z5]at h3;omega
   have hxb:b[i]? =none:=qD O;rw[hxb]at hst;simp only[wC,qW,qU]at hst;have es:v5.wrap ((c:Int)+v5.wrap xa)=((c+xa.toNat:Nat):Int):=by
    rw[wU (x:=xa) O,wU O];omega
   conv=>whnf
   refine⟨OE,?_⟩;conv=>whnf
   refine⟨OA,?_⟩;conv=>whnf
   refine⟨(i+1,out++ [(((c+xa.toNat) % 4294967296:Nat):Int)],(c+xa.toNat)/4294967296),⟨OD,hst⟩,by show max a.length b.length-(i+1)<max a.length b.length-i;omega,?_⟩
   ((conv=>whnf);refine qE ?_ ?_;repeat' first|refine lc ?_ ?_|refine lh1 ?_ ?_|refine bc0 ?_|exact KXZ|refine lg0 ?_|refine lt0 ?_)
   .exact ai0 ((congrArg (fun z:Int=>z.fdiv 4294967296) es).trans (e2 _))
   .exact ai0 (by rw[wI OD];simp only;omega)
   .exact bb0 (by
     show out++ [_]=out++ [_];rw[<-e3 _ O,<-es])
 .have h1:¬i<a.length:=by simp only[Z5]at h1;omega
  have hxa:a[i]? =none:=qD O;rw[hxa]at hst;simp only[wC,qW,qU]at hst;conv=>whnf
  refine brI (fun h3=>?_) (fun h3=>?_)
  .have h3:i<b.length:=by simp only[Z4]at h3;omega
   have hxb:b[i]? =some b[i]:=q3 h3;have hbb:=hb _ (qG h3);generalize b[i]=xb at hxb hbb;rw[hxb]at hst;simp only[qC]at hst;have es:v5.wrap ((c:Int)+v5.wrap xb)=((c+xb.toNat:Nat):Int):=by
    rw[wU (x:=xb) O,wU O];omega
   conv=>whnf
   refine brI (fun h2=>?_) (fun h2=>?_)
   .have h2:=Z0 h2;omega
   conv=>whnf
   refine brI (fun h2=>?_) (fun h2=>?_)
   rotate_left
   .have h2:=Z3 h2;omega
   conv=>whnf
   refine⟨⟨O,O⟩,fun(z:Int)hz=>?_⟩;have hz:b[i]? =some z:=by simpa using hz
   rw[hxb]at hz;cases hz
   conv=>whnf
   refine⟨OE,?_⟩;conv=>whnf
   refine⟨OA,?_⟩;conv=>whnf
   refine⟨(i+1,out++ [(((c+xb.toNat) % 4294967296:Nat):Int)],(c+xb.toNat)/4294967296),⟨OD,hst⟩,by show max a.length b.length-(i+1)<max a.length b.length-i;omega,?_⟩
   ((conv=>whnf);refine qE ?_ ?_;repeat' first|refine lc ?_ ?_|refine lh1 ?_ ?_|refine bc0 ?_|exact KXZ|refine lg0 ?_|refine lt0 ?_)
   .exact ai0 ((congrArg (fun z:Int=>z.fdiv 4294967296) es).trans (e2 _))
   .exact ai0 (by rw[wI OD];simp only;omega)
   .exact bb0 (by
     show out++ [_]=out++ [_];rw[<-e3 _ O,<-es])
  .have h3:¬i<b.length:=by simp only[Z5]at h3;omega
   have hv:=hp.val;rw[q9 O,q9 O]at hv;have hv:val (out++ [(c:Int)])=val a+val b:=by rw[zio,hol,qA];exact hv
   have h326:=qdo (hp.lb.snoc (x:=(c:Int)) O) OE;rw[hv]at h326;have ec:v7.wrap (c:Int)=c:=zpg O;conv=>whnf
   refine⟨OE,?_⟩;conv=>whnf
   rw[ec];refine gYn h326 ?_;exact⟨lr rfl,lh0⟩
structure MiI(a b:List Int)(i:Nat)(out:List Int)(c:Nat):Prop where
 len:out.length=i
 lb:LB out
 c1:c<=1
 sum:val (a.take i)+4294967296^i*c=val out+val (b.take i)
theorem MiI.step{a b:List Int}{i:Nat}{out:List Int}{c:Nat}(h:MiI a b i out c){x y:Nat}(hx:(a[i]?.getD 0).toNat =x)(hy:(b[i]?.getD 0).toNat =y)(hxl:x<4294967296)(hyl:y<4294967296):
 MiI a b (i+1) (out++ [(((x+4294967296-(c+y)) % 4294967296:Nat):Int)]) (1-(x+4294967296-(c+y))/4294967296):=by
 obtain⟨h1,h2,h3,h4⟩:=h;refine⟨by simp[h1],h2.snoc O,O,?_⟩;rw[zio,xn,xn,hx,hy,h1,qA,w3];exact zsn 4294967296 (4294967296^i) _ c _ _ x y OA O hxl h3 h4
theorem MiI.fin{a b:List Int}{out:List Int}{c:Nat}(h:MiI a b a.length out c)(hl:b.length<=a.length)(hv:val b<=val a):val out=val a-val b:=by
 obtain⟨h1,h2,h3,h4⟩:=h;rw[qR,q9 hl]at h4;have h5:=ue h2 a.length O;rw[q9 O]at h5;obtain rfl|rfl:c=0\/c=1:=O
 .simp at h4;omega
 .rw[we]at h4;omega
theorem r298{a b:List Int}(ha:LB a)(hb:LB b)(hal:a.length<=100000)(hl:b.length<=a.length)(hv:val b<=val a):Fn 157 [] [.sl .u32 a,.sl .u32 b] (.sl .u32 (toL (val a-val b))) []:=by
 refine fY6 Tryz.func157 rfl ?_;refine⟨Nat×List Int×Nat,fun x=>x.1<=a.length/\MiI a b x.1 x.2.1 x.2.2,fun x=> [(7,.int .i64 x.1),(5,.own 41),(6,.int .u64 x.2.2)],fun x=> [(41,.buf 101 .u32 x.2.1)],fun x=>a.length-x.1,(0,[],0),⟨OC,⟨rfl,(fun x hx=>by cases hx),OC,by simp[val]⟩⟩,?_,fun x hx=>?_⟩
 .exact KZ0
 obtain⟨i,out,c⟩:=x;obtain⟨hi,hp⟩:=hx;simp only at hi hp;have hol:=hp.len;have hc:=hp.c1;have hst:=hp.step rfl rfl (zlu ha i) (zlu hb i);have e2:∀s:Nat,((s:Nat):Int).fdiv 4294967296=((s/4294967296:Nat):Int):=fun s=>by rw[qB _ OA];simp
 have e3:∀s:Nat,s<18446744073709551616->v7.wrap (v5.wrap ((q0 v5.bits (s:Int)&&& q0 v5.bits 4294967295).toNat :Int))=((s % 4294967296:Nat):Int):=fun s hs=>by
  rw[zij _ O];simp[v9,v8,vc]
 have e4:∀s:Nat,s<8589934592->v5.wrap (1-((s:Nat):Int).fdiv 4294967296)=((1-s/4294967296:Nat):Int):=fun s hs=>by
  rw[e2,wU O];omega
 refine gYe ?_;refine brI (fun h1=>?_) (fun h1=>?_)
 .have h1:i<a.length:=by simp only[Z4]at h1;omega
  have hxa:a[i]? =some a[i]:=q3 h1;have hba:=ha _ (qG h1);generalize a[i]=xa at hxa hba;rw[hxa]at hst;simp only[qC]at hst;conv=>whnf
  refine brI (fun h3=>?_) (fun h3=>?_)
  .have h3:i<b.length:=by simp only[Z4]at h3;omega
   have hxb:b[i]? =some b[i]:=q3 h3;have hbb:=hb _ (qG h3);generalize b[i]=xb at hxb hbb;rw[hxb]at hst;simp only[qC]at hst;have es:v5.wrap (v5.wrap (v5.wrap xa+4294967296)-v5.wrap ((c:Int)+v5.wrap xb))=((xa.toNat+4294967296-(c+xb.toNat):Nat):Int):=by
    rw[wU (x:=xa) O,wU (x:=xb) O,wU (x:=(c:Int)+xb) O,wU (x:=xa+4294967296) O,wU O];omega
   conv=>whnf
   refine⟨⟨O,O⟩,fun(z:Int)hz=>?_⟩;have hz:b[i]? =some z:=by simpa using hz
   rw[hxb]at hz;cases hz
   conv=>whnf
   refine⟨⟨O,O⟩,fun(z:Int)hz=>?_⟩;have hz:a[i]? =some z:=by simpa using hz
   rw[hxa]at hz;cases hz
   conv=>whnf
   refine⟨OE,?_⟩;conv=>whnf
   refine⟨OA,?_⟩;conv=>whnf
   refine⟨(i+1,out++ [(((xa.toNat+4294967296-(c+xb.toNat)) % 4294967296:Nat):Int)],1-(xa.toNat+4294967296-(c+xb.toNat))/4294967296),⟨OD,hst⟩,by show a.length-(i+1)<a.length-i;omega,?_⟩
   ((conv=>whnf);refine qE ?_ ?_;repeat' first|refine lc ?_ ?_|refine lh1 ?_ ?_|refine bc0 ?_|exact KXZ|refine lg0 ?_|refine lt0 ?_)
   .exact ai0 ((congrArg (fun z:Int=>v5.wrap (1-z.fdiv 4294967296)) es).trans (e4 _ O))
   .exact ai0 (by rw[wI OD];simp only;omega)
   .exact bb0 (by
     show out++ [_]=out++ [_];rw[<-e3 _ O,<-es])
  .have h3:¬i<b.length:=by simp only[Z5]at h3;omega
   have hxb:b[i]? =none:=qD O;rw[hxb]at hst;simp only[wC,qW,qU]at hst;have es:v5.wrap (v5.wrap (v5.wrap xa+4294967296)-(c:Int))=((xa.toNat+4294967296-c:Nat):Int):=by
    rw[wU (x:=xa) O,wU (x:=xa+4294967296) O,wU O];omega
   conv=>whnf
   refine⟨⟨O,O⟩,fun(z:Int)hz=>?_⟩;have hz:a[i]? =some z:=by simpa using hz
   rw[hxa]at hz;cases hz
   conv=>whnf
   refine⟨OE,?_⟩;conv=>whnf
   refine⟨OA,?_⟩;conv=>whnf
   refine⟨(i+1,out++ [(((xa.toNat+4294967296-c) % 4294967296:Nat):Int)],1-(xa.toNat+4294967296-c)/4294967296),⟨OD,hst⟩,by show a.length-(i+1)<a.length-i;omega,?_⟩
   ((conv=>whnf);refine qE ?_ ?_;repeat' first|refine lc ?_ ?_|refine lh1 ?_ ?_|refine bc0 ?_|exact KXZ|refine lg0 ?_|refine lt0 ?_)
   .exact ai0 ((congrArg (fun z:Int=>v5.wrap (1-z.fdiv 4294967296)) es).trans (e4 _ O))
   .exact ai0 (by rw[wI OD];simp only;omega)
   .exact bb0 (by
     show out++ [_]=out++ [_];rw[<-e3 _ O,<-es])
 .have h1:i=a.length:=by simp only[Z5]at h1;omega
  subst h1;have hf:=hp.fin hl hv;have h326:=qdo hp.lb O;rw[hf]at h326;conv=>whnf
  refine gYn h326 ?_;exact⟨lr rfl,lh0⟩
theorem r254{d:Dy}(h:VD d):Fn 138 [] [.agg (dyC d)] (.agg (dyC (kc d))) []:=by
 refine VD.cases (P:=fun d=>Fn 138 [] [.agg (dyC d)] (.agg (dyC (kc d))) []) h ?_ (fun s n e hd hn _ _ _ _=>?_)
 .refine fY6 Tryz.func138 rfl ?_;exact⟨lr rfl,lh0⟩
 .have hne:kc ⟨s,toL n,e⟩=⟨!s,toL n,e⟩:=by unfold kc;rw[Z7 (by rw[zal];omega)]
  have hl:=zfy hn;rw[hne];have hl2:decide (((toL n).length :Int)>0)=true:=by
   rw[beq_eq_false_iff_ne]at hl;exact Z8 O
  generalize toL n=t at*;cases s
  .refine fY6 Tryz.func138 rfl ?_;exact⟨lg0 (lc (ab0 hl2) (lc (lr rfl) (lc (lr rfl) ln0))),lh0⟩
  .refine fY6 Tryz.func138 rfl ?_;exact⟨lr rfl,lh0⟩
theorem r252{d:Dy}(h:VD d):Fn 137 [] [.agg (dyC d)] (.int .i64 (zg d)) []:=by
 refine VD.cases (P:=fun d=>Fn 137 [] [.agg (dyC d)] (.int .i64 (zg d)) []) h ?_ (fun s n e hd hn hb h1 h2 h3=>?_)
 .refine fY6 Tryz.func137 rfl ?_;exact⟨lr rfl,lh0⟩
 .have ht:zg ⟨s,toL n,e⟩=bl n+e:=by unfold zg;rw[Z7 (by rw[zal];omega),zal]
  have hl:=zfy hn;have h250:=r250 n (by have:=(qb n 128).2 O;omega);clear hd;rw[ht];clear ht;generalize toL n=t at*;show Fn 137 [] [.agg [.bool s,.sl .u32 t,.int .i64 e]] _ [];refine fY6 Tryz.func137 rfl ?_;rw[hl];conv=>whnf
  refine gYn h250 ?_;refine gYd ?_;exact⟨ai0 (by rw[wI O]),lh0⟩
def zdc(a b:Dy):Dy:=
 if nm a=0 then b else if nm b=0 then a else
 if a.neg=b.neg then cnN a.neg (nm a*2^(a.e-min a.e b.e).toNat +nm b*2^(b.e-min a.e b.e).toNat) (min a.e b.e)
 else if nm b*2^(b.e-min a.e b.e).toNat <=nm a*2^(a.e-min a.e b.e).toNat then cnN a.neg (nm a*2^(a.e-min a.e b.e).toNat -nm b*2^(b.e-min a.e b.e).toNat) (min a.e b.e)
 else cnN b.neg (nm b*2^(b.e-min a.e b.e).toNat -nm a*2^(a.e-min a.e b.e).toNat) (min a.e b.e)
theorem zo7{x y k:Nat}(h1:bl x<=k)(h2:bl y<=k):bl (x+y)<=k+1:=by
 have c1:=wq.1 h1;have c2:=wq.1 h2;exact wq.2 (by rw[w3];omega)
theorem xr{x y k:Nat}(h:x<=y)(hy:(toL y).length <=k):(toL x).length <=k:=by
 rw[jc]at hy⊢;omega
theorem r253{a b:Dy}(ha:VD a)(hb:VD b):Fn 82 [] [.agg (dyC a),.agg (dyC b)] (.agg (dyC (zdc a b))) []:=by
 refine VD.cases (P:=fun a=>Fn 82 [] [.agg (dyC a),.agg (dyC b)] (.agg (dyC (zdc a b))) []) ha ?_ (fun s x e _ hx hxb h1 h2 h3=>?_)
 .rw[show zdc d0 b=b by unfold zdc;rw[Z6 zsd]];obtain⟨t,m,f⟩:=b;refine fY6 Tryz.func82 rfl ?_;exact⟨lr rfl,lh0⟩
 refine VD.cases (P:=fun b=>Fn 82 [] [.agg (dyC ⟨s,toL x,e⟩),.agg (dyC b)] (.agg (dyC (zdc ⟨s,toL x,e⟩ b))) []) hb ?_ (fun t y f _ hy hyb g1 g2 g3=>?_)
 .rw[show zdc ⟨s,toL x,e⟩ d0=⟨s,toL x,e⟩ by unfold zdc;rw[Z7 (by rw[zal];omega),Z6 zsd]];have hl:=zfy hx;generalize toL x=m at*;refine fY6 Tryz.func82 rfl ?_;rw[hl];conv=>whnf
  exact⟨lr rfl,lh0⟩
 have es:zdc ⟨s,toL x,e⟩ ⟨t,toL y,f⟩=if s=t then cnN s (x*2^(e-min e f).toNat +y*2^(f-min e f).toNat) (min e f)
  else if y*2^(f-min e f).toNat <=x*2^(e-min e f).toNat then cnN s (x*2^(e-min e f).toNat -y*2^(f-min e f).toNat) (min e f)
  else cnN t (y*2^(f-min e f).toNat -x*2^(e-min e f).toNat) (min e f):=by
  unfold zdc;rw[Z7 (by rw[zal];omega),Z7 (by rw[zal];omega),zal,zal]
 rw[es];have hlx:=zfy hx;have hly:=zfy hy;have hmin:(if f<e then f else e)=min e f:=by split<;>omega
 have k1:v6.wrap (e-min e f)=((e-min e f).toNat :Int):=by rw[wI O];omega
 have k2:v6.wrap (f-min e f)=((f-min e f).toNat :Int):=by rw[wI O];omega
 have hK1:(e-min e f).toNat <=32768:=O;have hK2:(f-min e f).toNat <=32768:=O;have q1:=r295 x (e-min e f).toNat (by have:=(qb x 128).2 O;omega) O;have q2:=r295 y (f-min e f).toNat (by have:=(qb y 128).2 O;omega) O;have b1:(toL (x*2^(e-min e f).toNat)).length <=2000:=by rw[qb,zu _ _ O];omega
 have b2:(toL (y*2^(f-min e f).toNat)).length <=2000:=by rw[qb,zu _ _ O];omega
 have hm: -16384<=min e f/\min e f<=16384:=O;generalize (e-min e f).toNat =K1 at*;generalize (f-min e f).toNat =K2 at*;generalize x*2^K1=X at*;generalize y*2^K2=Y at*;have r168':=r168 X Y O O;have p1:=r297 (zn X) (zn Y) O O;rw[zj,zj]at p1;have o1:=zzw s (zn (X+Y)) (by
  have:(toL (X+Y)).length <=2001:=by
   rw[qb]at b1 b2⊢;have:=zo7 b1 b2;omega
  omega) (min e f) O
 rw[zj]at o1;have o2:=fun(h:Y<=X)=>zzw s (zn (X-Y)) (xr (O:X-Y<=X) (qM b1 O)) (min e f) O
 have o3:=fun(h:X<=Y)=>zzw t (zn (Y-X)) (xr (O:Y-X<=Y) (qM b2 O)) (min e f) O
 have m1:=fun(h:Y<=X)=>r298 (zn X) (zn Y) O (xr h (qL _)) (by rw[zj,zj];exact h)
 have m2:=fun(h:X<=Y)=>r298 (zn Y) (zn X) O (xr h (qL _)) (by rw[zj,zj];exact h)
 simp only[zj]at o2 o3 m1 m2;generalize toL (X+Y)=XP at*;generalize toL (X-Y)=XM at*;generalize toL (Y-X)=YM at*;generalize toL X=LX at*;generalize toL Y=LY at*;generalize toL x=lx at*;generalize toL y=ly at*;by_cases hst:s=t
 .subst hst;rw[Z6 rfl];generalize cnN s (X+Y) (min e f)=R at*;have hbb:(s==s)=true:=OC;show Fn 82 [] [.agg [.bool s,.sl .u32 lx,.int .i64 e],.agg [.bool s,.sl .u32 ly,.int .i64 f]] _ [];refine fY6 Tryz.func82 rfl ?_;rw[hlx];conv=>whnf
  rw[hly];conv=>whnf
  rw[hmin,k1];refine gYn q1 ?_;rw[k2];refine gYn q2 ?_;refine gYd ?_;refine brI (fun h=>?_) (fun h=>?_)
  .conv=>whnf
   refine gYn p1 ?_;refine gYn o1 ?_;refine gYd ?_;exact⟨lr rfl,lh0⟩
  .have h:(s==s)=false:=h;rw[hbb]at h;cases h
 .rw[Z7 hst];have hor:(0<=ul X Y)<->Y<=X:=by
   unfold ul;split
   .constructor
    .intro h;omega
    .intro h;omega
   .split
    .constructor
     .intro h;omega
     .intro h;omega
    .constructor
     .intro h;omega
     .intro h;omega
  have hres:∀Q:Dy,(Y<=X->Q=cnN s (X-Y) (min e f))->(¬Y<=X->Q=cnN t (Y-X) (min e f))->Fn 82 [] [.agg [.bool s,.sl .u32 lx,.int .i64 e],.agg [.bool t,.sl .u32 ly,.int .i64 f]] (.agg (dyC Q)) []:=fun Q hQ1 hQ2=>by
   generalize ul X Y=Oq at*;generalize cnN s (X-Y) (min e f)=R1 at*;generalize cnN t (Y-X) (min e f)=R2 at*;refine fY6 Tryz.func82 rfl ?_;rw[hlx];conv=>whnf
   rw[hly];conv=>whnf
   rw[hmin,k1];refine gYn q1 ?_;rw[k2];refine gYn q2 ?_;refine gYd ?_;refine brI (fun h=>?_) (fun h=>?_)
   .have h:(s==t)=true:=h;exact absurd (by simpa using h) hst
   conv=>whnf
   refine gYn r168' ?_;refine brI (fun h=>?_) (fun h=>?_)
   .have h:0<=Oq:=Z0 h;have h:=hor.1 h;rw[hQ1 h];conv=>whnf
    refine gYn (m1 h) ?_;refine gYn (o2 h) ?_;refine gYd ?_;exact⟨lr rfl,lh0⟩
   .have h:¬0<=Oq:=Z3 h;have h:=fun c=>h (hor.2 c)
    rw[hQ2 h];conv=>whnf
    refine gYn (m2 O) ?_;refine gYn (o3 O) ?_;refine gYd ?_;exact⟨lr rfl,lh0⟩
  exact hres _ (fun h=>by rw[Z6 h]) (fun h=>by rw[Z7 h])
theorem and1{y:Nat}(hy:y<4294967296):v7.wrap ((q0 v7.bits (y:Int)&&& q0 v7.bits 1).toNat :Int)=((y % 2:Nat):Int):=by
 have e1:(q0 32 (y:Int)).toNat =y:=by rw[qY,w6];exact wn hy
 have e2:(q0 32 1).toNat =2^1-1:=OA;show v7.wrap ((q0 32 (y:Int)&&& q0 32 1).toNat :Int)=_;rw[ws,e1,e2,qJ,zpg O]
theorem zzx(d:Dy)(hb:LB d.m)(hl:d.m.length<9223372036854775808):Fn 72 [] [.agg (dyC d)] (.bool (vB d)) []:=by
 obtain⟨A,hA⟩:∃A,vB d=A:=⟨_,rfl⟩;rw[hA];unfold vB at hA;obtain⟨neg,m,e⟩:=d;simp only at hb hl hA;show Fn 72 [] [.agg [.bool neg,.sl .u32 m,.int .i64 e]] _ [];by_cases h0:m.length=0
 .rw[Z6 h0]at hA;obtain rfl:=qX h0;cases neg
  .refine fY6 Tryz.func72 rfl ?_;refine⟨ab0 ?_,lh0⟩;rw[<-hA,wH];show(e==0)=true<->_;simp
  .subst hA;refine fY6 Tryz.func72 rfl ?_;exact⟨lr rfl,lh0⟩
 rw[Z7 h0]at hA;have hl0:(((m.length:Nat):Int)==0)=false:=by rw[beq_eq_false_iff_ne];omega
 have hw:v6.wrap ((m.length:Int)-1)=((m.length-1:Nat):Int):=by rw[wI O];omega
 have hxl:m[m.length-1]? =some m[m.length-1]:=q3 O;have hx0:m[0]? =some m[0]:=q3 O;have hbl:=hb _ (qG (l:=m) (n:=m.length-1) O);have hb0:=hb _ (qG (l:=m) (n:=0) O);generalize m[m.length-1]=z at hxl hbl;generalize m[0]=y at hx0 hb0;have hg:m.getLast?=some z:=by rw[w8];exact hxl
 rw[hx0,hg]at hA;simp only[qC]at hA;obtain⟨y,rfl⟩:=wD hb0.1;have ha1:=and1 (y:=y) O;have hty:((y:Nat):Int).tmod 2=((y % 2:Nat):Int):=qP y 2;have ed:decide (((y:Nat):Int).tmod 2=1)=decide (y % 2=1):=decide_eq_decide.2 (by rw[hty];omega);have hA:(decide (m.length<=256)&&decide (y % 2=1)&&decide (z≠0)&&irB ⟨neg,m,e⟩)=A:=by rw[<-ed];exact hA
 refine fY6 Tryz.func72 rfl ?_;rw[hl0];conv=>whnf
 refine brI (fun h1=>?_) (fun h1=>?_)
 .have h1:256<m.length:=by have h1:((m.length:Nat):Int)>256:=Z0 h1;omega
  rw[Z9 (O:¬m.length<=256),qK,qK,qK]at hA;subst hA;conv=>whnf
  exact⟨lr rfl,lh0⟩
 have h1:m.length<=256:=by have h1:¬((m.length:Nat):Int)>256:=Z3 h1;omega
 rw[Z8 h1,wi]at hA;conv=>whnf
 rw[hw];refine⟨⟨O,O⟩,fun(x:Int)hx=>?_⟩;have hx:m[m.length-1]? =some x:=by simpa using hx
 rw[hxl]at hx;cases hx
 conv=>whnf
 refine brI (fun h2=>?_) (fun h2=>?_)
 .have h2:z=0:=by
   have h2:(z==0)=true:=h2;simpa using h2
  rw[Z9 (O:¬z≠0),wW,qK]at hA;subst hA;conv=>whnf
  exact⟨lr rfl,lh0⟩
 have h2:z≠0:=by
  have h2:(z==0)=false:=h2;simpa using h2
 rw[Z8 h2,wY]at hA;conv=>whnf
 refine⟨⟨O,O⟩,fun(x:Int)hx=>?_⟩;have hx:m[0]? =some x:=by simpa using hx
 rw[hx0]at hx;cases hx
 conv=>whnf
 rw[ha1];refine brI (fun h3=>?_) (fun h3=>?_)
 .have h3:y % 2=0:=by
   have h3:(((y % 2:Nat):Int)==0)=true:=h3;rw[beq_iff_eq]at h3;omega
  rw[Z9 (O:¬y % 2=1),qK]at hA;subst hA;conv=>whnf
  exact⟨lr rfl,lh0⟩
 have h3:y % 2=1:=by
  have h3:(((y % 2:Nat):Int)==0)=false:=h3;rw[beq_eq_false_iff_ne]at h3;omega
 rw[Z8 h3,wi]at hA;unfold irB at hA;simp only at hA;rw[zg3 hb]at hA;have he:=znk hb (by rw[hg];exact h2);have hv:val m≠0:=fun c=>h0 (by rw[he,c];rfl)
 have hbz:bl (val m)≠0:=fun c=>hv (uq.1 c)
 rw[Z9 O,Bool.false_or]at hA;have h250:=r250 (val m) (by rw[<-he];omega);rw[<-he]at h250;have hbm:bl (val m)<=32*256:=(qb _ _).1 (by rw[<-he];exact h1);generalize bl (val m)=B at*;conv=>whnf
 refine brI (fun h4=>?_) (fun h4=>?_)
 .have h4:e< -16384:=Z0 h4;rw[show A=false by rw[<-hA];simp;omega];conv=>whnf
  exact⟨lr rfl,lh0⟩
 have h4:¬e< -16384:=Z3 h4;conv=>whnf
 refine brI (fun h5=>?_) (fun h5=>?_)
 .have h5:e>16384:=Z0 h5;rw[show A=false by rw[<-hA];simp;omega];conv=>whnf
  exact⟨lr rfl,lh0⟩
 have h5:¬e>16384:=Z3 h5;conv=>whnf
 refine gYn h250 ?_;refine brI (fun h6=>?_) (fun h6=>?_)
 .have h6:(B:Int)<=4096:=Z0 h6;conv=>whnf
  refine⟨ab0 ?_,lh0⟩;rw[wI O,<-hA,wH];simp only[Bool.and_eq_true,Z4];omega
 .have h6:¬(B:Int)<=4096:=Z3 h6;rw[show A=false by rw[<-hA];simp;omega];conv=>whnf
  exact⟨lr rfl,lh0⟩
theorem zxx{d:Dy}(h:VD d):sgR d=qx d:=by
 refine VD.cases (P:=fun d=>sgR d=qx d) h rfl (fun s n e hd hn _ _ _ _=>?_);unfold sgR qx;have hl:(toL n).length ≠0:=by rw[Ne,jv];omega
 rw[Z7 hl,zal,Z7 (O:¬n=0)]
theorem zrd(neg:Bool)(n:Nat)(e:Int):sgR (cnN neg n e)=if n=0 then 0 else if neg=true then-1 else 1:=by
 unfold cnN;split
 .rfl
 .rename_i h;obtain⟨m,h1,h2⟩:=zbc h;have h3:n/2^tz n=m:=qQ (qF _) h1;unfold sgR;simp only;rw[Z7 (by rw[jv,h3];omega)]
theorem ztz{a b:Dy}(hs:qx a=qx b)(h0:qx a≠0):(zg a<zg b->qd a b= -qx a)/\(zg b<zg a->qd a b=qx a)/\qd a b=sgR (zdc a (kc b)):=by
 have ha0:nm a≠0:=fun c=>h0 (by unfold qx;rw[Z6 c])
 have hb0:nm b≠0:=fun c=>h0 (by rw[hs];unfold qx;rw[Z6 c])
 have hneg:a.neg=b.neg:=by
  unfold qx at hs;rw[Z7 ha0,Z7 hb0]at hs;cases h1:a.neg<;>cases h2:b.neg<;>simp_all
 have e1:zg a=bl (nm a)+a.e:=by unfold zg;rw[Z7 ha0]
 have e2:zg b=bl (nm b)+b.e:=by unfold zg;rw[Z7 hb0]
 have q1:=zu (nm a) (a.e-min a.e b.e).toNat ha0;have q2:=zu (nm b) (b.e-min a.e b.e).toNat hb0;have hd:=zlr hs h0;have hn:kc b=⟨!b.neg,b.m,b.e⟩:=by unfold kc;rw[Z7 hb0]
 have hnn:nm (kc b)=nm b:=by rw[hn];rfl
 have hS:zdc a (kc b)=if nm b*2^(b.e-min a.e b.e).toNat <=nm a*2^(a.e-min a.e b.e).toNat then cnN a.neg (nm a*2^(a.e-min a.e b.e).toNat -nm b*2^(b.e-min a.e b.e).toNat) (min a.e b.e)
  else cnN (!b.neg) (nm b*2^(b.e-min a.e b.e).toNat -nm a*2^(a.e-min a.e b.e).toNat) (min a.e b.e):=by
  unfold zdc;rw[hnn,Z7 ha0,Z7 hb0,hn];simp only;rw[Z7 (by rw[hneg];cases b.neg<;>simp)]
 rw[hS,hd];unfold cmA;generalize nm a*2^(a.e-min a.e b.e).toNat =X at*;generalize nm b*2^(b.e-min a.e b.e).toNat =Y at*;refine⟨fun h=>?_,fun h=>?_,?_⟩
 .rw[zi7 (zw3 O)];omega
 .rw[zi8 (zw3 O)];omega
 .have hsa:qx a=if a.neg=true then-1 else 1:=by unfold qx;rw[Z7 ha0]
  by_cases h:Y<=X
  .rw[Z6 h,zrd];by_cases h2:X=Y
   .subst h2;rw[Z6 O];unfold ul;rw[Z7 O,Z7 O];omega
   .rw[Z7 O,zi8 O,hsa];omega
  .rw[Z7 h,zrd,Z7 O,zi7 O,hsa,hneg];cases b.neg<;>rfl
theorem r175{a b:Dy}(ha:VD a)(hb:VD b):Fn 73 [] [.agg (dyC a),.agg (dyC b)] (.int .i64 (qd a b)) []:=by
 have s1:=r251 a;have s2:=r251 b;have t1:=r252 ha;have t2:=r252 hb;have n1:=r254 hb;have hnb:VD (kc b):=jl hb;have m1:=r253 ha hnb;have z1:=r251 (zdc a (kc b));have c1:=zo5 (a:=a) (b:=b);have c2:=ztz (a:=a) (b:=b);rw[zxx ha]at s1;rw[zxx hb]at s2;have hz:qx a=0\/qx a=1\/qx a= -1:=by unfold qx;split<;>(try split)<;>simp
 generalize sgR (zdc a (kc b))=Zq at*;generalize zdc a (kc b)=SX at*;generalize kc b=NB at*;generalize qd a b=C at*;generalize qx a=sa at*;generalize qx b=sb at*;have ea:=ha.exp;have eb:=hb.exp;generalize zg a=ta at*;generalize zg b=tb at*;refine fY6 Tryz.func73 rfl ?_;refine gYn s1 ?_;refine gYn s2 ?_;refine gYd ?_;refine brI (fun h1=>?_) (fun h1=>?_)
 .have h1:sa≠sb:=by
   have h1:(sa != sb)=true:=h1;simpa using h1
  conv=>whnf
  refine brI (fun h2=>?_) (fun h2=>?_)
  .have h2:sa<sb:=Z0 h2;rw[c1.1 h2];conv=>whnf
   exact⟨lr rfl,lh0⟩
  .have h2:¬sa<sb:=Z3 h2;rw[c1.2.1 O];conv=>whnf
   exact⟨lr rfl,lh0⟩
 have h1:sa=sb:=by
  have h1:(sa != sb)=false:=h1;simpa using h1
 conv=>whnf
 refine brI (fun h2=>?_) (fun h2=>?_)
 .have h2:sa=0:=by
   have h2:(sa==0)=true:=h2;simpa using h2
  rw[c1.2.2 h1 h2];conv=>whnf
  exact⟨lr rfl,lh0⟩
 have h2:sa≠0:=by
  have h2:(sa==0)=false:=h2;simpa using h2
 obtain⟨d1,d2,d3⟩:=c2 h1 h2;conv=>whnf
 refine gYn t1 ?_;refine gYn t2 ?_;refine gYd ?_;refine brI (fun h3=>?_) (fun h3=>?_)
 .have h3:ta≠tb:=by
   have h3:(ta != tb)=true:=h3;simpa using h3
  conv=>whnf
  refine gYn t1 ?_;refine gYn t2 ?_;refine gYd ?_;refine brI (fun h4=>?_) (fun h4=>?_)
  .have h4:(decide (ta<tb)==decide (sa>0))=true:=h4;have hC:C= -1:=by
    rcases hz with hz|hz|hz
    .exact absurd hz h2
    .have:ta<tb:=by simpa[hz]using h4
     rw[d1 this,hz]
    .have:¬ta<tb:=by simpa[hz]using h4
     rw[d2 O,hz]
   rw[hC];conv=>whnf
   exact⟨lr rfl,lh0⟩
  .have h4:(decide (ta<tb)==decide (sa>0))=false:=h4;have hC:C=1:=by
    rcases hz with hz|hz|hz
    .exact absurd hz h2
    .have:¬ta<tb:=by simpa[hz]using h4
     rw[d2 O,hz]
    .have:ta<tb:=by simpa[hz]using h4
     rw[d1 this,hz];rfl
   rw[hC];conv=>whnf
   exact⟨lr rfl,lh0⟩
 rw[d3];conv=>whnf
 refine gYn n1 ?_;refine gYn m1 ?_;refine gYn z1 ?_;refine gYd ?_;exact⟨lr rfl,lh0⟩
theorem r331t(l:List Int)(hl:l.length<=1000000):Fn 208 [] [.sl .u32 l] (.sl .u32 (trL l)) []:=by
 refine fY6 Tryz.func208 rfl ?_;refine⟨Nat,fun n=>n<=l.length/\trN l n=trN l l.length,fun n=> [(3,.int .i64 n)],fun _=> [],fun n=>n,l.length,⟨qL _,rfl⟩,?_,fun n hn=>?_⟩
 .exact KZ0
 refine gYe ?_;obtain⟨hn1,hn2⟩:=hn;refine brI (fun h1=>?_) (fun h1=>?_)
 .have h1:0<n:=by simp only[Z4]at h1;omega
  obtain⟨m,rfl⟩:∃m,n=m+1:=⟨n-1,O⟩;have hw:v6.wrap (((m+1:Nat):Int)-1)=(m:Int):=by rw[wI O];omega
  conv=>whnf
  rw[hw];refine⟨⟨O,O⟩,fun x hx=>?_⟩;have hx:l[m]? =some x:=by simpa using hx
  simp only[trN,hx,qC]at hn2;conv=>whnf
  refine brI (fun h2=>?_) (fun h2=>?_)
  .have h2:x=0:=by simpa using h2
   rw[Z6 h2]at hn2;conv=>whnf
   refine⟨m,⟨O,hn2⟩,by show m<m+1;omega,?_⟩;exact KZ0
  .have h2:¬x=0:=by simpa using h2
   rw[Z7 h2]at hn2;conv=>whnf
   refine⟨⟨O,O,O⟩,?_⟩;conv=>whnf
   refine⟨OE,?_⟩;conv=>whnf
   exact⟨ju (by rw[trL,<-hn2];try simp),lh0⟩
 .have h1:n=0:=by simp only[Z5]at h1;omega
  subst h1;simp only[trN]at hn2;conv=>whnf
  refine⟨⟨O,O,O⟩,?_⟩;conv=>whnf
  refine⟨OC,?_⟩;conv=>whnf
  exact⟨ju (by rw[trL,<-hn2];try simp),lh0⟩
theorem qb9{l:List Int}(hb:LB l)(hl:l.length<=1000000):Fn 208 [] [.sl .u32 l] (.sl .u32 (toL (val l))) []:=by
 have:=r331t l hl
 rwa [yi hb]at this
theorem zzv{l:List Int}(hb:LB l)(_:l.length<=1000000)(i:Nat):Fn 260 [] [.sl .u32 l,.int .i64 i] (.int .u64 (l[i]?.getD 0)) []:=by
 have hat:=hb.at i;refine fY6 Tryz.func260 rfl ?_;refine brI (fun h=>?_) (fun h=>?_)
 .have h:i<l.length:=by have h:((i:Nat):Int)<l.length:=Z0 h;omega
  have hx:=q3 h;generalize l[i]=x at hx;rw[hx]at hat⊢;simp only[qC]at hat⊢;conv=>whnf
  refine⟨⟨O,O⟩,fun(z:Int)hz=>?_⟩;have hz:l[i]? =some z:=by simpa using hz
  rw[hx]at hz;cases hz
  conv=>whnf
  exact⟨ai0 (wU O),lh0⟩
 .have h:¬i<l.length:=by have h:¬((i:Nat):Int)<l.length:=Z3 h;omega
  rw[qD O];conv=>whnf
  exact⟨lr rfl,lh0⟩
theorem zit{l:List Int}(h:LB l)(n:Nat):val (l.take n)<4294967296^n:=by
 by_cases hn:n<=l.length
 .exact ue h n hn
 .have:=ue h l.length (qL _);rw[qR]at this;rw[q9 O];exact Nat.lt_of_lt_of_le this (qO OA O)
theorem zvu(P p q x y:Nat)(hp:p<P)(hq:q<P):ul (p+P*x) (q+P*y)=if x<y then-1 else if y<x then 1 else ul p q:=by
 by_cases h:x<y
 .rw[Z6 h];have:=w2 P (show x+1<=y from h);rw[qH,we]at this;exact zi7 O
 .rw[Z7 h];by_cases h2:y<x
  .rw[Z6 h2];have:=w2 P (show y+1<=x from h2);rw[qH,we]at this;exact zi8 O
  .rw[Z7 h2,(O:x=y)];unfold ul;by_cases h3:p<q
   .rw[Z6 h3,Z6 O]
   .by_cases h4:q<p
    .rw[Z7 h3,Z6 h4,Z7 O,Z6 O]
    .rw[Z7 h3,Z7 h4,Z7 O,Z7 O]
theorem zlp{a b:List Int}(ha:LB a)(hb:LB b):∀n,zbo a b n=ul (val (a.take n)) (val (b.take n))
 |0=>by simp[zbo,val,ul]
 |n+1=>by
  rw[zbo,zlp ha hb n,xn,xn,zvu _ _ _ _ _ (zit ha n) (zit hb n)];have h1:=ha.at n;have h2:=hb.at n;generalize a[n]?.getD 0=x at*;generalize b[n]?.getD 0=y at*;by_cases c:x<y
  .rw[Z6 c,Z6 (O:x.toNat<y.toNat)]
  .rw[Z7 c,Z7 (O:¬x.toNat<y.toNat)];by_cases c2:y<x
   .rw[Z6 c2,Z6 (O:y.toNat<x.toNat)]
   .rw[Z7 c2,Z7 (O:¬y.toNat<x.toNat)]
theorem r310{a b:List Int}(ha:LB a)(hb:LB b)(hal:a.length<=1000000)(hbl:b.length<=1000000):Fn 211 [] [.sl .u32 a,.sl .u32 b] (.int .i64 (ul (val a) (val b))) []:=by
 obtain⟨A,hA⟩:∃A,ul (val a) (val b)=A:=⟨_,rfl⟩;have hg:=zlp ha hb (max a.length b.length);rw[q9 O,q9 O,hA]at hg;rw[hA];clear hA;have hmx2:(if(a.length:Int)<(b.length:Int)then(b.length:Int)else(a.length:Int))=((max a.length b.length:Nat):Int):=by split<;>omega
 have ra:=fun i:Nat=>zzv ha hal i
 have rb:=fun i:Nat=>zzv hb hbl i
 have hM:max a.length b.length<=1000000:=O;generalize max a.length b.length=M at*;refine fY6 Tryz.func211 rfl ?_;rw[hmx2,wI (x:=((M:Nat):Int)-1) O];refine⟨Nat,fun n=>n<=M/\zbo a b n=A,fun n=> [(5,.int .i64 ((n:Int)-1))],fun _=> [],fun n=>n,M,⟨qL _,hg⟩,?_,fun n hn=>?_⟩
 .exact KZ0
 refine gYe ?_;obtain⟨hn1,hn2⟩:=hn;refine brI (fun h2=>?_) (fun h2=>?_)
 .have h2:0<n:=by simp only[Z4]at h2;omega
  obtain⟨m,rfl⟩:∃m,n=m+1:=⟨n-1,O⟩;have hm:(((m+1:Nat):Int)-1)=(m:Int):=O;rw[zbo]at hn2;have ra:=ra m;have rb:=rb m;generalize a[m]?.getD 0=x at*;generalize b[m]?.getD 0=y at*;conv=>whnf
  rw[hm];refine gYn ra ?_;refine gYn rb ?_;refine brI (fun h3=>?_) (fun h3=>?_)
  .have h3:x<y:=Z0 h3;rw[Z6 h3]at hn2;conv=>whnf
   exact⟨ai0 hn2,lh0⟩
  have h3:¬x<y:=Z3 h3;rw[Z7 h3]at hn2;conv=>whnf
  refine gYn ra ?_;refine gYn rb ?_;refine brI (fun h4=>?_) (fun h4=>?_)
  .have h4:y<x:=Z0 h4;rw[Z6 h4]at hn2;conv=>whnf
   exact⟨ai0 hn2,lh0⟩
  have h4:¬y<x:=Z3 h4;rw[Z7 h4]at hn2;conv=>whnf
  refine⟨m,⟨O,hn2⟩,by show m<m+1;omega,?_⟩;exact KZ0
 .have h2:n=0:=by simp only[Z5]at h2;omega
  subst h2;simp only[zbo]at hn2;conv=>whnf
  exact⟨ai0 hn2,lh0⟩
theorem qfl{p m x:Nat}(hp:p<2^(32*m))(hx:x≠0):bl (p+2^(32*m)*x)=32*m+bl x:=by
 have hP:=qF (32*m);have h1:2^(32*m)<=p+2^(32*m)*x:=qM (wB _ O) (Nat.le_add_left _ _);have h2:=zce _ _ h1;rw[Nat.add_mul_div_left _ _ hP,Nat.div_eq_of_lt hp,Nat.zero_add]at h2;have h3:=(zbr (n:=p+2^(32*m)*x) (k:=32*m) O).2 h1;omega
theorem r302{l:List Int}(hb:LB l)(hl:l.length<=1000000):Fn 209 [] [.sl .u32 l] (.int .i64 (bl (val l):Nat)) []:=by
 refine fY6 Tryz.func209 rfl ?_;rw[wI (x:=((l.length:Nat):Int)-1) O];refine⟨Nat,fun n=>n<=l.length/\val (l.take n)=val l,fun n=> [(3,.int .i64 ((n:Int)-1))],fun _=> [],fun n=>n,l.length,⟨qL _,by rw[qR]⟩,?_,fun n hn=>?_⟩
 .exact KZ0
 refine gYe ?_;obtain⟨hn1,hn2⟩:=hn;refine brI (fun h2=>?_) (fun h2=>?_)
 .have h2:0<n:=by simp only[Z4]at h2;omega
  obtain⟨m,rfl⟩:∃m,n=m+1:=⟨n-1,O⟩;have hm:(((m+1:Nat):Int)-1)=(m:Int):=O;have hxl:=q3 (l:=l) (i:=m) O;have hxb:=hb _ (qG (l:=l) (n:=m) O);generalize l[m]=x at hxl hxb;rw[xn,hxl]at hn2;simp only[qC]at hn2;have htl:=zit hb m;conv=>whnf
  rw[hm];refine⟨⟨O,O⟩,fun(z:Int)hz=>?_⟩;have hz:l[m]? =some z:=by simpa using hz
  rw[hxl]at hz;cases hz
  conv=>whnf
  refine brI (fun h3=>?_) (fun h3=>?_)
  .have h3:x≠0:=by
    have h3:(x != 0)=true:=h3;simpa using h3
   have hbl:bl (val l)=32*m+bl x.toNat:=by
    rw[<-hn2];have e:(4294967296:Nat)^m=2^(32*m):=by rw[v4]
    rw[e]at htl⊢;exact qfl htl O
   have hbx:bl x.toNat<=32:=wq.2 O;rw[hbl];conv=>whnf
   refine⟨⟨O,O⟩,fun(z:Int)hz=>?_⟩;have hz:l[m]? =some z:=by simpa using hz
   rw[hxl]at hz;cases hz
   conv=>whnf
   rw[wI (x:=32*((m:Nat):Int)) O];refine⟨Nat,fun y=>y<4294967296/\bl y<=bl x.toNat,fun y=> [(4,.int .i64 (((32*m+bl x.toNat:Nat):Int)-(bl y:Nat))),(5,.int .u32 y)],fun _=> [],fun y=>y,x.toNat,⟨O,qL _⟩,?_,fun y hy=>?_⟩
   .exact KZ0
   obtain⟨hy1,hy2⟩:=hy;refine gYe ?_;refine brI (fun h2=>?_) (fun h2=>?_)
   .have h2:0<y:=by simp only[Z4]at h2;omega
    have hh:=zm3 (n:=y) O;conv=>whnf
    refine⟨OA,?_⟩;conv=>whnf
    refine⟨y/2,⟨O,O⟩,by show y/2<y;omega,?_⟩
    ((conv=>whnf);refine qE ?_ ?_;repeat' first|refine lc ?_ ?_|refine lh1 ?_ ?_|refine bc0 ?_|exact KXZ|refine lg0 ?_|refine lt0 ?_)
    .exact ai0 (by rw[wI O];omega)
    .exact ai0 (by
      show((y:Int)).fdiv 2=_;rw[qB _ OA];omega)
   .have h2:y=0:=by simp only[Z5]at h2;omega
    subst h2;conv=>whnf
    exact⟨ai0 (by simp[ja]),lh0⟩
  .have h3:x=0:=by
    have h3:(x != 0)=false:=h3;simpa using h3
   subst h3;simp only[qW,wO,qU]at hn2;conv=>whnf
   refine⟨m,⟨O,hn2⟩,by show m<m+1;omega,?_⟩;exact KZ0
 .have h2:n=0:=by simp only[Z5]at h2;omega
  subst h2;have hn2:val l=0:=by rw[<-hn2];rfl
  rw[hn2];conv=>whnf
  exact⟨lr rfl,lh0⟩
theorem fdB(s:Nat):((s:Nat):Int).fdiv 4294967296=((s/4294967296:Nat):Int):=by rw[qB _ OA];simp
theorem loB{s:Nat}(hs:s<18446744073709551616):v7.wrap (v5.wrap ((q0 v5.bits (s:Int)&&& q0 v5.bits 4294967295).toNat :Int))=((s % 4294967296:Nat):Int):=by
 rw[zij _ O];simp[v9,v8,vc]
theorem r335{a b:List Int}(ha:LB a)(hb:LB b)(hal:a.length<=100000)(hbl:b.length<=100000):Fn 213 [] [.sl .u32 a,.sl .u32 b] (.sl .u32 (toL (val a+val b))) []:=by
 have ra:=fun i:Nat=>zzv ha O i
 have rb:=fun i:Nat=>zzv hb O i
 have hmx2:(if(a.length:Int)<(b.length:Int)then(b.length:Int)else(a.length:Int))=((max a.length b.length:Nat):Int):=by split<;>omega
 refine fY6 Tryz.func213 rfl ?_;refine⟨Nat×List Int×Nat,fun x=>x.1<=max a.length b.length+1/\(x.1=max a.length b.length+1->x.2.2=0)/\PlI a b x.1 x.2.1 x.2.2,fun x=> [(7,.int .i64 x.1),(5,.own 36),(6,.int .u64 x.2.2)],fun x=> [(36,.buf 101 .u32 x.2.1)],fun x=>max a.length b.length+1-x.1,(0,[],0),⟨OC,fun h=>rfl,⟨rfl,(fun x hx=>by cases hx),OC,by simp[val]⟩⟩,?_,fun x hx=>?_⟩
 .exact KZ0
 obtain⟨i,out,c⟩:=x;obtain⟨hi,hi2,hp⟩:=hx;simp only at hi hi2 hp;have hol:=hp.len;have hc:=hp.c1;have hst:=hp.step rfl rfl (zlu ha i) (zlu hb i);have ra:=ra i;have rb:=rb i;have hba:=ha.at i;have hbb:=hb.at i;have round:i<=max a.length b.length->(c+(a[i]?.getD 0).toNat +(b[i]?.getD 0).toNat <8589934592)/\(i+1=max a.length b.length+1->(c+(a[i]?.getD 0).toNat +(b[i]?.getD 0).toNat)/4294967296=0):=fun h=>by
  refine⟨O,fun h2=>?_⟩;rw[qD O,qD O];simp;omega
 have es:v5.wrap (v5.wrap (a[i]?.getD 0+b[i]?.getD 0)+(c:Int))=((c+(a[i]?.getD 0).toNat +(b[i]?.getD 0).toNat :Nat):Int):=by
  rw[wU (x:=a[i]?.getD 0+b[i]?.getD 0) O,wU O];omega
 have hfin:¬i<max a.length b.length->c=0->Fn 208 [] [.sl .u32 out] (.sl .u32 (toL (val a+val b))) []:=fun h1 h2=>by
  have hv:=hp.val;rw[h2,q9 O,q9 O]at hv;have h331:=qb9 hp.lb O;rw[<-hv];simpa using h331
 generalize a[i]?.getD 0=x at*;generalize b[i]?.getD 0=y at*;refine gYe ?_;rw[hmx2];generalize max a.length b.length=M at*;refine brI (fun h1=>?_) (fun h1=>?_)
 .have h1:i<M:=by
   have h1:((i:Nat):Int)<((M:Nat):Int):=Z0 h1;omega
  obtain⟨d1,d2⟩:=round O;conv=>whnf
  refine gYn ra ?_;refine gYn rb ?_;refine⟨OE,?_⟩;conv=>whnf
  refine⟨OA,?_⟩;conv=>whnf
  refine⟨(i+1,out++ [(((c+x.toNat+y.toNat) % 4294967296:Nat):Int)],(c+x.toNat+y.toNat)/4294967296),⟨OD,d2,hst⟩,by show M+1-(i+1)<M+1-i;omega,?_⟩
  ((conv=>whnf);refine qE ?_ ?_;repeat' first|refine lc ?_ ?_|refine lh1 ?_ ?_|refine bc0 ?_|exact KXZ|refine lg0 ?_|refine lt0 ?_)
  .exact ai0 ((congrArg (fun z:Int=>z.fdiv 4294967296) es).trans (fdB _))
  .exact ai0 (by rw[wI OD];simp only;omega)
  .exact bb0 (by
    show out++ [_]=out++ [_];rw[<-loB O,<-es])
 .have h1:¬i<M:=by
   have h1:¬((i:Nat):Int)<((M:Nat):Int):=Z3 h1;omega
  conv=>whnf
  refine brI (fun h2=>?_) (fun h2=>?_)
  .have h2:c≠0:=by
    have h2:((c:Nat):Int)>0:=Z0 h2;omega
   have h3:i<=M:=by
    by_cases h:i=M+1
    .exact absurd (hi2 h) h2
    .omega
   obtain⟨d1,d2⟩:=round h3;conv=>whnf
   refine gYn ra ?_;refine gYn rb ?_;refine⟨OE,?_⟩;conv=>whnf
   refine⟨OA,?_⟩;conv=>whnf
   refine⟨(i+1,out++ [(((c+x.toNat+y.toNat) % 4294967296:Nat):Int)],(c+x.toNat+y.toNat)/4294967296),⟨OD,d2,hst⟩,by show M+1-(i+1)<M+1-i;omega,?_⟩
   ((conv=>whnf);refine qE ?_ ?_;repeat' first|refine lc ?_ ?_|refine lh1 ?_ ?_|refine bc0 ?_|exact KXZ|refine lg0 ?_|refine lt0 ?_)
   .exact ai0 ((congrArg (fun z:Int=>z.fdiv 4294967296) es).trans (fdB _))
   .exact ai0 (by rw[wI OD];simp only;omega)
   .exact bb0 (by
     show out++ [_]=out++ [_];rw[<-loB O,<-es])
  .have h2:c=0:=by
    have h2:¬((c:Nat):Int)>0:=Z3 h2;omega
   conv=>whnf
   refine gYn (hfin h1 h2) ?_;exact⟨lr rfl,lh0⟩
theorem r341{a b:List Int}(ha:LB a)(hb:LB b)(hal:a.length<=100000)(hbl:b.length<=100000)(hv:val b<=val a)(hl:b.length<=a.length):Fn 261 [] [.sl .u32 a,.sl .u32 b] (.sl .u32 (toL (val a-val b))) []:=by
 have ra:=fun i:Nat=>zzv ha O i
 have rb:=fun i:Nat=>zzv hb O i
 refine fY6 Tryz.func261 rfl ?_;refine⟨Nat×List Int×Nat,fun x=>x.1<=a.length/\MiI a b x.1 x.2.1 x.2.2,fun x=> [(7,.int .i64 x.1),(5,.own 30),(6,.int .u64 x.2.2)],fun x=> [(30,.buf 101 .u32 x.2.1)],fun x=>a.length-x.1,(0,[],0),⟨OC,⟨rfl,(fun x hx=>by cases hx),OC,by simp[val]⟩⟩,?_,fun x hx=>?_⟩
 .exact KZ0
 obtain⟨i,out,c⟩:=x;obtain⟨hi,hp⟩:=hx;simp only at hi hp;have hol:=hp.len;have hc:=hp.c1;have hst:=hp.step rfl rfl (zlu ha i) (zlu hb i);have ra:=ra i;have rb:=rb i;have hba:=ha.at i;have hbb:=hb.at i;have e4:∀s:Nat,s<8589934592->v5.wrap (1-((s:Nat):Int).fdiv 4294967296)=((1-s/4294967296:Nat):Int):=fun s hs=>by
  rw[fdB,wU O];omega
 have es:v5.wrap (v5.wrap (v5.wrap (a[i]?.getD 0+4294967296)-b[i]?.getD 0)-(c:Int))=(((a[i]?.getD 0).toNat +4294967296-(c+(b[i]?.getD 0).toNat):Nat):Int):=by
  rw[wU (x:=a[i]?.getD 0+4294967296) O,wU (x:=a[i]?.getD 0+4294967296-b[i]?.getD 0) O];by_cases hz:a[i]?.getD 0+4294967296-b[i]?.getD 0-c<0
  .omega
  .rw[wU O];omega
 generalize a[i]?.getD 0=x at*;generalize b[i]?.getD 0=y at*;refine gYe ?_;refine brI (fun h1=>?_) (fun h1=>?_)
 .have h1:i<a.length:=by simp only[Z4]at h1;omega
  conv=>whnf
  refine gYn ra ?_;refine gYn rb ?_;refine⟨OE,?_⟩;conv=>whnf
  refine⟨OA,?_⟩;conv=>whnf
  refine⟨(i+1,out++ [(((x.toNat+4294967296-(c+y.toNat)) % 4294967296:Nat):Int)],1-(x.toNat+4294967296-(c+y.toNat))/4294967296),⟨OD,hst⟩,by show a.length-(i+1)<a.length-i;omega,?_⟩
  ((conv=>whnf);refine qE ?_ ?_;repeat' first|refine lc ?_ ?_|refine lh1 ?_ ?_|refine bc0 ?_|exact KXZ|refine lg0 ?_|refine lt0 ?_)
  .exact ai0 ((congrArg (fun z:Int=>v5.wrap (1-z.fdiv 4294967296)) es).trans (e4 _ O))
  .exact ai0 (by rw[wI OD];simp only;omega)
  .exact bb0 (by
    show out++ [_]=out++ [_];rw[<-loB O,<-es])
 .have h1:i=a.length:=by simp only[Z5]at h1;omega
  subst h1;have hf:=hp.fin hl hv;have h331:=qb9 hp.lb O;rw[hf]at h331;conv=>whnf
  refine gYn h331 ?_;exact⟨lr rfl,lh0⟩
theorem r334{a:List Int}(ha:LB a)(hal:a.length<=100000)(n:Nat)(hn:n<=1000000000):Fn 210 [] [.sl .u32 a,.int .i64 n] (.sl .u32 (toL (val a/2^n))) []:=by
 have ra:=fun i:Nat=>zzv ha O i
 have hbu:LB (a.drop (n/32)):=fun z hz=>ha z (qZ hz)
 have hsp:=zhn (n % 32) O (a.drop (n/32)) hbu;rw[zfc _ _ ha,Nat.div_div_eq_div_mul,<-w9,(O:32*(n/32)+n % 32=n)]at hsp;generalize val a/2^n=V at hsp⊢;obtain⟨A,hA⟩:∃A,zbe (a.drop (n/32)) (n % 32)=A:=⟨_,rfl⟩;rw[hA]at hsp;have hAl:A.length=a.length-n/32:=by rw[<-hA];simp[zbe]
 have hAt:∀j,j<A.length->A[j]? =some (((a[n/32+j]?.getD 0+a[n/32+(j+1)]?.getD 0*4294967296)/2^(n % 32)) % 4294967296):=fun j hj=>by
  rw[<-hA];have hj2:j<(a.drop (n/32)).length :=by rw[wP];omega
  rw[zbe,List.getElem?_map,List.getElem?_range hj2];simp only[Option.map_some,zeb,wL]
 have h331:=qb9 hsp.2 O;rw[hsp.1]at h331;have hq:v6.wrap ((n:Int).tdiv 32)=((n/32:Nat):Int):=by
  rw[show(n:Int).tdiv 32=((n/32:Nat):Int)from qT n 32,wI O]
 have h9:(n:Int).tmod 32=((n % 32:Nat):Int):=qP n 32;have hfin:∀s:Int,0<=s/\s<18446744073709551616->v7.wrap (v5.wrap ((q0 v5.bits (s.fdiv (2^min ((n:Int).tmod 32).toNat v5.bits))&&& q0 v5.bits 4294967295).toNat :Int))=(s/2^(n % 32)) % 4294967296:=fun s hs=>by
  have hp:(0:Int)<2^(n % 32):=wK OA;have hd:0<=s/2^(n % 32):=wT hs.1 O;have hd2:s/2^(n % 32)<=s:=wQ _ hs.1;rw[h9,show min ((n % 32:Nat):Int).toNat v5.bits=n % 32 by show min ((n % 32:Nat):Int).toNat 64=n % 32;omega,qB _ O,zij _ ⟨hd,O⟩];simp[v9,v8,vc]
 clear hA hsp;refine fY6 Tryz.func210 rfl ?_;refine⟨O,?_⟩;conv=>whnf
 rw[hq];refine⟨Nat,fun j=>j<=A.length,fun j=> [(6,.int .i64 ((n/32+j:Nat):Int)),(5,.own 33)],fun j=> [(33,.buf 101 .u32 (A.take j))],fun j=>A.length-j,0,Nat.zero_le _,?_,fun j hj=>?_⟩
 .exact KZ0
 have hj:j<=A.length:=hj;refine gYe ?_;refine brI (fun h1=>?_) (fun h1=>?_)
 .have h1:n/32+j<a.length:=by
   have h1:((n/32+j:Nat):Int)<(a.length:Int):=Z0 h1;omega
  have hF:=hAt j O;have hstep:A.take j++ [((a[n/32+j]?.getD 0+a[n/32+(j+1)]?.getD 0*4294967296)/2^(n % 32)) % 4294967296]=A.take (j+1):=by rw[wN,hF];rfl
  have r1:=ra (n/32+j);have r2:=ra (n/32+(j+1));have b1:=ha.at (n/32+j);have b2:=ha.at (n/32+(j+1));have hw:v6.wrap (((n/32+j:Nat):Int)+1)=((n/32+(j+1):Nat):Int):=by rw[wI O];omega
  generalize a[n/32+j]?.getD 0=x at*;generalize a[n/32+(j+1)]?.getD 0=y at*;have es:v5.wrap (x+v5.wrap (y*4294967296))=x+y*4294967296:=by
   rw[wU (x:=y*4294967296) O,wU O]
  have hlen:(A.take j).length =j:=by rw[wR];omega
  conv=>whnf
  refine gYn r1 ?_;rw[hw];refine gYn r2 ?_;refine⟨OA,?_⟩;conv=>whnf
  refine⟨O,?_⟩;conv=>whnf
  refine⟨by rw[h9];omega,?_⟩;conv=>whnf
  refine⟨by rw[hlen];simp;omega,?_⟩;conv=>whnf
  refine⟨j+1,O,by show A.length-(j+1)<A.length-j;omega,?_⟩
  ((conv=>whnf);refine qE ?_ ?_;repeat' first|refine lc ?_ ?_|refine lh1 ?_ ?_|refine bc0 ?_|exact KXZ|refine lg0 ?_|refine lt0 ?_)
  .exact ai0 hw
  .exact bb0 (by
    rw[<-hstep];show A.take j++ [_]=_
    congr 2
    rw[<-hfin _ O,<-es];rfl)
 .have h1:¬n/32+j<a.length:=by
   have h1:¬((n/32+j:Nat):Int)<(a.length:Int):=Z3 h1;omega
  rw[q9 O];conv=>whnf
  refine gYn h331 ?_;exact⟨lr rfl,lh0⟩
theorem lo_or{x r o:Nat}(hr:r<32)(ho:o<2^r):o|||(x*2^r % 4294967296)=o+x*2^r % 4294967296/\o+x*2^r % 4294967296<4294967296:=by
 have e:(4294967296:Nat)=2^r*2^(32-r):=by rw[<-w9,(O:r+(32-r)=32)]
 have h1:x*2^r % 4294967296=2^r*(x % 2^(32-r)):=by rw[e,w4 x,Nat.mul_mod_mul_left]
 have h2:x % 2^(32-r)+1<=2^(32-r):=wM _ (qF _);have h3:=w2 (2^r) h2;rw[<-e,qH,we]at h3;rw[h1];constructor
 .rw[Nat.or_comm,<-Nat.two_pow_add_eq_or_of_lt ho,v3]
 .omega
theorem zvh{B KP IP P vo v1 v2 vt s o:Nat}(hP:P=KP*IP)(h0:vo=KP*vt)(h1:v1+P*o=vo+P*(o+s % B))(h2:v2=v1+P*B*(s/B)):v2=KP*vt+KP*(IP*s):=by
 have hmd:=w1 s B;have q:P*(s % B)+P*B*(s/B)=P*s:=by
  conv=>rhs;rw[<-hmd]
  rw[qH,qI,v3]
 rw[<-qI,<-hP];rw[qH]at h1;omega
theorem qdb{x:Nat}(hx:x<4294967296)(r:Nat):x*2^r/4294967296<2^r:=by
 have hp:=qF r;generalize 2^r=p at*;exact(wJ OA).2 (by rw[w4 p];exact w5 hx hp)
theorem zrb{out t:List Int}{K i r x o:Nat}(_:LB out)(hi3:out.length=K+t.length+1)(hi:i<t.length)(hxa:t[i]? =some (x:Int))(hi4:val out=4294967296^K*(val (t.take i)*2^r))(ho:out[K+i]?.getD 0=(o:Int))(hz:out[K+i+1]?.getD 0=0):
 val ((out.set (K+i) ((o+x*2^r % 4294967296:Nat):Int)).set (K+i+1) ((x*2^r/4294967296:Nat):Int))=4294967296^K*(val (t.take (i+1))*2^r):=by
 have hvt:val (t.take (i+1))=val (t.take i)+4294967296^i*x:=by rw[xn,hxa,qC,qA]
 rw[hvt,Nat.add_mul,qH,qI (4294967296^i)];generalize x*2^r=s at*;have hv1:=kd out (K+i) ((o+s % 4294967296:Nat):Int) O;have hv2:=kd (out.set (K+i) ((o+s % 4294967296:Nat):Int)) (K+i+1) ((s/4294967296:Nat):Int) (by rw[qS];omega);rw[w0 O,hz,qA,qW,wO,qU,w3]at hv2;rw[ho,qA,qA]at hv1;exact zvh (w9 _ _ _) hi4 hv1 hv2
theorem r304{a:List Int}(ha:LB a)(hal:a.length<=100000)(n:Nat)(hn:n<=100000):Fn 212 [] [.sl .u32 a,.int .i64 n] (.sl .u32 (toL (val a*2^n))) []:=by
 have h331:=qb9 ha O;have hll:(toL (val a)).length <=100000:=qM (zis ha) hal;have hlb:=zn (val a);have htv:=zj (val a);generalize val a=X at*;generalize toL X=t at*;have hq:v6.wrap ((n:Int).tdiv 32)=((n/32:Nat):Int):=by
  rw[show(n:Int).tdiv 32=((n/32:Nat):Int)from qT n 32,wI O]
 have h9:(n:Int).tmod 32=((n % 32:Nat):Int):=qP n 32;have hr:n % 32<32:=wM _ OA;have hkr:32*(n/32)+n % 32=n:=O;have hk:n/32<=3125:=O;have hpn:2^n=2^(32*(n/32))*2^(n % 32):=by rw[<-w9,hkr]
 rw[hpn];generalize hK:n/32=K at*;generalize hR:n % 32=r at*;have hp31:2^r<=2147483648:=qO (n:=2) OA (O:r<=31);refine fY6 Tryz.func212 rfl ?_;refine gYn h331 ?_;refine⟨O,?_⟩;conv=>whnf
 rw[hq,wI (x:=((K:Nat):Int)+(t.length:Int)) O,wI (x:=((K:Nat):Int)+(t.length:Int)+1) O];refine⟨⟨O,O,O⟩,?_⟩;conv=>whnf
 refine⟨Nat×List Int,fun z=>z.1<=t.length/\LB z.2/\z.2.length=K+t.length+1/\val z.2=4294967296^K*(val (t.take z.1)*2^r)/\(z.2[K+z.1]?.getD 0).toNat <2^r/\(∀j,K+z.1<j->z.2[j]?.getD 0=0),fun z=> [(6,.int .i64 z.1)],fun z=> [(16,.buf 101 .u32 z.2)],fun z=>t.length-z.1,(0,w7 (K+t.length+1) 0),⟨OC,(fun z hz=>by rw[List.eq_of_mem_replicate hz];omega),OC,by rw[zd8];simp[val],by simp only[wE];split<;>simp[qF],fun j _=>by
  simp only[wE];split<;>rfl⟩,?_,fun z hz=>?_⟩
 .exact KZ0
 obtain⟨i,out⟩:=z;obtain⟨hi1,hi2,hi3,hi4,hi5,hi6⟩:=hz;simp only at hi1 hi2 hi3 hi4 hi5 hi6;refine gYe ?_;refine brI (fun h1=>?_) (fun h1=>?_)
 .have hi:i<t.length:=by simp only[Z4]at h1;omega
  have hxa:t[i]? =some t[i]:=q3 hi;have hxb:=hlb _ (qG hi);generalize t[i]=x at hxa hxb;obtain⟨x,rfl⟩:=wD hxb.1;have hx:x<4294967296:=O;have hgo:out[K+i]? =some (out[K+i]?.getD 0):=by rw[q3 O];rfl
  have hob:=hi2.at (K+i);obtain⟨o,ho⟩:∃o:Nat,out[K+i]?.getD 0=(o:Int):=⟨_,(Int.toNat_of_nonneg hob.1).symm⟩;have ho2:o<2^r:=by rw[ho,qA]at hi5;exact hi5
  obtain⟨l1,l2⟩:=lo_or (x:=x) hr ho2;have hs2:x*2^r<4294967296*2^r:=w5 hx (qF _);have es:v5.wrap (((x:Nat):Int)*2^min ((n:Int).tmod 32).toNat v5.bits)=((x*2^r:Nat):Int):=by
   have e1:min ((n:Int).tmod 32).toNat v5.bits=r:=by rw[h9];show min ((r:Nat):Int).toNat 64=r;omega
   rw[e1,show((x:Nat):Int)*2^r=((x*2^r:Nat):Int) by simp,wU O]
  have hhi:=qdb hx r;have hor:v7.wrap ((q0 v7.bits (o:Int)|||q0 v7.bits (v7.wrap (v5.wrap ((q0 v5.bits (v5.wrap (((x:Nat):Int)*2^min ((n:Int).tmod 32).toNat v5.bits))&&& q0 v5.bits 4294967295).toNat :Int)))).toNat :Int)=((o+x*2^r % 4294967296:Nat):Int):=by
   rw[es,loB O];have h:=or32 o (x*2^r % 4294967296) O (wM _ OA);rw[l1]at h;exact h
  have hval:=zrb hi2 hi3 hi hxa hi4 ho (hi6 _ (wS _));have hik:v6.wrap ((i:Int)+((K:Nat):Int))=((K+i:Nat):Int):=by rw[wI O];omega
  have hik1:v6.wrap (((K+i:Nat):Int)+1)=((K+i+1:Nat):Int):=by rw[wI O];omega
  conv=>whnf
  refine⟨⟨O,OD⟩,fun(z:Int)hz=>?_⟩;have hz:t[i]? =some z:=by simpa using hz
  rw[hxa]at hz;cases hz
  conv=>whnf
  refine⟨O,?_⟩;conv=>whnf
  refine⟨by rw[h9];omega,?_⟩;conv=>whnf
  rw[hq,wU (x:=((x:Nat):Int)) O];refine⟨OA,?_⟩;conv=>whnf
  refine⟨OA,?_⟩;conv=>whnf
  refine⟨⟨by show 0<=v6.wrap ((i:Int)+v6.wrap ((n:Int).tdiv 32));rw[hq,hik];omega,by show v6.wrap ((i:Int)+v6.wrap ((n:Int).tdiv 32))<(out.length:Int);rw[hq,hik];omega⟩,?_⟩;conv=>whnf
  refine⟨by show(v6.wrap ((i:Int)+v6.wrap ((n:Int).tdiv 32))).toNat <out.length;rw[hq,hik];omega,fun(q:Int)hq2=>?_⟩;have hq2:out[K+i]? =some q:=by
   have hq2:out[(v6.wrap ((i:Int)+v6.wrap ((n:Int).tdiv 32))).toNat]? =some q:=hq2
   rwa [hq,hik,qA]at hq2
  rw[hgo,ho]at hq2;cases hq2
  conv=>whnf
  refine⟨⟨by show 0<=v6.wrap ((i:Int)+((K:Nat):Int));rw[hik];omega,by show v6.wrap ((i:Int)+((K:Nat):Int))<(out.length:Int);rw[hik];omega⟩,?_⟩;conv=>whnf
  refine⟨by show(v6.wrap ((i:Int)+((K:Nat):Int))).toNat <out.length;rw[hik];omega,?_⟩;conv=>whnf
  refine⟨OA,?_⟩;conv=>whnf
  refine⟨OA,?_⟩;conv=>whnf
  rw[hor];refine⟨⟨by show 0<=v6.wrap (v6.wrap ((i:Int)+v6.wrap ((n:Int).tdiv 32))+1);rw[hq,hik,hik1];omega,by show v6.wrap (v6.wrap ((i:Int)+v6.wrap ((n:Int).tdiv 32))+1)<((wX out _ _).length :Int);rw[hq,hik,hik1,qS];omega⟩,?_⟩;conv=>whnf
  refine⟨by show(v6.wrap (v6.wrap ((i:Int)+v6.wrap ((n:Int).tdiv 32))+1)).toNat <(wX out _ _).length;rw[hq,hik,hik1,qS];omega,?_⟩;conv=>whnf
  refine⟨(i+1,(out.set (K+i) ((o+x*2^r % 4294967296:Nat):Int)).set (K+i+1) ((x*2^r/4294967296:Nat):Int)),⟨OD,(hi2.set ⟨O,O⟩).set ⟨O,O⟩,by simp only[qS];exact hi3,hval,?_,fun j hj=>?_⟩,by show t.length-(i+1)<t.length-i;omega,?_⟩
  .simp only;rw[(O:K+(i+1)=K+i+1),List.getElem?_set_self (by rw[qS];omega),qC,qA];exact hhi
  .simp only at hj⊢;rw[w0 O,w0 O];exact hi6 j O
  ((conv=>whnf);refine qE ?_ ?_;repeat' first|refine lc ?_ ?_|refine lh1 ?_ ?_|refine bc0 ?_|exact KXZ|refine lg0 ?_|refine lt0 ?_)
  .exact ai0 (by rw[wI OD];simp only;omega)
  .exact bb0 (by
    show wX (wX out (v6.wrap ((i:Int)+((K:Nat):Int))).toNat ((o+x*2^r % 4294967296:Nat):Int)) (v6.wrap (v6.wrap ((i:Int)+v6.wrap ((n:Int).tdiv 32))+1)).toNat (v7.wrap ((v5.wrap (((x:Nat):Int)*2^min ((n:Int).tmod 32).toNat v5.bits)).fdiv 4294967296))=_;rw[hq,hik,hik1,qA,qA,es,fdB,zpg O])
 .have hi:i=t.length:=by simp only[Z5]at h1;omega
  subst hi;rw[qR,htv]at hi4;have hB:(4294967296:Nat)^K=2^(32*K):=by rw[v4]
  have h2:=qb9 hi2 O;rw[hi4,hB,show 2^(32*K)*(X*2^r)=X*(2^(32*K)*2^r) by rw[<-qI,w4 (2^(32*K)) X,qI]]at h2;conv=>whnf
  refine gYn h2 ?_;exact⟨lr rfl,lh0⟩
theorem r329(p:Int):Fn 37 [] [.int .i64 p] (.bool (decide (8<=p/\p<=512))) []:=by
 refine fY6 Tryz.func37 rfl ?_;refine brI (fun h=>?_) (fun h=>?_)
 .have h:p≥8:=Z0 h;conv=>whnf
  exact⟨ab0 (decide_eq_decide.2 O),lh0⟩
 .have h:¬p≥8:=Z3 h;rw[Z9 (O:¬(8<=p/\p<=512))];conv=>whnf
  exact⟨lr rfl,lh0⟩
def ftR(a b:Dy)(p:Int):Int:=if vB a=true/\vB b=true then(if 8<=p/\p<=512 then 0 else 2)else 1
theorem r299(a b:Dy)(ha:LB a.m)(hb:LB b.m)(hal:a.m.length<=1000000)(hbl:b.m.length<=1000000)(p:Int):Fn 80 [] [.agg (dyC a),.agg (dyC b),.int .i64 p] (.int .i64 (ftR a b p)) []:=by
 have h1:=zzx a ha O;have h2:=zzx b hb O;have h3:=r329 p;unfold ftR;generalize vB a=A at*;generalize vB b=B at*;by_cases hp:8<=p/\p<=512
 .rw[Z8 hp]at h3;rw[Z6 hp];cases A<;>cases B<;>
  .refine fY6 Tryz.func80 rfl ?_;refine gYn h1 ?_
   first
    |exact⟨lr rfl,lh0⟩
    |(refine gZn h2 ?_
      conv=>whnf
      first
       |exact⟨lr rfl,lh0⟩
       |(refine gZn h3 ?_
         conv=>whnf
         exact⟨lr rfl,lh0⟩))
 .rw[Z9 hp]at h3;rw[Z7 hp];cases A<;>cases B<;>
  .refine fY6 Tryz.func80 rfl ?_;refine gYn h1 ?_
   first
    |exact⟨lr rfl,lh0⟩
    |(refine gZn h2 ?_
      conv=>whnf
      first
       |exact⟨lr rfl,lh0⟩
       |(refine gZn h3 ?_
         conv=>whnf
         exact⟨lr rfl,lh0⟩))
theorem r336(neg:Bool)(p:Nat)(hp:8<=p/\p<=512):Fn 214 [] [.bool neg,.int .i64 p] (.agg (dyC (cnN neg (2^p-1) (16384-p)))) []:=by
 have lb1:LB [1]:=fun z hz=>by
  have:z=1:=by simpa using hz
  omega
 have hv1:val [1]=1:=rfl;have h1:=r304 lb1 OC p O;rw[hv1,Nat.one_mul]at h1;have hl:(toL (2^p)).length <=100:=(qb _ 100).2 (by have:=wq.2 (Nat.pow_lt_pow_right (a:=2) OA (wS p));omega);have hpos:=qF p;have h2:=r341 (zn (2^p)) lb1 O OC (by rw[hv1,zj];omega) (by
  have:(toL (2^p)).length ≠0:=by rw[Ne,jv];omega
  simp;omega)
 rw[hv1,zj]at h2;have h3:=zzw neg (zn (2^p-1)) (qM (xr (Nat.sub_le _ _) hl) O) (16384-p) O;rw[zj]at h3;generalize toL (2^p-1)=L2 at*;generalize toL (2^p)=L1 at*;generalize cnN neg (2^p-1) (16384-p)=R at*;refine fY6 Tryz.func214 rfl ?_;refine gYn h1 ?_;refine gYn h2 ?_;rw[wI O];refine gYn h3 ?_;exact⟨lr rfl,lh0⟩
def kR(m:Nat)(e p:Int):Nat:=(max (max ((bl m:Int)-p) (-16384-e)) 0).toNat
def moR(m:Nat)(e p:Int)(more:Bool):Bool:=more||decide (m % 2^kR m e p≠0)
def quR(neg:Bool)(m:Nat)(e p:Int)(more up:Bool):Nat:=if(moR m e p more&&(neg != up))=true then m/2^kR m e p+1 else m/2^kR m e p
def zts(neg:Bool)(m:Nat)(e:Int)(more:Bool)(p:Nat)(up:Bool):Dy×Int:=
 if 0<bl (quR neg m e p more up)/\16384<(bl (quR neg m e p more up):Int)+e+kR m e p then(if(neg != up)=true then(d0,9)else(cnN neg (2^p-1) (16384-p),0))
 else(cnN neg (quR neg m e p more up) (e+kR m e p),0)
theorem zz3(m k:Nat):(ul (m/2^k*2^k) m != 0)=decide (m % 2^k≠0):=by
 rw[zmi];refine decide_eq_decide.2 ?_;have:=w1 m (2^k);rw[w4]at this;omega
noncomputable def qbj:Code:=Tryz.f153.body.getD .skip
theorem r305(neg:Bool){l:List Int}(hb:LB l)(hl:l.length<=3000)(e:Int)(he: -80000<=e/\e<=100000)(more:Bool)(p:Nat)(hp:8<=p/\p<=512)(up:Bool):
 Fn 153 [] [.bool neg,.sl .u32 l,.int .i64 e,.bool more,.int .i64 p,.bool up] (dyV (zts neg (val l) e more p up)) []:=by
 have h331:=qb9 hb O;have hll:(toL (val l)).length <=3000:=qM (zis hb) hl;generalize val l=m at*;have hbm:bl m<=32*3000:=(qb _ _).1 hll;have h302:=r302 (zn m) O;rw[zj]at h302;have hkd:((kR m e p:Nat):Int)=max (max ((bl m:Int)-p) (-16384-e)) 0:=by unfold kR;omega
 have hkb:kR m e p<=96000:=O;have h334:=r334 (zn m) O (kR m e p) O;rw[zj]at h334;have hK:(if(0:Int)>(if v6.wrap (-16384-e)>v6.wrap ((bl m:Nat)-(p:Int))then v6.wrap (-16384-e)else v6.wrap ((bl m:Nat)-(p:Int)))then 0 else(if v6.wrap (-16384-e)>v6.wrap ((bl m:Nat)-(p:Int))then v6.wrap (-16384-e)else v6.wrap ((bl m:Nat)-(p:Int))))=((kR m e p:Nat):Int):=by
  rw[wI (x:= -16384-e) O,wI (x:=((bl m:Nat):Int)-(p:Int)) O,hkd];split<;>(try split)<;>omega
 have hql:(toL (m/2^kR m e p)).length <=3000:=xr (wG _ _) hll;have h304:=r304 (zn (m/2^kR m e p)) O (kR m e p) O;rw[zj]at h304;have h310:=r310 (zn (m/2^kR m e p*2^kR m e p)) (zn m) (qM (xr (Nat.div_mul_le_self _ _) hll) O) O;rw[zj,zj]at h310;have hord:=zz3 m (kR m e p);refine qv (code:=qbj) hT6 hmx Tryz.func153 rfl rfl (ex:= []) ?_;conv=>whnf
 refine wm hT6 hmx 6 (fun _:Unit=>⟨[.bool neg,.sl .u32 (toL m),.int .i64 e,.bool (moR m e p more),.int .i64 p,.bool up,.any,.any,.any,.any,.any,.any,.ptr 12 0,.int .i64 0,.any,.int .i64 ((kR m e p:Nat):Int),.sl .u32 (toL (m/2^kR m e p))]++yo 57,[(12,.cells [.bool false,.nilsl,.int .i64 0])]⟩) (fun _=>Z) ?_ (fun _=>?_)
 .unfold moR;generalize ul (m/2^kR m e p*2^kR m e p) m=Oq at*;have hk0:kR m e p=0->decide (m % 2^kR m e p≠0)=false:=fun h=>by rw[h];simp;omega
  generalize decide (m % 2^kR m e p≠0)=D at*;conv=>whnf
  refine gYn h331 ?_;refine gYn h302 ?_;rw[hK];refine gYn h334 ?_;refine brI (fun h=>?_) (fun h=>?_)
  .conv=>whnf
   refine gYn h304 ?_;refine gYn h310 ?_;refine brI (fun h2=>?_) (fun h2=>?_)
   .have h2:(Oq != 0)=true:=h2;rw[hord]at h2;conv=>whnf
    refine⟨(),?_⟩
    ((conv=>whnf);refine qE ?_ ?_;repeat' first|refine lc ?_ ?_|refine lh1 ?_ ?_|refine bc0 ?_|exact KXZ|refine lg0 ?_|refine lt0 ?_)
    all_goals exact ab0 (by rw[h2,Bool.or_true])
   .have h2:(Oq != 0)=false:=h2;rw[hord]at h2;conv=>whnf
    refine⟨(),?_⟩
    ((conv=>whnf);refine qE ?_ ?_;repeat' first|refine lc ?_ ?_|refine lh1 ?_ ?_|refine bc0 ?_|exact KXZ|refine lg0 ?_|refine lt0 ?_)
    all_goals exact ab0 (by rw[h2,wZ])
  .have h:¬((kR m e p:Nat):Int)>0:=Z3 h;have h2:=hk0 O;conv=>whnf
   refine⟨(),?_⟩
   ((conv=>whnf);refine qE ?_ ?_;repeat' first|refine lc ?_ ?_|refine lh1 ?_ ?_|refine bc0 ?_|exact KXZ|refine lg0 ?_|refine lt0 ?_)
   all_goals exact ab0 (by rw[h2,wZ])
 .have lb1:LB [1]:=fun z hz=>by
   have:z=1:=by simpa using hz
   omega
  have h335:=r335 (zn (m/2^kR m e p)) lb1 O OC;rw[zj,show val [1]=1 from rfl]at h335;have hqd:quR neg m e p more up=if(moR m e p more&&(neg != up))=true then m/2^kR m e p+1 else m/2^kR m e p:=rfl
  have hQl:(toL (quR neg m e p more up)).length <=4000:=by
   have hq0:bl (m/2^kR m e p)<=32*3000:=(qb _ _).1 hql;rw[qb];have:=zeq (m/2^kR m e p);rw[hqd];split<;>omega
  have h302':=r302 (zn (quR neg m e p more up)) O;rw[zj]at h302';have hbQ:bl (quR neg m e p more up)<=32*4000:=(qb _ _).1 hQl;have h296:=zzw neg (zn (quR neg m e p more up)) O (e+kR m e p) O;rw[zj]at h296;have h336:=r336 neg p hp;have hcd:zts neg m e more p up=if 0<bl (quR neg m e p more up)/\16384<(bl (quR neg m e p more up):Int)+e+kR m e p then(if(neg != up)=true then(d0,9)else(cnN neg (2^p-1) (16384-p),0))else(cnN neg (quR neg m e p more up) (e+kR m e p),0):=rfl
  rw[hcd];generalize moR m e p more=MO at*;refine wm hT6 hmx 2 (fun _:Unit=>⟨[.bool neg,.any,.int .i64 e,.any,.int .i64 p,.any,.any,.any,.any,.any,.any,.any,.ptr 12 0,.int .i64 0,.any,.int .i64 ((kR m e p:Nat):Int),.sl .u32 (toL (quR neg m e p more up)),.bool (neg != up)]++yo 56,[(12,.cells [.bool false,.nilsl,.int .i64 0])]⟩) (fun _=>Z) ?_ (fun _=>?_)
  .generalize quR neg m e p more up=QU at*
   cases MO with
   |false=>
    have hqd:QU=m/2^kR m e p:=by rw[hqd];rfl
    conv=>whnf
    refine⟨(),?_⟩
    ((conv=>whnf);refine qE ?_ ?_;repeat' first|refine lc ?_ ?_|refine lh1 ?_ ?_|refine bc0 ?_|exact KXZ|refine lg0 ?_|refine lt0 ?_)
    all_goals exact ju (by rw[hqd])
   |true=>
    conv=>whnf
    refine brI (fun h=>?_) (fun h=>?_)
    .have h:(neg != up)=true:=h;have hqd:QU=m/2^kR m e p+1:=by rw[hqd,h];rfl
     conv=>whnf
     refine gYn h335 ?_;refine⟨(),?_⟩
     ((conv=>whnf);refine qE ?_ ?_;repeat' first|refine lc ?_ ?_|refine lh1 ?_ ?_|refine bc0 ?_|exact KXZ|refine lg0 ?_|refine lt0 ?_)
     all_goals exact ju (by rw[hqd])
    .have h:(neg != up)=false:=h;have hqd:QU=m/2^kR m e p:=by rw[hqd,h];rfl
     conv=>whnf
     refine⟨(),?_⟩
     ((conv=>whnf);refine qE ?_ ?_;repeat' first|refine lc ?_ ?_|refine lh1 ?_ ?_|refine bc0 ?_|exact KXZ|refine lg0 ?_|refine lt0 ?_)
     all_goals exact ju (by rw[hqd])
  .clear hqd h335 h304 h310 hord h331 h334 h302;have hkk:kR m e p<=96000:=hkb;generalize quR neg m e p more up=QU at*;generalize kR m e p=k at*;generalize (neg != up)=OUT at*;generalize cnN neg (2^p-1) (16384-p)=GR at*;generalize cnN neg QU (e+k)=RR at*;generalize toL QU=LQ at*;generalize bl QU=B at*;have hk2:v6.wrap (e+(k:Int))=e+k:=wI O;refine vr hT6 hmx ?_;conv=>whnf
   refine gYn h302' ?_;refine brI (fun h1=>?_) (fun h1=>?_)
   .have h1:(B:Int)>0:=Z0 h1;conv=>whnf
    refine gYn h302' ?_;rw[wI (x:=(B:Int)+e) O,wI (x:=(B:Int)+e+(k:Int)) O];refine brI (fun h2=>?_) (fun h2=>?_)
    .have h2:(B:Int)+e+k>16384:=Z0 h2;rw[Z6 ⟨O,O⟩]
     cases OUT with
     |true=>
      conv=>whnf
      exact⟨lt0 (lc qam (lc (lr rfl) ln0)),lh0⟩
     |false=>
      conv=>whnf
      refine gYn h336 ?_;exact⟨lr rfl,lh0⟩
    .have h2:¬(B:Int)+e+k>16384:=Z3 h2;rw[Z7 O];conv=>whnf
     rw[hk2];refine gYn h296 ?_;exact⟨lr rfl,lh0⟩
   .have h1:¬(B:Int)>0:=Z3 h1;rw[Z7 O];conv=>whnf
    rw[hk2];refine gYn h296 ?_;exact⟨lr rfl,lh0⟩
def zxj(d:Dy):Prop:=LB d.m/\d.m.length<=3000/\ -80000<=d.e/\d.e<=100000
theorem zpd{d:Dy}(h:VD d):zxj d:=⟨h.lb,by have:=h.len;omega,by have:=h.exp;omega,by have:=h.exp;omega⟩
theorem zd6(neg:Bool){n:Nat}{e:Int}(hn:bl n<=60000)(he: -40000<=e/\e<=40000):zxj (cnN neg n e):=by
 unfold cnN;split
 .exact⟨(fun x hx=>by cases hx),OA,OA,OA⟩
 .rename_i h;have h1:=znf h;refine⟨zn _,?_,OD,OD⟩;simp only;exact xr (wG _ _) ((qb _ _).2 O)
theorem zun{a b:Dy}(ha:VD a)(hb:VD b):zxj (zdc a b):=by
 unfold zdc;have ea:=ha.exp;have eb:=hb.exp;have ba:=ha.bits;have bb:=hb.bits;split
 .exact zpd hb
 rename_i h1;split
 .exact zpd ha
 rename_i h2;have q1:bl (nm a*2^(a.e-min a.e b.e).toNat)<=40000:=by rw[zu _ _ h1];omega
 have q2:bl (nm b*2^(b.e-min a.e b.e).toNat)<=40000:=by rw[zu _ _ h2];omega
 have hm: -40000<=min a.e b.e/\min a.e b.e<=40000:=O;generalize nm a*2^(a.e-min a.e b.e).toNat =X at*;generalize nm b*2^(b.e-min a.e b.e).toNat =Y at*;split
 .exact zd6 _ (by have:=zo7 q1 q2;omega) hm
 split
 .exact zd6 _ (by have:=zx (O:X-Y<=X);omega) hm
 .exact zd6 _ (by have:=zx (O:Y-X<=Y);omega) hm
theorem r300{d:Dy}(h:zxj d)(p:Nat)(hp:8<=p/\p<=512)(up:Bool):Fn 81 [] [.agg (dyC d),.int .i64 p,.bool up] (dyV (zts d.neg (nm d) d.e false p up)) []:=by
 have h305:=r305 d.neg h.1 h.2.1 d.e h.2.2 false p hp up;have h305:Fn 153 [] [.bool d.neg,.sl .u32 d.m,.int .i64 d.e,.bool false,.int .i64 p,.bool up] (dyV (zts d.neg (nm d) d.e false p up)) []:=h305;generalize zts d.neg (nm d) d.e false p up=R at*;obtain⟨s,m,e⟩:=d;obtain⟨⟨r1,r2,r3⟩,r4⟩:=R;refine fY6 Tryz.func81 rfl ?_;refine gYn h305 ?_;exact⟨lr rfl,lh0⟩
def zxa(a b:Dy)(p:Nat)(up:Bool):Dy×Int:=zts (zdc a b).neg (nm (zdc a b)) (zdc a b).e false p up
theorem r255{a b:Dy}(ha:VD a)(hb:VD b)(p:Nat)(hp:8<=p/\p<=512)(up:Bool):Fn 46 [] [.agg (dyC a),.agg (dyC b),.int .i64 p,.bool up] (dyV (zxa a b p up)) []:=by
 have hla:=ha.len;have hlb:=hb.len;have h299:=r299 a b ha.lb hb.lb O O p;rw[show ftR a b p=0 by unfold ftR;rw[Z6 ⟨(ud ha.lb).2 ha,(ud hb.lb).2 hb⟩,Z6 O]]at h299;have h253:=r253 ha hb;have h300:=r300 (zun ha hb) p hp up;unfold zxa;generalize zts (zdc a b).neg (nm (zdc a b)) (zdc a b).e false p up=R at*;generalize zdc a b=S at*;obtain⟨⟨r1,r2,r3⟩,r4⟩:=R;refine fY6 Tryz.func46 rfl ?_;refine gYn h299 ?_;refine gYn h253 ?_;refine gYn h300 ?_;exact⟨lr rfl,lh0⟩
theorem zn8(n:Nat)(e:Int):kc (cnN false n e)=cnN true n e:=by
 unfold cnN;split
 .rfl
 .rename_i h;obtain⟨m,h1,h2⟩:=zbc h;have h3:n/2^tz n=m:=qQ (qF _) h1;unfold kc;rw[Z7 (by rw[zal,h3];omega)];rfl
theorem qbd(neg:Bool)(m:Nat)(e:Int)(more:Bool)(p:Nat)(up:Bool)(hm:more=true->p<bl m)(h0:m=0->e<=16384+p)(hp:8<=p/\p<=512):zts neg m e more p up=zar neg m e more p up:=by
 have hx:(neg != up)=(up != neg):=by cases neg<;>cases up<;>rfl
 have key:∃(Q:Nat)(u:Int),zbb m e more p (up != neg)=(if 16384<(bl Q:Int)+u then(if(up != neg)=true then(d0,9)else(cnN false (2^p-1) (16384-p),0))else(cnN false Q u,0))/\
  zts neg m e more p up=(if 16384<(bl Q:Int)+u then(if(up != neg)=true then(d0,9)else(cnN neg (2^p-1) (16384-p),0))else(cnN neg Q u,0)):=by
  refine⟨upN (wt m e more (unN m e p)) (up != neg),unN m e p,rfl,?_⟩;unfold zts;rw[hx];by_cases hu:unN m e p<=e
  .have hb:bl m<=p:=by unfold unN at hu;omega
   have hmo:more=false:=by
    cases more with
    |false=>rfl
    |true=>have:=hm rfl;omega
   subst hmo;have hk:kR m e p=0:=by unfold kR;unfold unN at hu;omega
   have hq:quR neg m e p false up=m:=by
    have hmo:moR m e p false=false:=by unfold moR;rw[hk];simp;omega
    unfold quR;rw[hmo,qK,Z7 OC,hk];simp
   rw[hq,hk];have hF:upN (wt m e false (unN m e p)) (up != neg)=m*2^(e-unN m e p).toNat :=by
    unfold wt;rw[Z6 hu];unfold upN;simp
   rw[hF,ztx,(O:unN m e p+((e-unN m e p).toNat :Int)=e)];simp only[Int.natCast_zero,v0];by_cases hm0:m=0
   .have:=h0 hm0;subst hm0;have hbu:unN 0 e p<=16384:=by unfold unN;rw[ja];omega
    rw[Nat.zero_mul,ja,Z7 O,Z7 O]
   .have hbp:bl m≠0:=fun c=>hm0 (uq.1 c)
    rw[zu _ _ hm0];by_cases hc:16384<(bl m:Int)+e
    .rw[Z6 ⟨O,hc⟩,Z6 (show 16384<((bl m+(e-unN m e p).toNat :Nat):Int)+unN m e p by omega)]
    .rw[Z7 O,Z7 (show ¬16384<((bl m+(e-unN m e p).toNat :Nat):Int)+unN m e p by omega)]
  .have hk:kR m e p=(unN m e p-e).toNat :=by unfold kR;unfold unN at hu⊢;omega
   have hF:upN (wt m e more (unN m e p)) (up != neg)=quR neg m e p more up:=by
    unfold wt quR moR;rw[Z7 hu,hk,hx];unfold upN;simp only[Bool.and_comm]
   rw[hF,hk,(O:e+((unN m e p-e).toNat :Int)=unN m e p)];by_cases hc:16384<(bl (quR neg m e p more up):Int)+unN m e p
   .have hpos:0<bl (quR neg m e p more up):=by
     by_cases hz:bl (quR neg m e p more up)=0
     .exfalso;rw[hz]at hc;have hub:unN m e p=e+bl m-p:=by unfold unN at hc⊢;omega
      have hq0:quR neg m e p more up=0:=uq.1 hz;have hk2:kR m e p=bl m-p:=by rw[hk];omega
      have hle:m/2^kR m e p<=quR neg m e p more up:=by unfold quR;split<;>omega
      have hm1:2^kR m e p<=m:=by
       have hmz:m≠0:=fun c=>by
        have:bl m=0:=by rw[c];rfl
        omega
       exact(zbr hmz).1 O
      have:=(Nat.div_pos_iff (a:=m) (b:=2^kR m e p)).2 ⟨qF _,hm1⟩;omega
     .omega
    rw[Z6 ⟨hpos,O⟩,Z6 hc]
   .rw[Z7 O,Z7 hc]
 obtain⟨Q,u,h1,h2⟩:=key;rw[h2];unfold zar;rw[h1];by_cases hc:16384<(bl Q:Int)+u
 .rw[Z6 hc,Z6 hc];cases hxx:(up != neg)with
  |true=>simp
  |false=>
   simp only[Bool.false_eq_true,if_false]
   cases neg with
   |true=>simp[zn8]
   |false=>simp
 .rw[Z7 hc,Z7 hc]
  cases neg with
  |true=>simp[zn8]
  |false=>simp
theorem r262(n:Int)(h: -4611686018427387904<=n/\n<=4611686018427387904):Fn 54 [] [.int .i64 n] (.agg (dyC (wo n))) []:=by
 have hv:val [((n.natAbs % 4294967296:Nat):Int),((n.natAbs/4294967296:Nat):Int)]=n.natAbs:=by
  rw[qu,qu,qA,qA];simp only[val];omega
 have hb:LB [((n.natAbs % 4294967296:Nat):Int),((n.natAbs/4294967296:Nat):Int)]:=fun z hz=>by
  simp only[List.mem_cons,List.not_mem_nil,or_false]at hz;rcases hz with rfl|rfl<;>omega
 have h296:=zzw (decide (n<0)) hb OC 0 O;rw[hv]at h296;have h296:Fn 85 [] [.bool (decide (n<0)),.sl .u32 [((n.natAbs % 4294967296:Nat):Int),((n.natAbs/4294967296:Nat):Int)],.int .i64 0] (.agg (dyC (wo n))) []:=h296;have e1:=loB (s:=n.natAbs) O;have e3:v7.wrap (((n.natAbs:Nat):Int).fdiv (2^min (Int.toNat 32) v5.bits))=((n.natAbs/4294967296:Nat):Int):=by
  show v7.wrap (((n.natAbs:Nat):Int).fdiv 4294967296)=_;rw[fdB,zpg O]
 generalize wo n=R at*;refine fY6 Tryz.func54 rfl ?_;refine brI (fun h1=>?_) (fun h1=>?_)
 .have h1:n<0:=Z0 h1;have ew:v5.wrap (0-v5.wrap n)=(n.natAbs:Int):=by
   rw[show v5.wrap n=n+18446744073709551616 by simp[v9,v8,vc];omega];simp[v9,v8,vc];omega
  conv=>whnf
  rw[ew,e1];refine⟨OA,?_⟩;conv=>whnf
  rw[e3];refine gYn h296 ?_;exact⟨lr rfl,lh0⟩
 .have h1:¬n<0:=Z3 h1;have ew:v5.wrap n=(n.natAbs:Int):=by
   rw[wU O];omega
  conv=>whnf
  rw[ew,e1];refine⟨OA,?_⟩;conv=>whnf
  rw[e3];refine gYn h296 ?_;exact⟨lr rfl,lh0⟩
theorem r173(d:Dy):Fn 71 [] [.agg (dyC d)] (.bool (zrB d)) []:=by
 obtain⟨R,hR⟩:∃R,zrB d=R:=⟨_,rfl⟩;rw[hR];unfold zrB at hR;obtain⟨d1,d2,d3⟩:=d;simp only at hR;show Fn 71 [] [.agg [.bool d1,.sl .u32 d2,.int .i64 d3]] _ [];refine fY6 Tryz.func71 rfl ?_
 cases d1 with
 |true=>
  conv=>whnf
  exact⟨ab0 hR,lh0⟩
 |false=>
  conv=>whnf
  refine brI (fun h1=>?_) (fun h1=>?_)
  .have h2:d2.length=0:=by have h1:((d2.length:Int)==0)=true:=h1;rw[beq_iff_eq]at h1;omega
   rw[Z8 h2]at hR;conv=>whnf
   exact⟨ab0 (by rw[<-hR];simp;rw[wH];simp),lh0⟩
  .have h2:¬d2.length=0:=by have h1:((d2.length:Int)==0)=false:=h1;rw[beq_eq_false_iff_ne]at h1;omega
   rw[Z9 h2]at hR;conv=>whnf
   exact⟨ab0 (by rw[<-hR];simp),lh0⟩
theorem r108(x:Iv)(h:RI x):Fn 38 [] [.agg (ivC x)] (.bool (viB x)) []:=by
 have hlo:=zzx x.lo h.lo h.l1;have hhi:=zzx x.hi h.hi h.l2;have zlo:=r173 x.lo;have zhi:=r173 x.hi;have hc:vB x.lo=true->vB x.hi=true->Fn 73 [] [.agg (dyC x.lo),.agg (dyC x.hi)] (.int .i64 (qd x.lo x.hi)) []:=fun h1 h2=>r175 ((ud h.lo).1 h1) ((ud h.hi).1 h2)
 obtain⟨R,hR⟩:∃R,viB x=R:=⟨_,rfl⟩;rw[hR];unfold viB at hR;generalize vB x.lo=a at*;generalize vB x.hi=b at*;generalize zrB x.lo=c at*;generalize zrB x.hi=d at*;generalize qd x.lo x.hi=C at*;clear h;obtain⟨⟨x1,x2,x3⟩,⟨x4,x5,x6⟩,x7⟩:=x;simp only at hR;have hlo:Fn 72 [] [.agg [.bool x1,.sl .u32 x2,.int .i64 x3]] (.bool a) []:=hlo;have hhi:Fn 72 [] [.agg [.bool x4,.sl .u32 x5,.int .i64 x6]] (.bool b) []:=hhi;have zlo:Fn 71 [] [.agg [.bool x1,.sl .u32 x2,.int .i64 x3]] (.bool c) []:=zlo;have zhi:Fn 71 [] [.agg [.bool x4,.sl .u32 x5,.int .i64 x6]] (.bool d) []:=zhi;have hc:a=true->b=true->Fn 73 [] [.agg [.bool x1,.sl .u32 x2,.int .i64 x3],.agg [.bool x4,.sl .u32 x5,.int .i64 x6]] (.int .i64 C) []:=hc;show Fn 38 [] [.agg [.bool x1,.sl .u32 x2,.int .i64 x3,.bool x4,.sl .u32 x5,.int .i64 x6,.bool x7]] _ [];refine fY6 Tryz.func38 rfl ?_
 cases x7 with
 |true=>
  rw[Z6 rfl]at hR
  cases c with
  |false=>
   conv=>whnf
   refine gYn zlo ?_;exact⟨ab0 hR,lh0⟩
  |true=>
   conv=>whnf
   refine gYn zlo ?_;refine gYn zhi ?_;exact⟨ab0 (by rw[<-hR,wi]),lh0⟩
 |false=>
  rw[Z7 OC]at hR
  cases a with
  |false=>
   conv=>whnf
   refine gYn hlo ?_;exact⟨ab0 (by rw[<-hR];rfl),lh0⟩
  |true=>
   cases b with
   |false=>
    conv=>whnf
    refine gYn hlo ?_;refine gYn hhi ?_;exact⟨ab0 (by rw[<-hR];rfl),lh0⟩
   |true=>
    conv=>whnf
    refine gYn hlo ?_;refine gYn hhi ?_;refine gYn (hc rfl rfl) ?_;exact⟨ab0 (by rw[<-hR];rfl),lh0⟩
theorem r161(x:Iv)(h:RI x):Fn 45 [] [.agg (ivC x)] (.bool (kB x)) []:=by
 have h1:=r108 x h;obtain⟨R,hR⟩:∃R,kB x=R:=⟨_,rfl⟩;rw[hR];unfold kB at hR;generalize viB x=V at*;clear h;obtain⟨⟨x1,x2,x3⟩,⟨x4,x5,x6⟩,x7⟩:=x;simp only at hR;have h1:Fn 38 [] [.agg [.bool x1,.sl .u32 x2,.int .i64 x3,.bool x4,.sl .u32 x5,.int .i64 x6,.bool x7]] (.bool V) []:=h1;show Fn 45 [] [.agg [.bool x1,.sl .u32 x2,.int .i64 x3,.bool x4,.sl .u32 x5,.int .i64 x6,.bool x7]] _ [];refine fY6 Tryz.func45 rfl ?_
 cases V with
 |false=>
  refine gYn h1 ?_;exact⟨ab0 (by rw[<-hR,wW]),lh0⟩
 |true=>
  refine gYn h1 ?_;exact⟨ab0 (by rw[<-hR,wY]),lh0⟩
theorem r60(p:Int):Fn 44 [] [.int .i64 p] (.bool (pcB p)) []:=by
 refine fY6 Tryz.func44 rfl ?_;refine brI (fun h=>?_) (fun h=>?_)
 .have h:p≥8:=Z0 h;conv=>whnf
  exact⟨ab0 (by unfold pcB;rw[Z8 (O:8<=p),wi]),lh0⟩
 .have h:¬p≥8:=Z3 h;rw[show pcB p=false by unfold pcB;rw[Z9 (O:¬8<=p),qK]];conv=>whnf
  exact⟨lr rfl,lh0⟩
theorem qbf{neg:Bool}{n:Nat}{e:Int}:cnN neg n e=cnN (cnN neg n e).neg (nm (cnN neg n e)) (cnN neg n e).e :=by
 by_cases h:n=0
 .subst h;rfl
 .obtain⟨m,_,hm1,hm2,_⟩:=zep h;have hc:cnN neg n e=⟨neg,toL m,e+tz n⟩:=by unfold cnN;rw[Z7 h,hm2]
  rw[hc,zal];show _=cnN neg m (e+tz n);unfold cnN;rw[Z7 O,zxq hm1,Nat.pow_zero,Nat.div_one];simp
theorem zzc{a b:Dy}(ha:VD a)(hb:VD b):zdc a b=cnN (zdc a b).neg (nm (zdc a b)) (zdc a b).e :=by
 unfold zdc;split
 .exact hb.canon
 split
 .exact ha.canon
 split
 .exact qbf
 split
 .exact qbf
 .exact qbf
theorem qbt{neg:Bool}{m:Nat}{e:Int}{more:Bool}{p:Nat}{up:Bool}(hm:more=true->p<bl m)(h0:m=0->e<=16384+p)(hp:8<=p/\p<=512):VD (zts neg m e more p up).1:=by
 rw[qbd _ _ _ _ _ _ hm h0 hp];exact zlw _ _ _ _ _ _ hp
theorem qbu{a b:Dy}(ha:VD a)(hb:VD b){p:Nat}(hp:8<=p/\p<=512)(up:Bool):VD (zxa a b p up).1:=by
 refine qbt (fun h=>by cases h) (fun h=>?_) hp;have hc:=zzc ha hb;rw[h]at hc;rw[hc];show(0:Int)<=_;omega
