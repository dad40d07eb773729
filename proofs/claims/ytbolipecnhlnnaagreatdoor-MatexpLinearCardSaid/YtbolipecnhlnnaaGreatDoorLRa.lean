/- The reference's dyadic numbers (layer 2), at any values: bits, comparisons, signs. -/
import Derived.Test.YtbolipecnhlnnaaGreatDoorLXa
set_option linter.all false
open And renaming intro->q9
open BitVec renaming ofInt->q3,ofInt_natCast->w1,toNat_ofNat->w7,toNat_and->ws
open Bool renaming false_and->qM,true_and->wi,eq_iff_iff->wG,and_false->wX,and_true->wY,or_false->wZ
open Int renaming toNat_natCast->q4,fdiv_eq_ediv_of_nonneg->q5,ofNat_tmod->qP,ofNat_tdiv->qU,toNat_zero->qY,eq_ofNat_of_zero_le->wC,pow_pos->wJ,ediv_le_self->wQ,ediv_nonneg->wT,pow_nonneg->wW,add_zero->v0
open List renaming getElem?_eq_getElem->q0,take_of_length_le->q6,getElem?_eq_none->qA,getElem_mem->qC,getElem?_set_ne->qE,replicate->qH,length_set->qI,mem_of_getElem?->qJ,getElem?_replicate->qL,take_length->qR,eq_of_mem_replicate->qT,drop_of_length_le->qV,length_cons->qZ,eq_nil_of_length_eq_zero->w0,mem_of_mem_drop->w2,getLast?_eq_getElem?->w8,getElem?_set_self->wD,length_nil->wE,set->wK,getElem?_drop->wL,take_add_one->wN,length_drop->wP,length_take->wR
open Nat renaming two_pow_pos->q8,div_eq_of_eq_mul_right->qB,mul_assoc->qD,le_refl->qF,mul_add->qG,and_two_pow_sub_one_eq_mod->qK,le_trans->qN,pow_le_pow_right->qO,pow_add->qQ,mul_comm->qS,add_zero->qW,testBit_eq_decide_div_mod_eq->qX,div_add_mod->w3,mul_le_mul_left->w4,pow_succ->w5,mul_lt_mul_of_pos_right->w6,mul_one->w9,mod_eq_of_lt->wn,le_mul_of_pos_right->wA,div_le_self->wF,div_lt_iff_lt_mul->wH,mod_lt->wM,mul_zero->wO,lt_succ_self->wS,mul_eq_zero->wV,add_comm->v3,zero_mul->v4,pow_mul->v5
open Option renaming getD_some->q7,getD_none->wB
open Go.IntKind renaming u64->v6,i64->v7,u32->v8,signed->v9,wrap->vc,bits->vd
namespace Go.Proofs.YtbolipecnhlnnaaGreatDoor
open Go Go.Sx
set_option maxRecDepth 100000
set_option maxHeartbeats 8000000
theorem qff{l:List Int}(hb:LB l)(hl:l.length<=1000000):Fn 199 [] [.sl .u32 l] (.sl .u32 (toL (val l))) []:=by
 have:=y247 l hl
 rwa [xm hb]at this
theorem r250(n:Nat)(hn:(toL n).length <=1000000):Fn 84 [] [.sl .u32 (toL n)] (.int .i64 (bl n:Nat)) []:=by
 have hb:=zo n;have hla:=zgp n;generalize bl n=B at hla⊢;generalize toL n=t at hn hb hla⊢;refine fZ6 Tryz.func84 rfl rfl ?_;conv=>whnf
 refine brI (fun h1=>?_) (fun h1=>?_)
 .have h1:t= []:=by
   have h1:((t.length:Int)==0)=true:=h1;rw[beq_iff_eq]at h1;exact w0 O
  subst h1;simp only[List.getLast?_nil]at hla;conv=>whnf
  exact⟨ai0 hla,lh0⟩
 .have h1:0<t.length:=by
   have h1:((t.length:Int)==0)=false:=h1;rw[beq_eq_false_iff_ne]at h1;omega
  have hw:v7.wrap ((t.length:Int)-1)=((t.length-1:Nat):Int):=by rw[wI O];omega
  conv=>whnf
  rw[hw];refine⟨⟨O,O⟩,fun x hx=>?_⟩;have hx:t[t.length-1]? =some x:=by simpa using hx
  have hg:t.getLast?=some x:=by rw[w8];exact hx
  have hxb:=hb x (qJ hx);rw[hg]at hla;simp only at hla;rw[ze0 O]at hla;have hbx:bl x.toNat<=32:=ur.2 O;conv=>whnf
  rw[wI (x:=32*((t.length-1:Nat):Int)) O];refine⟨Nat,fun y=>y<4294967296/\bl y<=bl x.toNat,fun y=> [(3,.int .i64 ((B:Int)-(bl y:Nat))),(4,.int .u32 y)],fun _=> [],fun y=>y,x.toNat,⟨O,qF _⟩,?_,fun y hy=>?_⟩
  .exact KZ0
  obtain⟨hy1,hy2⟩:=hy
  (refine⟨Z,?_⟩;(conv=>whnf))
  refine brI (fun h2=>?_) (fun h2=>?_)
  .have h2:0<y:=by simp only[Z2]at h2;omega
   have hh:=zot (n:=y) O;conv=>whnf
   refine⟨OA,?_⟩;conv=>whnf
   refine⟨y/2,⟨O,O⟩,by show y/2<y;omega,?_⟩
   ((conv=>whnf);refine q9 ?_ ?_;repeat' first|refine lc ?_ ?_|refine lh1 ?_ ?_|refine bc0 ?_|exact KXZ|refine lg0 ?_|refine lt0 ?_)
   .exact ai0 (by rw[wI O];omega)
   .exact ai0 (by
     show((y:Int)).fdiv 2=_;rw[q5 _ OA];omega)
  .have h2:y=0:=by simp only[Z3]at h2;omega
   subst h2;conv=>whnf
   exact⟨ai0 (by simp[wo]),lh0⟩
theorem qgy(d:Dy):Fn 119 [] [.agg (dyC d)] (.int .i64 (sgR d)) []:=by
 obtain⟨s,m,e⟩:=d;refine fZ6 Tryz.func119 rfl rfl ?_;conv=>whnf
 refine brI (fun h1=>?_) (fun h1=>?_)
 .have h1:((m.length:Int)==0)=true:=h1;rw[beq_iff_eq]at h1;conv=>whnf
  exact⟨ai0 (by unfold sgR;rw[Z4 (O:m.length=0)]),lh0⟩
 .have h1:((m.length:Int)==0)=false:=h1;rw[beq_eq_false_iff_ne]at h1;have e1:sgR ⟨s,m,e⟩=if s=true then-1 else 1:=by unfold sgR;rw[Z5 (O:¬m.length=0)]
  rw[e1];cases s
  .conv=>whnf
   exact⟨ai0 rfl,lh0⟩
  .conv=>whnf
   exact⟨ai0 rfl,lh0⟩
theorem r168(x y:Nat)(hal:(toL x).length <=1000000)(hbl:(toL y).length <=1000000):Fn 196 [] [.sl .u32 (toL x),.sl .u32 (toL y)] (.int .i64 (yc x y)) []:=by
 obtain⟨A,hA⟩:∃A,qel (toL x) (toL y)=A:=⟨_,rfl⟩;rw[<-zey,hA];unfold qel at hA;rw[qo,qo]at hA;generalize toL x=s at hal hA⊢;generalize toL y=t at hbl hA⊢;refine fZ6 Tryz.func196 rfl rfl ?_;conv=>whnf
 refine brI (fun h1=>?_) (fun h1=>?_)
 .have h1:((s.length:Int) != (t.length:Int))=true:=h1;have h1:(s.length:Int)≠t.length:=by simpa using h1
  conv=>whnf
  refine brI (fun h2=>?_) (fun h2=>?_)
  .have h2:s.length<t.length:=by simp only[Z2]at h2;omega
   rw[Z4 h2]at hA;subst hA;conv=>whnf
   exact⟨lr rfl,lh0⟩
  .have h2:¬s.length<t.length:=by simp only[Z3]at h2;omega
   rw[Z5 h2,Z4 O]at hA;subst hA;conv=>whnf
   exact⟨lr rfl,lh0⟩
 have h1:((s.length:Int) != (t.length:Int))=false:=h1;have h1:(s.length:Int)=t.length:=by simpa using h1
 rw[Z5 O,Z5 O]at hA;conv=>whnf
 rw[wI (x:=(s.length:Int)-1) O];refine⟨Nat,fun n=>n<=s.length/\za5 s t n=A,fun n=> [(5,.int .i64 ((n:Int)-1))],fun _=> [],fun n=>n,s.length,⟨qF _,hA⟩,?_,fun n hn=>?_⟩
 .exact KZ0
 (refine⟨Z,?_⟩;(conv=>whnf))
 obtain⟨hn1,hn2⟩:=hn;refine brI (fun h2=>?_) (fun h2=>?_)
 .have h2:0<n:=by simp only[Z2]at h2;omega
  obtain⟨m,rfl⟩:∃m,n=m+1:=⟨n-1,O⟩;have hm:(((m+1:Nat):Int)-1)=(m:Int):=O;have hms:m<s.length:=O;have hmt:m<t.length:=O;have hxs:s[m]? =some s[m]:=q0 hms;have hxt:t[m]? =some t[m]:=q0 hmt;obtain⟨x,hx⟩:∃x:Int,s[m]=x:=⟨_,rfl⟩;obtain⟨y,hy⟩:∃y:Int,t[m]=y:=⟨_,rfl⟩;rw[hx]at hxs;rw[hy]at hxt;simp only[za5,hxs,hxt,q7]at hn2;conv=>whnf
  rw[hm];refine⟨⟨O,O⟩,fun(z:Int)hz=>?_⟩;have hz:s[m]? =some z:=by simpa using hz
  rw[hxs]at hz;cases hz
  conv=>whnf
  refine⟨⟨O,O⟩,fun(z:Int)hz=>?_⟩;have hz:t[m]? =some z:=by simpa using hz
  rw[hxt]at hz;cases hz
  conv=>whnf
  (refine⟨Z,Z,?_⟩;(conv=>whnf))
  refine brI (fun h3=>?_) (fun h3=>?_)
  .have h3:x<y:=by simpa using h3
   rw[Z4 h3]at hn2;conv=>whnf
   exact⟨ai0 hn2,lh0⟩
  have h3:¬x<y:=by simpa using h3
  rw[Z5 h3]at hn2;conv=>whnf
  refine⟨⟨O,O⟩,fun(z:Int)hz=>?_⟩;have hz:s[m]? =some z:=by simpa using hz
  rw[hxs]at hz;cases hz
  conv=>whnf
  refine⟨⟨O,O⟩,fun(z:Int)hz=>?_⟩;have hz:t[m]? =some z:=by simpa using hz
  rw[hxt]at hz;cases hz
  conv=>whnf
  (refine⟨Z,Z,?_⟩;(conv=>whnf))
  refine brI (fun h4=>?_) (fun h4=>?_)
  .have h4:y<x:=by simpa using h4
   rw[Z4 h4]at hn2;conv=>whnf
   exact⟨ai0 hn2,lh0⟩
  have h4:¬y<x:=by simpa using h4
  rw[Z5 h4]at hn2;conv=>whnf
  refine⟨m,⟨O,hn2⟩,by show m<m+1;omega,?_⟩;exact KZ0
 .have h2:n=0:=by simp only[Z3]at h2;omega
  subst h2;simp only[za5]at hn2;conv=>whnf
  exact⟨ai0 hn2,lh0⟩
theorem zf8(s:Int)(h:0<=s/\s<18446744073709551616):v6.wrap ((q3 v6.bits s&&& q3 v6.bits 4294967295).toNat :Int)=s % 4294967296:=by
 obtain⟨n,rfl⟩:∃n:Nat,s=n:=⟨s.toNat,O⟩;have e1:(q3 64 (n:Int)).toNat =n:=by rw[w1,w7];exact wn O
 have e2:(q3 64 4294967295).toNat =2^32-1:=OA;have e3:(q3 64 (n:Int)&&& q3 64 4294967295).toNat =n % 4294967296:=by
  rw[ws,e1,e2,qK]
 show v6.wrap ((q3 64 (n:Int)&&& q3 64 4294967295).toNat :Int)=_;rw[e3,wU O];omega
noncomputable def qer:Code:=Tryz.f194.body.getD .skip
theorem r295(x n:Nat)(hx:(toL x).length <=100000)(hn:n<=100000):Fn 194 [] [.sl .u32 (toL x),.int .i64 n] (.sl .u32 (toL (x*2^n))) []:=by
 have hb2:=zo x;have hsp:=zdu n x;unfold zka at hsp;rw[qo]at hsp;generalize toL x=t at hx hb2 hsp⊢;refine qy (code:=qer) hT6 hmx Tryz.func194 rfl rfl (ex:= []) ?_;conv=>whnf
 refine je hT6 hmx 3 (fun _:Unit=>⟨[.sl .u32 t,.int .i64 n,.any,.any,.any,.own 11,.int .u64 0]++jr 36,[(11,.buf 108 .u32 (qH (n/32) 0)),(34,.dead),(100034,.free),(1500034,.free),(41,.free),(100041,.free),(1500041,.free)]⟩) (fun _=>Z) ?_ (fun _=>?_)
 .have hq:v7.wrap ((n:Int).tdiv 32)=((n/32:Nat):Int):=by
   rw[show(n:Int).tdiv 32=((n/32:Nat):Int)from qU n 32,wI O]
  conv=>whnf
  refine⟨O,?_⟩;conv=>whnf
  rw[hq];refine⟨⟨O,O,O⟩,?_⟩;conv=>whnf
  refine⟨(),?_⟩;exact KZ0
 .refine zkd 34 11 Z ?_;conv=>whnf
  refine wx hT6 hmx ?_;conv=>whnf
  refine⟨Nat×List Int×Int,fun x=>x.1<=t.length/\x.2.1.length=n/32+x.1/\(0<=x.2.2/\x.2.2<2^(n % 32))/\x.2.1++xy (n % 32) (t.drop x.1) x.2.2=qH (n/32) 0++xy (n % 32) t 0,fun x=> [(7,.int .i64 x.1),(5,.own 34),(6,.int .u64 x.2.2)],fun x=> [(34,.buf 108 .u32 x.2.1)],fun x=>t.length-x.1,(0,qH (n/32) 0,0),⟨OC,OC,⟨OC,by exact wJ OA⟩,OC⟩,?_,fun x hx=>?_⟩
  .exact KZ0
  (refine⟨Z,?_⟩;(conv=>whnf))
  obtain⟨i,out,c⟩:=x;obtain⟨hi1,hi2,hi3,hi4⟩:=hx;simp only at hi1 hi2 hi3 hi4;have hp31:(2:Int)^(n % 32)<=2147483648:=by
   have h1:2^(n % 32)<=2^31:=qO OA O;have h2:(2:Int)^(n % 32)=((2^(n % 32):Nat):Int):=OC;rw[h2];omega
  refine brI (fun h1=>?_) (fun h1=>?_)
  .have hi:i<t.length:=by simp only[Z2]at h1;omega
   conv=>whnf
   refine⟨⟨O,OD⟩,fun(x:Int)hx=>?_⟩;have hx:t[i]? =some x:=by simpa using hx
   have hxb:=hb2 x (qJ hx);have hst:=znq (n:=n) hxb hi3;have h9:(n:Int).tmod 32=((n % 32:Nat):Int):=qP n 32;have hrem:v6.wrap ((n:Int).tmod 32)=((n % 32:Nat):Int):=by rw[h9,wU O]
   rw[h9]at hst;rw[zu hx]at hi4;simp only[xy]at hi4;obtain⟨s,hs⟩:∃s,x*2^(n % 32)+c=s:=⟨_,rfl⟩;rw[hs]at hst hi4;have hs0:0<=s/\s<4294967296*2^(n % 32):=by
    have h1:0<=x*2^(n % 32):=Int.mul_nonneg hxb.1 (by exact wW OA);have h2:x*2^(n % 32)<=4294967295*2^(n % 32):=Int.mul_le_mul_of_nonneg_right O (by exact wW OA);omega
   conv=>whnf
   rw[wU (x:=x) O];refine⟨O,?_⟩;conv=>whnf
   rw[hrem];refine⟨O,?_⟩;conv=>whnf
   refine⟨by simp only[qZ,wE];omega,?_⟩;conv=>whnf
   refine⟨O,?_⟩;conv=>whnf
   refine⟨(i+1,out++ [s % 4294967296],s/4294967296),⟨OD,by simp only[List.length_append,qZ,wE];omega,⟨OD,OD⟩,by rw[List.append_assoc];exact hi4⟩,by show t.length-(i+1)<t.length-i;omega,?_⟩;have e1:v8.wrap (s % 4294967296)=s % 4294967296:=by simp[vc,v9,vd]
   have e2:s.fdiv 4294967296=s/4294967296:=q5 _ OA;have e3:=zf8 s O
   ((conv=>whnf);refine q9 ?_ ?_;repeat' first|refine lc ?_ ?_|refine lh1 ?_ ?_|refine bc0 ?_|exact KXZ|refine lg0 ?_|refine lt0 ?_)
   .exact ai0 ((congrArg (fun z:Int=>z.fdiv 4294967296) hst).trans e2)
   .exact ai0 (by rw[wI OD];simp only;omega)
   .exact bb0 (by
     show out++ [_]=out++ [s % 4294967296];rw[<-e1,<-e3,<-hst];rfl)
   all_goals trace_state
  .have hi:¬i<t.length:=by simp only[Z3]at h1;omega
   rw[qV O]at hi4;simp only[xy]at hi4;have ec:v8.wrap c=c:=by simp[vc,v9,vd];omega
   have hv:val (out++ [c])=x*2^n/\LB (out++ [c]):=by rw[hi4];exact hsp
   have h326:=qff hv.2 OE;rw[hv.1]at h326;conv=>whnf
   refine⟨by simp only[qZ,wE];omega,?_⟩;conv=>whnf
   rw[ec];refine gZn h326 ?_;conv=>whnf
   exact⟨lr rfl,lh0⟩
theorem r328(x n:Nat)(hl:(toL x).length <=100000)(hn:n<=1000000000):Fn 201 [] [.sl .u32 (toL x),.int .i64 n] (.sl .u32 (toL (x/2^n))) []:=by
 have hb2:=zo x;have hsp:=zg2 n x;unfold zlf at hsp;rw[qo]at hsp;generalize x/2^n=V at hsp⊢;generalize toL x=t at hl hb2 hsp⊢;have hq:v7.wrap ((n:Int).tdiv 32)=((n/32:Nat):Int):=by
  rw[show(n:Int).tdiv 32=((n/32:Nat):Int)from qU n 32,wI O]
 have h9:(n:Int).tmod 32=((n % 32:Nat):Int):=qP n 32;have hrem:v6.wrap ((n:Int).tmod 32)=((n % 32:Nat):Int):=by rw[h9,wU O]
 refine fZ6 Tryz.func201 rfl rfl ?_;conv=>whnf
 refine⟨O,?_⟩;conv=>whnf
 rw[hq];refine brI (fun h1=>?_) (fun h1=>?_)
 .have h1:t.length<=n/32:=by simp only[Z2]at h1;omega
  rw[Z4 h1]at hsp;have hV:V=0:=hsp.1.symm;subst hV;conv=>whnf
  exact⟨li0 rfl,lh0⟩
 have h1:¬t.length<=n/32:=by simp only[Z3]at h1;omega
 rw[Z5 h1]at hsp;conv=>whnf
 refine⟨O,?_⟩;conv=>whnf
 rw[hq];refine⟨⟨O,O,O⟩,?_⟩;have hb3:LB (t.drop (n/32)):=fun z hz=>hb2 z (w2 hz)
 have hul:(t.drop (n/32)).length <=100000:=by rw[wP];omega
 have hu:((t.take ((t.length:Int)).toNat).drop (((n/32:Nat):Int)).toNat)=t.drop (n/32):=by rw[show((t.length:Int)).toNat =t.length by omega,qR,show((((n/32:Nat):Int))).toNat =n/32 by omega]
 rw[hu];obtain⟨A,hA⟩:∃A,zbz (t.drop (n/32)) (n % 32)=A:=⟨_,rfl⟩;rw[hA]at hsp;generalize t.drop (n/32)=u at hA hb3 hul⊢;have hAl:A.length=u.length:=by rw[<-hA];simp[zbz]
 have h326:=qff hsp.2 O;rw[hsp.1]at h326;have hfin:∀s:Int,0<=s/\s<18446744073709551616->v8.wrap (v6.wrap ((q3 v6.bits (s.fdiv (2^min ((n % 32:Nat):Int).toNat 64))&&& q3 v6.bits 4294967295).toNat :Int))=(s/2^(n % 32)) % 4294967296:=fun s hs=>by
  have hp:(0:Int)<2^(n % 32):=wJ OA;have hd:0<=s/2^(n % 32):=wT hs.1 O;have hd2:s/2^(n % 32)<=s:=wQ _ hs.1;rw[(O:min ((n % 32:Nat):Int).toNat 64=n % 32),q5 _ O,zf8 _ ⟨hd,O⟩];simp[vc,v9,vd]
 conv=>whnf
 refine⟨Nat,fun i=>i<=u.length,fun i=> [(6,.int .i64 i),(5,.own 51)],fun i=> [(51,.buf 108 .u32 (A.take i))],fun i=>u.length-i,0,OC,?_,fun i hi=>?_⟩
 .exact KZ0
 (refine⟨Z,?_⟩;(conv=>whnf))
 have hi:i<=u.length:=hi;refine brI (fun h2=>?_) (fun h2=>?_)
 .have hi:i<u.length:=by simp only[Z2]at h2;omega
  conv=>whnf
  refine⟨⟨O,O⟩,fun(x:Int)hx=>?_⟩;have hx:u[i]? =some x:=by simpa using hx
  have hxb:=hb3 x (qJ hx);have hF:A[i]? =some (zfc u (n % 32) i):=by rw[<-hA];simp[zbz,hi]
  have hstep:A.take i++ [zfc u (n % 32) i]=A.take (i+1):=by rw[wN,hF];rfl
  have hlen:(A.take i).length =i:=by rw[wR];omega
  conv=>whnf
  refine brI (fun h3=>?_) (fun h3=>?_)
  .have h3:i+1<u.length:=by
    have h3:decide (v7.wrap ((i:Int)+1)<(u.length:Int))=true:=h3;rw[wI O]at h3;simp only[Z2]at h3;omega
   conv=>whnf
   rw[wI (x:=(i:Int)+1) O];refine⟨⟨O,O⟩,fun(y:Int)hy=>?_⟩;have hy:u[i+1]? =some y:=by
    have hy:u[((i:Int)+1).toNat]? =some y:=hy;rw[show((i:Int)+1).toNat =i+1 by omega]at hy;exact hy
   have hyb:=hb3 y (qJ hy);have hor:=ztw hxb hyb;conv=>whnf
   rw[wU (x:=x) O,wU (x:=y) O];refine⟨O,?_⟩;conv=>whnf
   refine⟨O,?_⟩;conv=>whnf
   rw[hrem];refine⟨O,?_⟩;conv=>whnf
   refine⟨by rw[hlen];simp;omega,?_⟩;conv=>whnf
   refine⟨i+1,O,by show u.length-(i+1)<u.length-i;omega,?_⟩
   ((conv=>whnf);refine q9 ?_ ?_;repeat' first|refine lc ?_ ?_|refine lh1 ?_ ?_|refine bc0 ?_|exact KXZ|refine lg0 ?_|refine lt0 ?_)
   .exact ai0 (by rw[wI O];omega)
   .exact bb0 (by
     rw[<-hstep];show A.take i++ [_]=_
     congr 2
     rw[zfc,hx,hy];show _=(x+y*4294967296)/2^(n % 32) % 4294967296;rw[<-hfin _ O,<-hor];rfl)
  .have h3:¬i+1<u.length:=by
    have h3:decide (v7.wrap ((i:Int)+1)<(u.length:Int))=false:=h3;rw[wI O]at h3;simp only[Z3]at h3;omega
   have hy:u[i+1]? =none:=qA O;conv=>whnf
   rw[wU (x:=x) O];refine⟨O,?_⟩;conv=>whnf
   rw[hrem];refine⟨O,?_⟩;conv=>whnf
   refine⟨by rw[hlen];simp;omega,?_⟩;conv=>whnf
   refine⟨i+1,O,by show u.length-(i+1)<u.length-i;omega,?_⟩
   ((conv=>whnf);refine q9 ?_ ?_;repeat' first|refine lc ?_ ?_|refine lh1 ?_ ?_|refine bc0 ?_|exact KXZ|refine lg0 ?_|refine lt0 ?_)
   .exact ai0 (by rw[wI O];omega)
   .exact bb0 (by
     rw[<-hstep];show A.take i++ [_]=_
     congr 2
     rw[zfc,hx,hy];show _=(x+0*4294967296)/2^(n % 32) % 4294967296;rw[Int.zero_mul,v0,<-hfin _ O];rfl)
 .have hi:i=u.length:=by simp only[Z3]at h2;omega
  subst hi;rw[q6 O];conv=>whnf
  refine gZn h326 ?_;conv=>whnf
  exact⟨lr rfl,lh0⟩
theorem bitR{y r:Nat}(hy:y<4294967296)(hr:r<32):v8.wrap ((q3 v8.bits ((y:Int).fdiv (2^min ((r:Nat):Int).toNat v8.bits))&&& q3 v8.bits 1).toNat :Int)=((y/2^r % 2:Nat):Int):=by
 have e0:(y:Int).fdiv (2^min ((r:Nat):Int).toNat 32)=((y/2^r:Nat):Int):=by
  rw[q4,Nat.min_eq_left O,q5 _ (Int.le_of_lt (wJ OA))];simp
 have hd:y/2^r<4294967296:=Nat.lt_of_le_of_lt (wF _ _) hy;have e1:(q3 32 ((y/2^r:Nat):Int)).toNat =y/2^r:=by rw[w1,w7];exact wn hd
 have e2:(q3 32 1).toNat =2^1-1:=OA;show v8.wrap ((q3 32 ((y:Int).fdiv (2^min ((r:Nat):Int).toNat 32))&&& q3 32 1).toNat :Int)=_;rw[e0,ws,e1,e2,qK,zrw O]
theorem qf7(x k:Nat)(hk:k<(toL x).length):(toL x)[k]? =some ((x/2^(32*k) % 4294967296:Nat):Int):=by
 have h1:=zds k (toL x) (zo x);rw[zm]at h1;have hb:LB ((toL x).drop k):=fun z hz=>zo x z (w2 hz)
 obtain⟨z,w,h2,h3,h4⟩:=zp8 _ hb;rw[wL,qW]at h3;rw[h1]at h4;have h5:(toL x)[k]? =some (toL x)[k]:=q0 hk;rw[h5]at h3⊢;simp only[q7]at h3;rw[h3]
 congr 2
 omega
theorem qi2(x n:Nat):(x/2^(32*(n/32)) % 4294967296)/2^(n % 32) % 2=x/2^n % 2:=by
 have h1:(x/2^(32*(n/32)) % 2^32).testBit (n % 32)=x.testBit n:=by
  rw[Nat.testBit_mod_two_pow,Nat.testBit_div_two_pow];rw[(O:n % 32+32*(n/32)=n)];simp[wM]
 rw[qX,qX]at h1;have h2:=decide_eq_decide.1 h1;have e:(2:Nat)^32=4294967296:=OA;rw[e]at h2;omega
theorem qf4{x n:Nat}(hx:x≠0)(hn:n<=tz x):x/2^n % 2=0<->n<tz x:=by
 obtain⟨m,h1,h2⟩:=xj hx;have e:x/2^n=2^(tz x-n)*m:=by
  have h3:x=2^n*(2^(tz x-n)*m):=by rw[<-qD,<-qQ,Nat.add_sub_cancel' hn];exact h1
  exact qB (q8 n) h3
 rw[e];constructor
 .intro h;by_cases h4:n<tz x
  .exact h4
  .rw[(O:tz x-n=0)]at h;simp at h;omega
 .intro h;obtain⟨d,hd⟩:∃d,tz x-n=d+1:=⟨tz x-n-1,O⟩;rw[hd,w5,qS (2^d),qD];omega
theorem zr4{x:Nat}(hx:x≠0):tz x/32<(toL x).length :=by
 obtain⟨m,h1,h2⟩:=xj hx;have h3:2^tz x<=x:=by
  conv=>rhs;rw[h1]
  exact wA _ O
 have h4:¬(toL x).length <=tz x/32:=by
  rw[wh];intro h;have h5:2^(32*(tz x/32))<=2^tz x:=qO OA O;omega
 omega
theorem r327(x:Nat)(hx:x≠0)(hl:(toL x).length <=100000):Fn 200 [] [.sl .u32 (toL x)] (.int .i64 (tz x:Nat)) []:=by
 have htl:=zr4 hx;refine fZ6 Tryz.func200 rfl rfl ?_;conv=>whnf
 refine⟨Nat,fun n=>n<=tz x,fun n=> [(3,.int .i64 n)],fun _=> [],fun n=>tz x-n,0,OC,?_,fun n hn=>?_⟩
 .exact KZ0
 have hn:n<=tz x:=hn;have hnl:n/32<(toL x).length :=O;have hq:v7.wrap ((n:Int).tdiv 32)=((n/32:Nat):Int):=by
  rw[show(n:Int).tdiv 32=((n/32:Nat):Int)from qU n 32,wI O]
 have h9:(n:Int).tmod 32=((n % 32:Nat):Int):=qP n 32;have hrem:v6.wrap ((n:Int).tmod 32)=((n % 32:Nat):Int):=by rw[h9,wU O]
 have hat:=qf7 x _ hnl;have hbt:=qi2 x n;have htz:=qf4 hx hn;obtain⟨Y,hY⟩:∃Y,x/2^(32*(n/32)) % 4294967296=Y:=⟨_,rfl⟩;rw[hY]at hat hbt;have hYl:Y<4294967296:=O;have hbr:=bitR hYl (r:=n % 32) O;rw[hbt]at hbr;generalize toL x=t at*;refine⟨Z,?_⟩;conv=>whnf
 refine⟨O,?_⟩;conv=>whnf
 rw[hq];refine⟨⟨O,O⟩,fun(y:Int)hy=>?_⟩;have hy:t[n/32]? =some y:=by
  have hy:t[((n/32:Nat):Int).toNat]? =some y:=hy
  rwa [q4]at hy
 rw[hat]at hy;cases hy
 conv=>whnf
 refine⟨O,?_⟩;conv=>whnf
 rw[hrem];refine⟨O,?_⟩;conv=>whnf
 rw[hbr];refine brI (fun h=>?_) (fun h=>?_)
 .have h:x/2^n % 2=0:=by
   have h:(((x/2^n % 2:Nat):Int)==0)=true:=h;rw[beq_iff_eq]at h;omega
  have h:=htz.1 h;conv=>whnf
  refine⟨n+1,h,by show tz x-(n+1)<tz x-n;omega,?_⟩;exact KZ0
 .have h:¬x/2^n % 2=0:=by
   have h:(((x/2^n % 2:Nat):Int)==0)=false:=h;rw[beq_eq_false_iff_ne]at h;omega
  have hne:n=tz x:=by
   have:=mt htz.2 h;omega
  conv=>whnf
  exact⟨ai0 (by rw[hne]),lh0⟩
theorem zj4{l:List Int}(hb:LB l):(toL (val l)).length <=l.length:=(wh _ _).2 (zgx hb)
theorem zxn(neg:Bool){l:List Int}(hb:LB l)(hl:l.length<=100000)(e:Int)(he: -1000000000<=e/\e<=1000000000):Fn 124 [] [.bool neg,.sl .u32 l,.int .i64 e] (.agg (dyC (cnN neg (val l) e))) []:=by
 have h326:=qff hb O;have hll:(toL (val l)).length <=100000:=qN (zj4 hb) hl;generalize val l=x at h326 hll⊢;by_cases hx:x=0
 .subst hx;refine fZ6 Tryz.func124 rfl rfl ?_;conv=>whnf
  refine gZn h326 ?_;conv=>whnf
  exact⟨lg0 (lc (lr rfl) (lc (li0 rfl) (lc (lr rfl) ln0))),lh0⟩
 have h327:=r327 x hx hll;have h328:=r328 x (tz x) hll (by have:=zr4 hx;omega);have htl:=zr4 hx;have hne:(toL x).length ≠0:=by rw[Ne,wv];exact hx
 have hc:cnN neg x e=⟨neg,toL (x/2^tz x),e+tz x⟩:=by unfold cnN;rw[Z5 hx]
 rw[hc];generalize toL (x/2^tz x)=R at*;generalize tz x=z at*;generalize toL x=t at*;refine fZ6 Tryz.func124 rfl rfl ?_;conv=>whnf
 refine gZn h326 ?_;conv=>whnf
 refine brI (fun h=>?_) (fun h=>?_)
 .have h:((t.length:Int)==0)=true:=h;rw[beq_iff_eq]at h;omega
 conv=>whnf
 refine gZn h327 ?_;conv=>whnf
 refine gZn h328 ?_;conv=>whnf
 exact⟨lg0 (lc (lr rfl) (lc (lr rfl) (lc (ai0 (by rw[wI O])) ln0))),lh0⟩
theorem zxr(B p vo c va vb x y:Nat)(h:vo+p*c=va+vb):vo+p*((c+x+y) % B)+p*B*((c+x+y)/B)=va+p*x+(vb+p*y):=by
 have h1:=w3 (c+x+y) B;have h2:p*((c+x+y) % B)+p*B*((c+x+y)/B)=p*(c+x+y):=by
  conv=>rhs;rw[<-h1]
  rw[qG,qD];omega
 rw[qG,qG]at h2;omega
theorem zmc(B p vo br va vb x y:Nat)(hB:0<B)(hy:br+y<=x+B)(h1:x<B)(hbr:br<=1)(h:va+p*br=vo+vb):
 va+p*x+p*B*(1-(x+B-(br+y))/B)=vo+p*((x+B-(br+y)) % B)+(vb+p*y):=by
 have e:=w3 (x+B-(br+y)) B;have hq:(x+B-(br+y))/B<=1:=by
  have:(x+B-(br+y))/B<2:=(wH hB).2 O;omega
 generalize (x+B-(br+y))/B=q at*;generalize hm:(x+B-(br+y)) % B=m at*;have k:p*x+p*B*(1-q)+p*br=p*m+p*y+(p*br+p*br):=by
  obtain rfl|rfl:q=0\/q=1:=O
  .have:x+B=m+y+br:=by simp at e;omega
   have:=congrArg (fun z=>p*z) this;simp only[qG]at this;simp only[Nat.sub_zero,w9];omega
  .have:x=m+y+br:=by simp at e;omega
   have:=congrArg (fun z=>p*z) this;simp only[qG]at this;simp only[Nat.sub_self,wO];omega
 omega
theorem jw{l:List Int}{i:Nat}:val (l.take (i+1))=val (l.take i)+4294967296^i*(l[i]?.getD 0).toNat :=by
 by_cases h:i<l.length
 .exact ww l h
 .rw[q6 O,q6 O,qA O];simp
theorem LB.snoc{l:List Int}(h:LB l){x:Int}(hx:0<=x/\x<4294967296):LB (l++ [x]):=fun y hy=>by
 rcases List.mem_append.1 hy with hy|hy
 .exact h y hy
 .have:y=x:=by simpa using hy
  rw[this];exact hx
theorem zj1(l:List Int)(x:Int):val (l++ [x])=val l+4294967296^l.length*x.toNat:=by rw[zj2];simp[val]
structure PlI(a b:List Int)(i:Nat)(out:List Int)(c:Nat):Prop where
 len:out.length=i
 lb:LB out
 c1:c<=1
 val:val out+4294967296^i*c=val (a.take i)+val (b.take i)
theorem PlI.step{a b:List Int}{i:Nat}{out:List Int}{c:Nat}(h:PlI a b i out c){x y:Nat}(hx:(a[i]?.getD 0).toNat =x)(hy:(b[i]?.getD 0).toNat =y)(hxl:x<4294967296)(hyl:y<4294967296):
 PlI a b (i+1) (out++ [(((c+x+y) % 4294967296:Nat):Int)]) ((c+x+y)/4294967296):=by
 obtain⟨h1,h2,h3,h4⟩:=h;refine⟨by simp[h1],h2.snoc O,O,?_⟩;rw[zj1,jw,jw,hx,hy,h1,q4,w5];exact zxr 4294967296 (4294967296^i) _ c _ _ x y h4
theorem zne{a:List Int}(h:LB a)(i:Nat):(a[i]?.getD 0).toNat <4294967296:=by
 have:=h.at i;omega
theorem r297{a b:List Int}(ha:LB a)(hb:LB b)(hal:a.length<=100000)(hbl:b.length<=100000):Fn 195 [] [.sl .u32 a,.sl .u32 b] (.sl .u32 (toL (val a+val b))) []:=by
 refine fZ6 Tryz.func195 rfl rfl ?_;conv=>whnf
 refine⟨Nat×List Int×Nat,fun x=>x.1<=max a.length b.length/\PlI a b x.1 x.2.1 x.2.2,fun x=> [(7,.int .i64 x.1),(5,.own 49),(6,.int .u64 x.2.2)],fun x=> [(49,.buf 108 .u32 x.2.1)],fun x=>max a.length b.length-x.1,(0,[],0),⟨OC,⟨rfl,(fun x hx=>by cases hx),OC,by simp[val]⟩⟩,?_,fun x hx=>?_⟩
 .exact KZ0
 obtain⟨i,out,c⟩:=x;obtain⟨hi,hp⟩:=hx;simp only at hi hp;have hol:=hp.len;have hc:=hp.c1;have hst:=hp.step rfl rfl (zne ha i) (zne hb i);have e2:∀s:Nat,((s:Nat):Int).fdiv 4294967296=((s/4294967296:Nat):Int):=fun s=>by rw[q5 _ OA];simp
 have e3:∀s:Nat,s<18446744073709551616->v8.wrap (v6.wrap ((q3 v6.bits (s:Int)&&& q3 v6.bits 4294967295).toNat :Int))=((s % 4294967296:Nat):Int):=fun s hs=>by
  rw[zf8 _ O];simp[vc,v9,vd]
 (refine⟨Z,?_⟩;(conv=>whnf))
 refine brI (fun h1=>?_) (fun h1=>?_)
 .have h1:i<a.length:=by simp only[Z2]at h1;omega
  have hxa:a[i]? =some a[i]:=q0 h1;have hba:=ha _ (qC h1);generalize a[i]=xa at hxa hba;rw[hxa]at hst;simp only[q7]at hst;conv=>whnf
  refine brI (fun h2=>?_) (fun h2=>?_)
  rotate_left
  .have h2:=Z1 h2;omega
  conv=>whnf
  refine⟨⟨O,O⟩,fun(z:Int)hz=>?_⟩;have hz:a[i]? =some z:=by simpa using hz
  rw[hxa]at hz;cases hz
  conv=>whnf
  refine brI (fun h3=>?_) (fun h3=>?_)
  .have h3:i<b.length:=by simp only[Z2]at h3;omega
   have hxb:b[i]? =some b[i]:=q0 h3;have hbb:=hb _ (qC h3);generalize b[i]=xb at hxb hbb;rw[hxb]at hst;simp only[q7]at hst;have es:v6.wrap (v6.wrap ((c:Int)+v6.wrap xa)+v6.wrap xb)=((c+xa.toNat+xb.toNat:Nat):Int):=by
    rw[wU (x:=xa) O,wU (x:=xb) O,wU (x:=(c:Int)+xa) O,wU O];omega
   conv=>whnf
   refine⟨⟨O,O⟩,fun(z:Int)hz=>?_⟩;have hz:b[i]? =some z:=by simpa using hz
   rw[hxb]at hz;cases hz
   conv=>whnf
   refine⟨OE,?_⟩;conv=>whnf
   refine⟨OA,?_⟩;conv=>whnf
   refine⟨(i+1,out++ [(((c+xa.toNat+xb.toNat) % 4294967296:Nat):Int)],(c+xa.toNat+xb.toNat)/4294967296),⟨OD,hst⟩,by show max a.length b.length-(i+1)<max a.length b.length-i;omega,?_⟩
   ((conv=>whnf);refine q9 ?_ ?_;repeat' first|refine lc ?_ ?_|refine lh1 ?_ ?_|refine bc0 ?_|exact KXZ|refine lg0 ?_|refine lt0 ?_)
   .exact ai0 ((congrArg (fun z:Int=>z.fdiv 4294967296) es).trans (e2 _))
   .exact ai0 (by rw[wI OD];simp only;omega)
   .exact bb0 (by
     show out++ [_]=out++ [_];rw[<-e3 _ O,<-es])
  .have h3:¬i<b.length:=by simp only[Z3]at h3;omega
   have hxb:b[i]? =none:=qA O;rw[hxb]at hst;simp only[wB,qY,qW]at hst;have es:v6.wrap ((c:Int)+v6.wrap xa)=((c+xa.toNat:Nat):Int):=by
    rw[wU (x:=xa) O,wU O];omega
   conv=>whnf
   refine⟨OE,?_⟩;conv=>whnf
   refine⟨OA,?_⟩;conv=>whnf
   refine⟨(i+1,out++ [(((c+xa.toNat) % 4294967296:Nat):Int)],(c+xa.toNat)/4294967296),⟨OD,hst⟩,by show max a.length b.length-(i+1)<max a.length b.length-i;omega,?_⟩
   ((conv=>whnf);refine q9 ?_ ?_;repeat' first|refine lc ?_ ?_|refine lh1 ?_ ?_|refine bc0 ?_|exact KXZ|refine lg0 ?_|refine lt0 ?_)
   .exact ai0 ((congrArg (fun z:Int=>z.fdiv 4294967296) es).trans (e2 _))
   .exact ai0 (by rw[wI OD];simp only;omega)
   .exact bb0 (by
     show out++ [_]=out++ [_];rw[<-e3 _ O,<-es])
 .have h1:¬i<a.length:=by simp only[Z3]at h1;omega
  have hxa:a[i]? =none:=qA O;rw[hxa]at hst;simp only[wB,qY,qW]at hst;conv=>whnf
  refine brI (fun h3=>?_) (fun h3=>?_)
  .have h3:i<b.length:=by simp only[Z2]at h3;omega
   have hxb:b[i]? =some b[i]:=q0 h3;have hbb:=hb _ (qC h3);generalize b[i]=xb at hxb hbb;rw[hxb]at hst;simp only[q7]at hst;have es:v6.wrap ((c:Int)+v6.wrap xb)=((c+xb.toNat:Nat):Int):=by
    rw[wU (x:=xb) O,wU O];omega
   conv=>whnf
   refine brI (fun h2=>?_) (fun h2=>?_)
   .have h2:=Z0 h2;omega
   conv=>whnf
   refine brI (fun h2=>?_) (fun h2=>?_)
   rotate_left
   .have h2:=Z1 h2;omega
   conv=>whnf
   refine⟨⟨O,O⟩,fun(z:Int)hz=>?_⟩;have hz:b[i]? =some z:=by simpa using hz
   rw[hxb]at hz;cases hz
   conv=>whnf
   refine⟨OE,?_⟩;conv=>whnf
   refine⟨OA,?_⟩;conv=>whnf
   refine⟨(i+1,out++ [(((c+xb.toNat) % 4294967296:Nat):Int)],(c+xb.toNat)/4294967296),⟨OD,hst⟩,by show max a.length b.length-(i+1)<max a.length b.length-i;omega,?_⟩
   ((conv=>whnf);refine q9 ?_ ?_;repeat' first|refine lc ?_ ?_|refine lh1 ?_ ?_|refine bc0 ?_|exact KXZ|refine lg0 ?_|refine lt0 ?_)
   .exact ai0 ((congrArg (fun z:Int=>z.fdiv 4294967296) es).trans (e2 _))
   .exact ai0 (by rw[wI OD];simp only;omega)
   .exact bb0 (by
     show out++ [_]=out++ [_];rw[<-e3 _ O,<-es])
  .have h3:¬i<b.length:=by simp only[Z3]at h3;omega
   have hv:=hp.val;rw[q6 O,q6 O]at hv;have hv:val (out++ [(c:Int)])=val a+val b:=by rw[zj1,hol,q4];exact hv
   have h326:=qff (hp.lb.snoc (x:=(c:Int)) O) OE;rw[hv]at h326;have ec:v8.wrap (c:Int)=c:=zrw O;conv=>whnf
   refine⟨OE,?_⟩;conv=>whnf
   rw[ec];refine gZn h326 ?_;conv=>whnf
   exact⟨lr rfl,lh0⟩
structure MiI(a b:List Int)(i:Nat)(out:List Int)(c:Nat):Prop where
 len:out.length=i
 lb:LB out
 c1:c<=1
 sum:val (a.take i)+4294967296^i*c=val out+val (b.take i)
theorem MiI.step{a b:List Int}{i:Nat}{out:List Int}{c:Nat}(h:MiI a b i out c){x y:Nat}(hx:(a[i]?.getD 0).toNat =x)(hy:(b[i]?.getD 0).toNat =y)(hxl:x<4294967296)(hyl:y<4294967296):
 MiI a b (i+1) (out++ [(((x+4294967296-(c+y)) % 4294967296:Nat):Int)]) (1-(x+4294967296-(c+y))/4294967296):=by
 obtain⟨h1,h2,h3,h4⟩:=h;refine⟨by simp[h1],h2.snoc O,O,?_⟩;rw[zj1,jw,jw,hx,hy,h1,q4,w5];exact zmc 4294967296 (4294967296^i) _ c _ _ x y OA O hxl h3 h4
theorem MiI.fin{a b:List Int}{out:List Int}{c:Nat}(h:MiI a b a.length out c)(hl:b.length<=a.length)(hv:val b<=val a):val out=val a-val b:=by
 obtain⟨h1,h2,h3,h4⟩:=h;rw[qR,q6 hl]at h4;have h5:=jp h2 a.length O;rw[q6 O]at h5;obtain rfl|rfl:c=0\/c=1:=O
 .simp at h4;omega
 .rw[w9]at h4;omega
theorem r298{a b:List Int}(ha:LB a)(hb:LB b)(hal:a.length<=100000)(hl:b.length<=a.length)(hv:val b<=val a):Fn 197 [] [.sl .u32 a,.sl .u32 b] (.sl .u32 (toL (val a-val b))) []:=by
 refine fZ6 Tryz.func197 rfl rfl ?_;conv=>whnf
 refine⟨Nat×List Int×Nat,fun x=>x.1<=a.length/\MiI a b x.1 x.2.1 x.2.2,fun x=> [(7,.int .i64 x.1),(5,.own 41),(6,.int .u64 x.2.2)],fun x=> [(41,.buf 108 .u32 x.2.1)],fun x=>a.length-x.1,(0,[],0),⟨OC,⟨rfl,(fun x hx=>by cases hx),OC,by simp[val]⟩⟩,?_,fun x hx=>?_⟩
 .exact KZ0
 obtain⟨i,out,c⟩:=x;obtain⟨hi,hp⟩:=hx;simp only at hi hp;have hol:=hp.len;have hc:=hp.c1;have hst:=hp.step rfl rfl (zne ha i) (zne hb i);have e2:∀s:Nat,((s:Nat):Int).fdiv 4294967296=((s/4294967296:Nat):Int):=fun s=>by rw[q5 _ OA];simp
 have e3:∀s:Nat,s<18446744073709551616->v8.wrap (v6.wrap ((q3 v6.bits (s:Int)&&& q3 v6.bits 4294967295).toNat :Int))=((s % 4294967296:Nat):Int):=fun s hs=>by
  rw[zf8 _ O];simp[vc,v9,vd]
 have e4:∀s:Nat,s<8589934592->v6.wrap (1-((s:Nat):Int).fdiv 4294967296)=((1-s/4294967296:Nat):Int):=fun s hs=>by
  rw[e2,wU O];omega
 (refine⟨Z,?_⟩;(conv=>whnf))
 refine brI (fun h1=>?_) (fun h1=>?_)
 .have h1:i<a.length:=by simp only[Z2]at h1;omega
  have hxa:a[i]? =some a[i]:=q0 h1;have hba:=ha _ (qC h1);generalize a[i]=xa at hxa hba;rw[hxa]at hst;simp only[q7]at hst;conv=>whnf
  refine brI (fun h3=>?_) (fun h3=>?_)
  .have h3:i<b.length:=by simp only[Z2]at h3;omega
   have hxb:b[i]? =some b[i]:=q0 h3;have hbb:=hb _ (qC h3);generalize b[i]=xb at hxb hbb;rw[hxb]at hst;simp only[q7]at hst;have es:v6.wrap (v6.wrap (v6.wrap xa+4294967296)-v6.wrap ((c:Int)+v6.wrap xb))=((xa.toNat+4294967296-(c+xb.toNat):Nat):Int):=by
    rw[wU (x:=xa) O,wU (x:=xb) O,wU (x:=(c:Int)+xb) O,wU (x:=xa+4294967296) O,wU O];omega
   conv=>whnf
   refine⟨⟨O,O⟩,fun(z:Int)hz=>?_⟩;have hz:b[i]? =some z:=by simpa using hz
   rw[hxb]at hz;cases hz
   conv=>whnf
   refine⟨⟨O,O⟩,fun(z:Int)hz=>?_⟩;have hz:a[i]? =some z:=by simpa using hz
   rw[hxa]at hz;cases hz
   conv=>whnf
   refine⟨OE,?_⟩;conv=>whnf
   refine⟨OA,?_⟩;conv=>whnf
   refine⟨(i+1,out++ [(((xa.toNat+4294967296-(c+xb.toNat)) % 4294967296:Nat):Int)],1-(xa.toNat+4294967296-(c+xb.toNat))/4294967296),⟨OD,hst⟩,by show a.length-(i+1)<a.length-i;omega,?_⟩
   ((conv=>whnf);refine q9 ?_ ?_;repeat' first|refine lc ?_ ?_|refine lh1 ?_ ?_|refine bc0 ?_|exact KXZ|refine lg0 ?_|refine lt0 ?_)
   .exact ai0 ((congrArg (fun z:Int=>v6.wrap (1-z.fdiv 4294967296)) es).trans (e4 _ O))
   .exact ai0 (by rw[wI OD];simp only;omega)
   .exact bb0 (by
     show out++ [_]=out++ [_];rw[<-e3 _ O,<-es])
  .have h3:¬i<b.length:=by simp only[Z3]at h3;omega
   have hxb:b[i]? =none:=qA O;rw[hxb]at hst;simp only[wB,qY,qW]at hst;have es:v6.wrap (v6.wrap (v6.wrap xa+4294967296)-(c:Int))=((xa.toNat+4294967296-c:Nat):Int):=by
    rw[wU (x:=xa) O,wU (x:=xa+4294967296) O,wU O];omega
   conv=>whnf
   refine⟨⟨O,O⟩,fun(z:Int)hz=>?_⟩;have hz:a[i]? =some z:=by simpa using hz
   rw[hxa]at hz;cases hz
   conv=>whnf
   refine⟨OE,?_⟩;conv=>whnf
   refine⟨OA,?_⟩;conv=>whnf
   refine⟨(i+1,out++ [(((xa.toNat+4294967296-c) % 4294967296:Nat):Int)],1-(xa.toNat+4294967296-c)/4294967296),⟨OD,hst⟩,by show a.length-(i+1)<a.length-i;omega,?_⟩
   ((conv=>whnf);refine q9 ?_ ?_;repeat' first|refine lc ?_ ?_|refine lh1 ?_ ?_|refine bc0 ?_|exact KXZ|refine lg0 ?_|refine lt0 ?_)
   .exact ai0 ((congrArg (fun z:Int=>v6.wrap (1-z.fdiv 4294967296)) es).trans (e4 _ O))
   .exact ai0 (by rw[wI OD];simp only;omega)
   .exact bb0 (by
     show out++ [_]=out++ [_];rw[<-e3 _ O,<-es])
 .have h1:i=a.length:=by simp only[Z3]at h1;omega
  subst h1;have hf:=hp.fin hl hv;have h326:=qff hp.lb O;rw[hf]at h326;conv=>whnf
  refine gZn h326 ?_;conv=>whnf
  exact⟨lr rfl,lh0⟩
theorem zs0{l:List Int}{i:Nat}(hi:i<l.length)(h:l[i]?.getD 0=0):l.set i 0=l:=by
 apply List.ext_getElem?;intro j;by_cases e:i=j
 .subst e;rw[wD hi,q0 hi];rw[q0 hi]at h;simp only[q7]at h;rw[h]
 .rw[qE e]
theorem zmb(x:Int):∀(b:List Int)(p:Nat)(out:List Int)(c:Int)(j:Nat),p+b.length<=j->(zlh x b p out c).1[j]? =out[j]?
 | [],_,_,_,_,_=>rfl
 |y::b,p,out,c,j,h=>by
  rw[qZ]at h;rw[zlh,zmb x b _ _ _ j O,qE O]
theorem r330(x y:Nat)(hal:(toL x).length <=100000)(hbl:(toL y).length <=100000):Fn 198 [] [.sl .u32 (toL x),.sl .u32 (toL y)] (.sl .u32 (toL (x*y))) []:=by
 have ha:=zo x;have hb:=zo y;have hsp:=zhd (toL y) hb (toL x) 0 (qH ((toL x).length +(toL y).length +1) 0) ha (fun z hz=>by have:=qT hz;omega) OC (fun j _=>by
  rw[qL];split<;>rfl)
 rw[za9,zm,zm]at hsp;have hml:=zkr (toL y) (toL x) 0 (qH ((toL x).length +(toL y).length +1) 0);generalize toL x=a at*;generalize toL y=b at*;obtain⟨A,hA⟩:∃A,zn9 b a 0 (qH (a.length+b.length+1) 0)=A:=⟨_,rfl⟩;rw[hA]at hsp hml;have hAv:val A=x*y:=by have:=hsp.1;simpa using this
 have h326:=qff hsp.2 (by rw[hml];simp;omega);rw[hAv]at h326;clear hsp hAv hml;generalize toL (x*y)=R at h326⊢;refine fZ6 Tryz.func198 rfl rfl ?_;conv=>whnf
 rw[wI (x:=(a.length:Int)+(b.length:Int)) O,wI (x:=(a.length:Int)+(b.length:Int)+1) O];refine⟨⟨O,O,O⟩,?_⟩;conv=>whnf
 refine⟨Nat×List Int,fun x=>x.1<=a.length/\LB x.2/\x.2.length=a.length+b.length+1/\zn9 b (a.drop x.1) x.1 x.2=A/\(∀j,x.1+b.length<=j->x.2[j]?.getD 0=0),fun x=> [(6,.int .i64 x.1)],fun x=> [(18,.buf 108 .u32 x.2)],fun x=>a.length-x.1,(0,qH (a.length+b.length+1) 0),⟨OC,(fun x hx=>by rw[qT hx];omega),OC,by simpa using hA,fun j _=>by
  rw[qL];split<;>rfl⟩,?_,fun x hx=>?_⟩
 .exact KZ0
 (refine⟨Z,?_⟩;(conv=>whnf))
 obtain⟨i,out⟩:=x;obtain⟨hi1,hi2,hi3,hi4,hi5⟩:=hx;simp only at hi1 hi2 hi3 hi4 hi5;refine brI (fun h1=>?_) (fun h1=>?_)
 .have hi:i<a.length:=by simp only[Z2]at h1;omega
  have hxa:a[i]? =some a[i]:=q0 hi;have hxb:=ha _ (qC hi);generalize a[i]=x at hxa hxb;rw[zu hxa]at hi4;simp only[zn9]at hi4;conv=>whnf
  refine⟨Nat×List Int×Int,fun z=>z.1<=b.length/\LB z.2.1/\z.2.1.length=a.length+b.length+1/\(0<=z.2.2/\z.2.2<4294967296)/\zlh x (b.drop z.1) (i+z.1) z.2.1 z.2.2=zlh x b i out 0,fun z=> [(8,.int .i64 z.1),(7,.int .u64 z.2.2)],fun z=> [(18,.buf 108 .u32 z.2.1)],fun z=>b.length-z.1,(0,out,0),⟨OC,hi2,hi3,OC,OC⟩,?_,fun z hz=>?_⟩
  .exact KZ0
  (refine⟨Z,?_⟩;(conv=>whnf))
  obtain⟨k,o2,c⟩:=z;obtain⟨hk1,hk2,hk3,hk4,hk5⟩:=hz;simp only at hk1 hk2 hk3 hk4 hk5;refine brI (fun h2=>?_) (fun h2=>?_)
  .have hk:k<b.length:=by simp only[Z2]at h2;omega
   conv=>whnf
   refine⟨⟨O,OD⟩,fun(z:Int)hz=>?_⟩;have hz:a[i]? =some z:=by simpa using hz
   rw[hxa]at hz;cases hz
   conv=>whnf
   refine⟨⟨O,OD⟩,fun(y:Int)hy=>?_⟩;have hy:b[k]? =some y:=by simpa using hy
   have hyb:=hb y (qJ hy);rw[zu hy]at hk5;simp only[zlh]at hk5;have hob:=hk2.at (i+k);have hbd:=qax hxb hyb hob hk4;have hik:v7.wrap ((i:Int)+(k:Int))=((i+k:Nat):Int):=by rw[wI O];omega
   conv=>whnf
   refine⟨⟨by show 0<=v7.wrap ((i:Int)+(k:Int));rw[hik];omega,by show v7.wrap ((i:Int)+(k:Int))<(o2.length:Int);rw[hik];omega⟩,?_⟩;conv=>whnf
   refine⟨by show(v7.wrap ((i:Int)+(k:Int))).toNat <o2.length;rw[hik];omega,fun(o:Int)ho=>?_⟩;have ho:o2[i+k]? =some o:=by
    have ho:o2[(v7.wrap ((i:Int)+(k:Int))).toNat]? =some o:=ho;rw[hik,show(((i+k:Nat):Int)).toNat =i+k by omega]at ho;exact ho
   rw[ho]at hob hbd hk5;simp only[q7]at hob hbd hk5;have hsum:v6.wrap (v6.wrap (v6.wrap (v6.wrap x*v6.wrap y)+v6.wrap o)+c)=x*y+o+c:=by
    rw[wU (x:=x) O,wU (x:=y) O,wU (x:=o) O,wU (x:=x*y) O,wU (x:=x*y+o) O,wU O]
   obtain⟨s,hs⟩:∃s,x*y+o+c=s:=⟨_,rfl⟩;rw[hs]at hbd hk5 hsum;conv=>whnf
   (refine⟨Z,Z,?_⟩;(conv=>whnf))
   refine⟨⟨by show 0<=v7.wrap ((i:Int)+(k:Int));rw[hik];omega,by show v7.wrap ((i:Int)+(k:Int))<(o2.length:Int);rw[hik];omega⟩,?_⟩;conv=>whnf
   refine⟨by show(v7.wrap ((i:Int)+(k:Int))).toNat <o2.length;rw[hik];omega,?_⟩;conv=>whnf
   refine⟨O,?_⟩;conv=>whnf
   have e1:v8.wrap (s % 4294967296)=s % 4294967296:=by simp[vc,v9,vd]
   have e2:s.fdiv 4294967296=s/4294967296:=q5 _ OA;have e3:=zf8 s O;refine⟨(k+1,o2.set (i+k) (s % 4294967296),s/4294967296),⟨OD,hk2.set O,by simp only[qI];exact hk3,⟨OD,OD⟩,hk5⟩,by show b.length-(k+1)<b.length-k;omega,?_⟩
   ((conv=>whnf);refine q9 ?_ ?_;repeat' first|refine lc ?_ ?_|refine lh1 ?_ ?_|refine bc0 ?_|exact KXZ|refine lg0 ?_|refine lt0 ?_)
   .exact ai0 ((congrArg (fun z:Int=>z.fdiv 4294967296) hsum).trans e2)
   .exact ai0 (by rw[wI OD];simp only;omega)
   .exact bb0 (by
     show wK o2 (v7.wrap ((i:Int)+(k:Int))).toNat (v8.wrap _)=o2.set (i+k) (s % 4294967296);rw[hik,show(((i+k:Nat):Int)).toNat =i+k by omega,<-e1,<-e3,<-hsum])
  .have hk:k=b.length:=by simp only[Z3]at h2;omega
   subst hk;rw[qV O]at hk5;simp only[zlh]at hk5;have hkp:∀j,i+b.length<=j->o2[j]?.getD 0=0:=fun j hj=>by
    have:=zmb x b i out 0 j hj;rw[<-hk5]at this;simp only at this;rw[this];exact hi5 j hj
   rw[<-hk5]at hi4;simp only at hi4;have hik:v7.wrap ((i:Int)+(b.length:Int))=((i+b.length:Nat):Int):=by rw[wI O];omega
   have hnx:∀j,i+1+b.length<=j->(o2.set (i+b.length) c)[j]?.getD 0=0:=fun j hj=>by
    rw[qE O];exact hkp j O
   conv=>whnf
   rw[hik];refine⟨Bool,fun _=>True,fun z=> [(10,.int .i64 (bif z then((i+b.length:Nat):Int)+1 else((i+b.length:Nat):Int))),(7,.int .u64 (bif z then 0 else c))],fun z=> [(18,.buf 108 .u32 (bif z then o2.set (i+b.length) c else o2))],fun z=>bif z then 0 else 1,false,trivial,?_,fun z _=>?_⟩
   .exact KZ0
   cases z with
   |true=>
    (refine⟨Z,?_⟩;(conv=>whnf))
    refine⟨(i+1,o2.set (i+b.length) c),⟨OD,hk2.set hk4,by simp only[qI];exact hk3,hi4,hnx⟩,by show a.length-(i+1)<a.length-i;omega,?_⟩;exact KZ0
   |false=>
    (refine⟨Z,?_⟩;(conv=>whnf))
    refine brI (fun h3=>?_) (fun h3=>?_)
    .have h3:0<c:=by
      have h3:=Z0 h3;exact h3
     have hz:=hkp (i+b.length) (qF _);have ho:o2[i+b.length]? =some 0:=by
      rw[q0 O]at hz⊢;simpa using hz
     conv=>whnf
     refine⟨⟨by show(0:Int)<=((i+b.length:Nat):Int);omega,by show((i+b.length:Nat):Int)<(o2.length:Int);omega⟩,?_⟩;conv=>whnf
     refine⟨by show(((i+b.length:Nat):Int)).toNat <o2.length;omega,fun(o:Int)ho2=>?_⟩;have ho2:o2[i+b.length]? =some o:=by
      have ho2:o2[(((i+b.length:Nat):Int)).toNat]? =some o:=ho2
      rwa [q4]at ho2
     rw[ho]at ho2;cases ho2
     have hsum:v6.wrap (v6.wrap 0+c)=c:=by rw[wU (x:=0) O,wU O];omega
     have e1:v8.wrap (c % 4294967296)=c:=by simp[vc,v9,vd];omega
     have e3:=zf8 c O;conv=>whnf
     refine⟨⟨by show(0:Int)<=((i+b.length:Nat):Int);omega,by show((i+b.length:Nat):Int)<(o2.length:Int);omega⟩,?_⟩;conv=>whnf
     refine⟨by show(((i+b.length:Nat):Int)).toNat <o2.length;omega,?_⟩;conv=>whnf
     refine⟨OA,?_⟩;conv=>whnf
     refine⟨true,trivial,OA,?_⟩
     ((conv=>whnf);refine q9 ?_ ?_;repeat' first|refine lc ?_ ?_|refine lh1 ?_ ?_|refine bc0 ?_|exact KXZ|refine lg0 ?_|refine lt0 ?_)
     .exact ai0 (by
       show(v6.wrap (v6.wrap 0+c)).fdiv 4294967296=0;rw[hsum,q5 _ OA];omega)
     .exact ai0 (by show v7.wrap (((i+b.length:Nat):Int)+1)=_;rw[wI O];rfl)
     .exact bb0 (by
       show wK o2 (((i+b.length:Nat):Int)).toNat (v8.wrap (v6.wrap ((q3 v6.bits (v6.wrap (v6.wrap 0+c))&&& q3 v6.bits 4294967295).toNat :Int)))=o2.set (i+b.length) c;rw[hsum,e3,e1,q4])
    .have h3:c=0:=by
      have h3:¬(c>0):=Z1 h3;omega
     subst h3;have hss:=zs0 O (hkp (i+b.length) (qF _));rw[hss]at hi4 hnx;conv=>whnf
     refine⟨(i+1,o2),⟨OD,hk2,hk3,hi4,hnx⟩,by show a.length-(i+1)<a.length-i;omega,?_⟩;exact KZ0
 .have hi:i=a.length:=by simp only[Z3]at h1;omega
  subst hi;rw[qV O]at hi4;simp only[zn9]at hi4;subst hi4;conv=>whnf
  refine gZn h326 ?_;conv=>whnf
  exact⟨lr rfl,lh0⟩
theorem r254{d:Dy}(h:VD d):Fn 122 [] [.agg (dyC d)] (.agg (dyC (jm d))) []:=by
 refine VD.cases (P:=fun d=>Fn 122 [] [.agg (dyC d)] (.agg (dyC (jm d))) []) h ?_ (fun s n e hd hn _ _ _ _=>?_)
 .refine fZ6 Tryz.func122 rfl rfl ?_;conv=>whnf
  exact⟨lr rfl,lh0⟩
 .have hne:jm ⟨s,toL n,e⟩=⟨!s,toL n,e⟩:=by unfold jm;rw[Z5 (by rw[ji];omega)]
  have hl:=zg1 hn;rw[hne];have hl2:decide (((toL n).length :Int)>0)=true:=by
   rw[beq_eq_false_iff_ne]at hl;exact Z6 O
  generalize toL n=t at*;cases s
  .refine fZ6 Tryz.func122 rfl rfl ?_;conv=>whnf
   exact⟨lg0 (lc (ab0 hl2) (lc (lr rfl) (lc (lr rfl) ln0))),lh0⟩
  .refine fZ6 Tryz.func122 rfl rfl ?_;conv=>whnf
   exact⟨lr rfl,lh0⟩
theorem r252{d:Dy}(h:VD d):Fn 120 [] [.agg (dyC d)] (.int .i64 (qd d)) []:=by
 refine VD.cases (P:=fun d=>Fn 120 [] [.agg (dyC d)] (.int .i64 (qd d)) []) h ?_ (fun s n e hd hn hb h1 h2 h3=>?_)
 .refine fZ6 Tryz.func120 rfl rfl ?_;conv=>whnf
  exact⟨lr rfl,lh0⟩
 .have ht:qd ⟨s,toL n,e⟩=bl n+e:=by unfold qd;rw[Z5 (by rw[ji];omega),ji]
  have hl:=zg1 hn;have h250:=r250 n (by have:=(qm n 128).2 O;omega);clear hd;rw[ht];clear ht;generalize toL n=t at*;show Fn 120 [] [.agg [.bool s,.sl .u32 t,.int .i64 e]] _ [];refine fZ6 Tryz.func120 rfl rfl ?_;conv=>whnf
  rw[hl];conv=>whnf
  refine gZn h250 ?_;conv=>whnf
  (refine⟨Z,Z,?_⟩;(conv=>whnf))
  exact⟨ai0 (by rw[wI O]),lh0⟩
def zbx(a b:Dy):Dy:=
 if nm a=0 then b else if nm b=0 then a else
 if a.neg=b.neg then cnN a.neg (nm a*2^(a.e-min a.e b.e).toNat +nm b*2^(b.e-min a.e b.e).toNat) (min a.e b.e)
 else if nm b*2^(b.e-min a.e b.e).toNat <=nm a*2^(a.e-min a.e b.e).toNat then cnN a.neg (nm a*2^(a.e-min a.e b.e).toNat -nm b*2^(b.e-min a.e b.e).toNat) (min a.e b.e)
 else cnN b.neg (nm b*2^(b.e-min a.e b.e).toNat -nm a*2^(a.e-min a.e b.e).toNat) (min a.e b.e)
theorem zqq{x y k:Nat}(h1:bl x<=k)(h2:bl y<=k):bl (x+y)<=k+1:=by
 have c1:=ur.1 h1;have c2:=ur.1 h2;exact ur.2 (by rw[w5];omega)
theorem yj{x y k:Nat}(h:x<=y)(hy:(toL y).length <=k):(toL x).length <=k:=by
 rw[wh]at hy⊢;omega
theorem r253{a b:Dy}(ha:VD a)(hb:VD b):Fn 121 [] [.agg (dyC a),.agg (dyC b)] (.agg (dyC (zbx a b))) []:=by
 refine VD.cases (P:=fun a=>Fn 121 [] [.agg (dyC a),.agg (dyC b)] (.agg (dyC (zbx a b))) []) ha ?_ (fun s x e _ hx hxb h1 h2 h3=>?_)
 .rw[show zbx d0 b=b by unfold zbx;rw[Z4 zkn]];obtain⟨t,m,f⟩:=b;refine fZ6 Tryz.func121 rfl rfl ?_;conv=>whnf
  exact⟨lr rfl,lh0⟩
 refine VD.cases (P:=fun b=>Fn 121 [] [.agg (dyC ⟨s,toL x,e⟩),.agg (dyC b)] (.agg (dyC (zbx ⟨s,toL x,e⟩ b))) []) hb ?_ (fun t y f _ hy hyb g1 g2 g3=>?_)
 .rw[show zbx ⟨s,toL x,e⟩ d0=⟨s,toL x,e⟩ by unfold zbx;rw[Z5 (by rw[ji];omega),Z4 zkn]];have hl:=zg1 hx;generalize toL x=m at*;refine fZ6 Tryz.func121 rfl rfl ?_;conv=>whnf
  rw[hl];conv=>whnf
  exact⟨lr rfl,lh0⟩
 have es:zbx ⟨s,toL x,e⟩ ⟨t,toL y,f⟩=if s=t then cnN s (x*2^(e-min e f).toNat +y*2^(f-min e f).toNat) (min e f)
  else if y*2^(f-min e f).toNat <=x*2^(e-min e f).toNat then cnN s (x*2^(e-min e f).toNat -y*2^(f-min e f).toNat) (min e f)
  else cnN t (y*2^(f-min e f).toNat -x*2^(e-min e f).toNat) (min e f):=by
  unfold zbx;rw[Z5 (by rw[ji];omega),Z5 (by rw[ji];omega),ji,ji]
 rw[es];have hlx:=zg1 hx;have hly:=zg1 hy;have hmin:(if f<e then f else e)=min e f:=by split<;>omega
 have k1:v7.wrap (e-min e f)=((e-min e f).toNat :Int):=by rw[wI O];omega
 have k2:v7.wrap (f-min e f)=((f-min e f).toNat :Int):=by rw[wI O];omega
 have hK1:(e-min e f).toNat <=32768:=O;have hK2:(f-min e f).toNat <=32768:=O;have q1:=r295 x (e-min e f).toNat (by have:=(qm x 128).2 O;omega) O;have q2:=r295 y (f-min e f).toNat (by have:=(qm y 128).2 O;omega) O;have b1:(toL (x*2^(e-min e f).toNat)).length <=2000:=by rw[qm,zw _ _ O];omega
 have b2:(toL (y*2^(f-min e f).toNat)).length <=2000:=by rw[qm,zw _ _ O];omega
 have hm: -16384<=min e f/\min e f<=16384:=O;generalize (e-min e f).toNat =K1 at*;generalize (f-min e f).toNat =K2 at*;generalize x*2^K1=X at*;generalize y*2^K2=Y at*;have r168':=r168 X Y O O;have p1:=r297 (zo X) (zo Y) O O;rw[zm,zm]at p1;have o1:=zxn s (zo (X+Y)) (by
  have:(toL (X+Y)).length <=2001:=by
   rw[qm]at b1 b2⊢;have:=zqq b1 b2;omega
  omega) (min e f) O
 rw[zm]at o1;have o2:=fun(h:Y<=X)=>zxn s (zo (X-Y)) (yj (O:X-Y<=X) (qN b1 O)) (min e f) O
 have o3:=fun(h:X<=Y)=>zxn t (zo (Y-X)) (yj (O:Y-X<=Y) (qN b2 O)) (min e f) O
 have m1:=fun(h:Y<=X)=>r298 (zo X) (zo Y) O (yj h (qF _)) (by rw[zm,zm];exact h)
 have m2:=fun(h:X<=Y)=>r298 (zo Y) (zo X) O (yj h (qF _)) (by rw[zm,zm];exact h)
 simp only[zm]at o2 o3 m1 m2;generalize toL (X+Y)=XP at*;generalize toL (X-Y)=XM at*;generalize toL (Y-X)=YM at*;generalize toL X=LX at*;generalize toL Y=LY at*;generalize toL x=lx at*;generalize toL y=ly at*;by_cases hst:s=t
 .subst hst;rw[Z4 rfl];generalize cnN s (X+Y) (min e f)=R at*;have hbb:(s==s)=true:=OC;show Fn 121 [] [.agg [.bool s,.sl .u32 lx,.int .i64 e],.agg [.bool s,.sl .u32 ly,.int .i64 f]] _ [];refine fZ6 Tryz.func121 rfl rfl ?_;conv=>whnf
  rw[hlx];conv=>whnf
  rw[hly];conv=>whnf
  rw[hmin,k1];refine gZn q1 ?_;conv=>whnf
  rw[k2];refine gZn q2 ?_;conv=>whnf
  (refine⟨Z,Z,?_⟩;(conv=>whnf))
  refine brI (fun h=>?_) (fun h=>?_)
  .conv=>whnf
   refine gZn p1 ?_;conv=>whnf
   refine gZn o1 ?_;conv=>whnf
   (refine⟨Z,Z,?_⟩;(conv=>whnf))
   exact⟨lr rfl,lh0⟩
  .have h:(s==s)=false:=h;rw[hbb]at h;cases h
 .rw[Z5 hst];have hor:(0<=yc X Y)<->Y<=X:=by
   unfold yc;split
   .constructor
    .intro h;omega
    .intro h;omega
   .split
    .constructor
     .intro h;omega
     .intro h;omega
    .constructor
     .intro h;omega
     .intro h;omega
  have hres:∀Q:Dy,(Y<=X->Q=cnN s (X-Y) (min e f))->(¬Y<=X->Q=cnN t (Y-X) (min e f))->Fn 121 [] [.agg [.bool s,.sl .u32 lx,.int .i64 e],.agg [.bool t,.sl .u32 ly,.int .i64 f]] (.agg (dyC Q)) []:=fun Q hQ1 hQ2=>by
   generalize yc X Y=Oq at*;generalize cnN s (X-Y) (min e f)=R1 at*;generalize cnN t (Y-X) (min e f)=R2 at*;refine fZ6 Tryz.func121 rfl rfl ?_;conv=>whnf
   rw[hlx];conv=>whnf
   rw[hly];conv=>whnf
   rw[hmin,k1];refine gZn q1 ?_;conv=>whnf
   rw[k2];refine gZn q2 ?_;conv=>whnf
   (refine⟨Z,Z,?_⟩;(conv=>whnf))
   refine brI (fun h=>?_) (fun h=>?_)
   .have h:(s==t)=true:=h;exact absurd (by simpa using h) hst
   conv=>whnf
   refine gZn r168' ?_;conv=>whnf
   refine brI (fun h=>?_) (fun h=>?_)
   .have h:0<=Oq:=Z0 h;have h:=hor.1 h;rw[hQ1 h];conv=>whnf
    refine gZn (m1 h) ?_;conv=>whnf
    refine gZn (o2 h) ?_;conv=>whnf
    (refine⟨Z,Z,?_⟩;(conv=>whnf))
    exact⟨lr rfl,lh0⟩
   .have h:¬0<=Oq:=Z1 h;have h:=fun c=>h (hor.2 c)
    rw[hQ2 h];conv=>whnf
    refine gZn (m2 O) ?_;conv=>whnf
    refine gZn (o3 O) ?_;conv=>whnf
    (refine⟨Z,Z,?_⟩;(conv=>whnf))
    exact⟨lr rfl,lh0⟩
  exact hres _ (fun h=>by rw[Z4 h]) (fun h=>by rw[Z5 h])
theorem r301{a b:Dy}(ha:VD a)(hb:VD b):Fn 123 [] [.agg (dyC a),.agg (dyC b)] (.agg (dyC (cnN (a.neg != b.neg) (nm a*nm b) (a.e+b.e)))) []:=by
 have ea:=ha.exp;have eb:=hb.exp;have h1:(toL (nm a)).length <=128:=(qm _ _).2 ha.bits;have h2:(toL (nm b)).length <=128:=(qm _ _).2 hb.bits;have h330:=r330 (nm a) (nm b) O O;have h3:(toL (nm a*nm b)).length <=300:=by
  rw[qm];have:=zez (nm a) (nm b);have:=ha.bits;have:=hb.bits;omega
 have hA:toL (nm a)=a.m:=ha.eq.symm;have hB:toL (nm b)=b.m:=hb.eq.symm;rw[hA,hB]at h330;have ho:=zxn (a.neg != b.neg) (zo (nm a*nm b)) O (a.e+b.e) O;rw[zm]at ho;generalize nm a*nm b=N at*;generalize toL N=M at*;obtain⟨s,x,e⟩:=a;obtain⟨t,y,f⟩:=b;simp only at*;generalize cnN (s != t) N (e+f)=R at*;obtain⟨u,z,g⟩:=R;refine fZ6 Tryz.func123 rfl rfl ?_;conv=>whnf
 refine gZn h330 ?_;conv=>whnf
 rw[wI (x:=e+f) O];refine gZn ho ?_;conv=>whnf
 (refine⟨Z,Z,?_⟩;(conv=>whnf))
 exact⟨lr rfl,lh0⟩
theorem and1{y:Nat}(hy:y<4294967296):v8.wrap ((q3 v8.bits (y:Int)&&& q3 v8.bits 1).toNat :Int)=((y % 2:Nat):Int):=by
 have e1:(q3 32 (y:Int)).toNat =y:=by rw[w1,w7];exact wn hy
 have e2:(q3 32 1).toNat =2^1-1:=OA;show v8.wrap ((q3 32 (y:Int)&&& q3 32 1).toNat :Int)=_;rw[ws,e1,e2,qK,zrw O]
theorem qcw(d:Dy)(hb:LB d.m)(hl:d.m.length<9223372036854775808):Fn 25 [] [.agg (dyC d)] (.bool (vB d)) []:=by
 obtain⟨A,hA⟩:∃A,vB d=A:=⟨_,rfl⟩;rw[hA];unfold vB at hA;obtain⟨neg,m,e⟩:=d;simp only at hb hl hA;show Fn 25 [] [.agg [.bool neg,.sl .u32 m,.int .i64 e]] _ [];by_cases h0:m.length=0
 .rw[Z4 h0]at hA;obtain rfl:=w0 h0;cases neg
  .refine fZ6 Tryz.func25 rfl rfl ?_;conv=>whnf
   refine⟨ab0 ?_,lh0⟩;rw[<-hA,wG];show(e==0)=true<->_;simp
  .subst hA;refine fZ6 Tryz.func25 rfl rfl ?_;conv=>whnf
   exact⟨lr rfl,lh0⟩
 rw[Z5 h0]at hA;have hl0:(((m.length:Nat):Int)==0)=false:=by rw[beq_eq_false_iff_ne];omega
 have hw:v7.wrap ((m.length:Int)-1)=((m.length-1:Nat):Int):=by rw[wI O];omega
 have hxl:m[m.length-1]? =some m[m.length-1]:=q0 O;have hx0:m[0]? =some m[0]:=q0 O;have hbl:=hb _ (qC (l:=m) (n:=m.length-1) O);have hb0:=hb _ (qC (l:=m) (n:=0) O);generalize m[m.length-1]=z at hxl hbl;generalize m[0]=y at hx0 hb0;have hg:m.getLast?=some z:=by rw[w8];exact hxl
 rw[hx0,hg]at hA;simp only[q7]at hA;obtain⟨y,rfl⟩:=wC hb0.1;have ha1:=and1 (y:=y) O;have hty:((y:Nat):Int).tmod 2=((y % 2:Nat):Int):=qP y 2;have ed:decide (((y:Nat):Int).tmod 2=1)=decide (y % 2=1):=decide_eq_decide.2 (by rw[hty];omega);have hA:(decide (m.length<=256)&&decide (y % 2=1)&&decide (z≠0)&&irB ⟨neg,m,e⟩)=A:=by rw[<-ed];exact hA
 refine fZ6 Tryz.func25 rfl rfl ?_;conv=>whnf
 rw[hl0];conv=>whnf
 refine brI (fun h1=>?_) (fun h1=>?_)
 .have h1:256<m.length:=by have h1:((m.length:Nat):Int)>256:=Z0 h1;omega
  rw[Z7 (O:¬m.length<=256),qM,qM,qM]at hA;subst hA;conv=>whnf
  exact⟨lr rfl,lh0⟩
 have h1:m.length<=256:=by have h1:¬((m.length:Nat):Int)>256:=Z1 h1;omega
 rw[Z6 h1,wi]at hA;conv=>whnf
 rw[hw];refine⟨⟨O,O⟩,fun(x:Int)hx=>?_⟩;have hx:m[m.length-1]? =some x:=by simpa using hx
 rw[hxl]at hx;cases hx
 conv=>whnf
 refine brI (fun h2=>?_) (fun h2=>?_)
 .have h2:z=0:=by
   have h2:(z==0)=true:=h2;simpa using h2
  rw[Z7 (O:¬z≠0),wX,qM]at hA;subst hA;conv=>whnf
  exact⟨lr rfl,lh0⟩
 have h2:z≠0:=by
  have h2:(z==0)=false:=h2;simpa using h2
 rw[Z6 h2,wY]at hA;conv=>whnf
 refine⟨⟨O,O⟩,fun(x:Int)hx=>?_⟩;have hx:m[0]? =some x:=by simpa using hx
 rw[hx0]at hx;cases hx
 conv=>whnf
 rw[ha1];refine brI (fun h3=>?_) (fun h3=>?_)
 .have h3:y % 2=0:=by
   have h3:(((y % 2:Nat):Int)==0)=true:=h3;rw[beq_iff_eq]at h3;omega
  rw[Z7 (O:¬y % 2=1),qM]at hA;subst hA;conv=>whnf
  exact⟨lr rfl,lh0⟩
 have h3:y % 2=1:=by
  have h3:(((y % 2:Nat):Int)==0)=false:=h3;rw[beq_eq_false_iff_ne]at h3;omega
 rw[Z6 h3,wi]at hA;unfold irB at hA;simp only at hA;rw[zju hb]at hA;have he:=zo8 hb (by rw[hg];exact h2);have hv:val m≠0:=fun c=>h0 (by rw[he,c];rfl)
 have hbz:bl (val m)≠0:=fun c=>hv (xv.1 c)
 rw[Z7 O,Bool.false_or]at hA;have h250:=r250 (val m) (by rw[<-he];omega);rw[<-he]at h250;have hbm:bl (val m)<=32*256:=(qm _ _).1 (by rw[<-he];exact h1);generalize bl (val m)=B at*;conv=>whnf
 refine brI (fun h4=>?_) (fun h4=>?_)
 .have h4:e< -16384:=Z0 h4;rw[show A=false by rw[<-hA];simp;omega];conv=>whnf
  exact⟨lr rfl,lh0⟩
 have h4:¬e< -16384:=Z1 h4;conv=>whnf
 refine brI (fun h5=>?_) (fun h5=>?_)
 .have h5:e>16384:=Z0 h5;rw[show A=false by rw[<-hA];simp;omega];conv=>whnf
  exact⟨lr rfl,lh0⟩
 have h5:¬e>16384:=Z1 h5;conv=>whnf
 refine gZn h250 ?_;conv=>whnf
 refine brI (fun h6=>?_) (fun h6=>?_)
 .have h6:(B:Int)<=4096:=Z0 h6;conv=>whnf
  refine⟨ab0 ?_,lh0⟩;rw[wI O,<-hA,wG];simp only[Bool.and_eq_true,Z2];omega
 .have h6:¬(B:Int)<=4096:=Z1 h6;rw[show A=false by rw[<-hA];simp;omega];conv=>whnf
  exact⟨lr rfl,lh0⟩
theorem zph{d:Dy}(h:VD d):sgR d=jh d:=by
 refine VD.cases (P:=fun d=>sgR d=jh d) h rfl (fun s n e hd hn _ _ _ _=>?_);unfold sgR jh;have hl:(toL n).length ≠0:=by rw[Ne,wv];omega
 rw[Z5 hl,ji,Z5 (O:¬n=0)]
theorem zsz(neg:Bool)(n:Nat)(e:Int):sgR (cnN neg n e)=if n=0 then 0 else if neg=true then-1 else 1:=by
 unfold cnN;split
 .rfl
 .rename_i h;obtain⟨m,h1,h2⟩:=xj h;have h3:n/2^tz n=m:=qB (q8 _) h1;unfold sgR;simp only;rw[Z5 (by rw[wv,h3];omega)]
theorem zvs{a b:Dy}(hs:jh a=jh b)(h0:jh a≠0):(qd a<qd b->qh a b= -jh a)/\(qd b<qd a->qh a b=jh a)/\qh a b=sgR (zbx a (jm b)):=by
 have ha0:nm a≠0:=fun c=>h0 (by unfold jh;rw[Z4 c])
 have hb0:nm b≠0:=fun c=>h0 (by rw[hs];unfold jh;rw[Z4 c])
 have hneg:a.neg=b.neg:=by
  unfold jh at hs;rw[Z5 ha0,Z5 hb0]at hs;cases h1:a.neg<;>cases h2:b.neg<;>simp_all
 have e1:qd a=bl (nm a)+a.e:=by unfold qd;rw[Z5 ha0]
 have e2:qd b=bl (nm b)+b.e:=by unfold qd;rw[Z5 hb0]
 have q1:=zw (nm a) (a.e-min a.e b.e).toNat ha0;have q2:=zw (nm b) (b.e-min a.e b.e).toNat hb0;have hd:=zna hs h0;have hn:jm b=⟨!b.neg,b.m,b.e⟩:=by unfold jm;rw[Z5 hb0]
 have hnn:nm (jm b)=nm b:=by rw[hn];rfl
 have hS:zbx a (jm b)=if nm b*2^(b.e-min a.e b.e).toNat <=nm a*2^(a.e-min a.e b.e).toNat then cnN a.neg (nm a*2^(a.e-min a.e b.e).toNat -nm b*2^(b.e-min a.e b.e).toNat) (min a.e b.e)
  else cnN (!b.neg) (nm b*2^(b.e-min a.e b.e).toNat -nm a*2^(a.e-min a.e b.e).toNat) (min a.e b.e):=by
  unfold zbx;rw[hnn,Z5 ha0,Z5 hb0,hn];simp only;rw[Z5 (by rw[hneg];cases b.neg<;>simp)]
 rw[hS,hd];unfold cmA;generalize nm a*2^(a.e-min a.e b.e).toNat =X at*;generalize nm b*2^(b.e-min a.e b.e).toNat =Y at*;refine⟨fun h=>?_,fun h=>?_,?_⟩
 .rw[zki (zzc O)];omega
 .rw[zkj (zzc O)];omega
 .have hsa:jh a=if a.neg=true then-1 else 1:=by unfold jh;rw[Z5 ha0]
  by_cases h:Y<=X
  .rw[Z4 h,zsz];by_cases h2:X=Y
   .subst h2;rw[Z4 O];unfold yc;rw[Z5 O,Z5 O];omega
   .rw[Z5 O,zkj O,hsa];omega
  .rw[Z5 h,zsz,Z5 O,zki O,hsa,hneg];cases b.neg<;>rfl
theorem zxo{a b:Dy}(ha:VD a)(hb:VD b):Fn 52 [] [.agg (dyC a),.agg (dyC b)] (.int .i64 (qh a b)) []:=by
 have s1:=qgy a;have s2:=qgy b;have t1:=r252 ha;have t2:=r252 hb;have n1:=r254 hb;have hnb:VD (jm b):=ze1 hb;have m1:=r253 ha hnb;have z1:=qgy (zbx a (jm b));have c1:=zqp (a:=a) (b:=b);have c2:=zvs (a:=a) (b:=b);rw[zph ha]at s1;rw[zph hb]at s2;have hz:jh a=0\/jh a=1\/jh a= -1:=by unfold jh;split<;>(try split)<;>simp
 generalize sgR (zbx a (jm b))=Zq at*;generalize zbx a (jm b)=SX at*;generalize jm b=NB at*;generalize qh a b=C at*;generalize jh a=sa at*;generalize jh b=sb at*;have ea:=ha.exp;have eb:=hb.exp;generalize qd a=ta at*;generalize qd b=tb at*;refine fZ6 Tryz.func52 rfl rfl ?_;conv=>whnf
 refine gZn s1 ?_;conv=>whnf
 refine gZn s2 ?_;conv=>whnf
 (refine⟨Z,Z,?_⟩;(conv=>whnf))
 refine brI (fun h1=>?_) (fun h1=>?_)
 .have h1:sa≠sb:=by
   have h1:(sa != sb)=true:=h1;simpa using h1
  conv=>whnf
  refine brI (fun h2=>?_) (fun h2=>?_)
  .have h2:sa<sb:=Z0 h2;rw[c1.1 h2];conv=>whnf
   exact⟨lr rfl,lh0⟩
  .have h2:¬sa<sb:=Z1 h2;rw[c1.2.1 O];conv=>whnf
   exact⟨lr rfl,lh0⟩
 have h1:sa=sb:=by
  have h1:(sa != sb)=false:=h1;simpa using h1
 conv=>whnf
 refine brI (fun h2=>?_) (fun h2=>?_)
 .have h2:sa=0:=by
   have h2:(sa==0)=true:=h2;simpa using h2
  rw[c1.2.2 h1 h2];conv=>whnf
  exact⟨lr rfl,lh0⟩
 have h2:sa≠0:=by
  have h2:(sa==0)=false:=h2;simpa using h2
 obtain⟨d1,d2,d3⟩:=c2 h1 h2;conv=>whnf
 refine gZn t1 ?_;conv=>whnf
 refine gZn t2 ?_;conv=>whnf
 (refine⟨Z,Z,?_⟩;(conv=>whnf))
 refine brI (fun h3=>?_) (fun h3=>?_)
 .have h3:ta≠tb:=by
   have h3:(ta != tb)=true:=h3;simpa using h3
  conv=>whnf
  refine gZn t1 ?_;conv=>whnf
  refine gZn t2 ?_;conv=>whnf
  (refine⟨Z,Z,?_⟩;(conv=>whnf))
  refine brI (fun h4=>?_) (fun h4=>?_)
  .have h4:(decide (ta<tb)==decide (sa>0))=true:=h4;have hC:C= -1:=by
    rcases hz with hz|hz|hz
    .exact absurd hz h2
    .have:ta<tb:=by simpa[hz]using h4
     rw[d1 this,hz]
    .have:¬ta<tb:=by simpa[hz]using h4
     rw[d2 O,hz]
   rw[hC];conv=>whnf
   exact⟨lr rfl,lh0⟩
  .have h4:(decide (ta<tb)==decide (sa>0))=false:=h4;have hC:C=1:=by
    rcases hz with hz|hz|hz
    .exact absurd hz h2
    .have:¬ta<tb:=by simpa[hz]using h4
     rw[d2 O,hz]
    .have:ta<tb:=by simpa[hz]using h4
     rw[d1 this,hz];rfl
   rw[hC];conv=>whnf
   exact⟨lr rfl,lh0⟩
 rw[d3];conv=>whnf
 refine gZn n1 ?_;conv=>whnf
 refine gZn m1 ?_;conv=>whnf
 refine gZn z1 ?_;conv=>whnf
 (refine⟨Z,Z,?_⟩;(conv=>whnf))
 exact⟨lr rfl,lh0⟩
theorem r331t(l:List Int)(hl:l.length<=1000000):Fn 365 [] [.sl .u32 l] (.sl .u32 (trL l)) []:=by
 refine fZ6 Tryz.func365 rfl rfl ?_;conv=>whnf
 refine⟨Nat,fun n=>n<=l.length/\trN l n=trN l l.length,fun n=> [(3,.int .i64 n)],fun _=> [],fun n=>n,l.length,⟨qF _,rfl⟩,?_,fun n hn=>?_⟩
 .exact KZ0
 (refine⟨Z,?_⟩;(conv=>whnf))
 obtain⟨hn1,hn2⟩:=hn;refine brI (fun h1=>?_) (fun h1=>?_)
 .have h1:0<n:=by simp only[Z2]at h1;omega
  obtain⟨m,rfl⟩:∃m,n=m+1:=⟨n-1,O⟩;have hw:v7.wrap (((m+1:Nat):Int)-1)=(m:Int):=by rw[wI O];omega
  conv=>whnf
  rw[hw];refine⟨⟨O,O⟩,fun x hx=>?_⟩;have hx:l[m]? =some x:=by simpa using hx
  simp only[trN,hx,q7]at hn2;conv=>whnf
  refine brI (fun h2=>?_) (fun h2=>?_)
  .have h2:x=0:=by simpa using h2
   rw[Z4 h2]at hn2;conv=>whnf
   refine⟨m,⟨O,hn2⟩,by show m<m+1;omega,?_⟩;exact KZ0
  .have h2:¬x=0:=by simpa using h2
   rw[Z5 h2]at hn2;conv=>whnf
   refine⟨⟨O,O,O⟩,?_⟩;conv=>whnf
   refine⟨OE,?_⟩;conv=>whnf
   exact⟨qs (by rw[trL,<-hn2];try simp),lh0⟩
 .have h1:n=0:=by simp only[Z3]at h1;omega
  subst h1;simp only[trN]at hn2;conv=>whnf
  refine⟨⟨O,O,O⟩,?_⟩;conv=>whnf
  refine⟨OC,?_⟩;conv=>whnf
  exact⟨qs (by rw[trL,<-hn2];try simp),lh0⟩
theorem zxm{l:List Int}(hb:LB l)(hl:l.length<=1000000):Fn 365 [] [.sl .u32 l] (.sl .u32 (toL (val l))) []:=by
 have:=r331t l hl
 rwa [xm hb]at this
theorem zxl{l:List Int}(hb:LB l)(_:l.length<=1000000)(i:Nat):Fn 395 [] [.sl .u32 l,.int .i64 i] (.int .u64 (l[i]?.getD 0)) []:=by
 have hat:=hb.at i;refine fZ6 Tryz.func395 rfl rfl ?_;conv=>whnf
 refine brI (fun h=>?_) (fun h=>?_)
 .have h:i<l.length:=by have h:((i:Nat):Int)<l.length:=Z0 h;omega
  have hx:=q0 h;generalize l[i]=x at hx;rw[hx]at hat⊢;simp only[q7]at hat⊢;conv=>whnf
  refine⟨⟨O,O⟩,fun(z:Int)hz=>?_⟩;have hz:l[i]? =some z:=by simpa using hz
  rw[hx]at hz;cases hz
  conv=>whnf
  exact⟨ai0 (wU O),lh0⟩
 .have h:¬i<l.length:=by have h:¬((i:Nat):Int)<l.length:=Z1 h;omega
  rw[qA O];conv=>whnf
  exact⟨lr rfl,lh0⟩
theorem zj5{l:List Int}(h:LB l)(n:Nat):val (l.take n)<4294967296^n:=by
 by_cases hn:n<=l.length
 .exact jp h n hn
 .have:=jp h l.length (qF _);rw[qR]at this;rw[q6 O];exact Nat.lt_of_lt_of_le this (qO OA O)
theorem zxs(P p q x y:Nat)(hp:p<P)(hq:q<P):yc (p+P*x) (q+P*y)=if x<y then-1 else if y<x then 1 else yc p q:=by
 by_cases h:x<y
 .rw[Z4 h];have:=w4 P (show x+1<=y from h);rw[qG,w9]at this;exact zki O
 .rw[Z5 h];by_cases h2:y<x
  .rw[Z4 h2];have:=w4 P (show y+1<=x from h2);rw[qG,w9]at this;exact zkj O
  .rw[Z5 h2,(O:x=y)];unfold yc;by_cases h3:p<q
   .rw[Z4 h3,Z4 O]
   .by_cases h4:q<p
    .rw[Z5 h3,Z4 h4,Z5 O,Z4 O]
    .rw[Z5 h3,Z5 h4,Z5 O,Z5 O]
theorem zh7{a b:List Int}(ha:LB a)(hb:LB b):∀n,za5 a b n=yc (val (a.take n)) (val (b.take n))
 |0=>by simp[za5,val,yc]
 |n+1=>by
  rw[za5,zh7 ha hb n,jw,jw,zxs _ _ _ _ _ (zj5 ha n) (zj5 hb n)];have h1:=ha.at n;have h2:=hb.at n;generalize a[n]?.getD 0=x at*;generalize b[n]?.getD 0=y at*;by_cases c:x<y
  .rw[Z4 c,Z4 (O:x.toNat<y.toNat)]
  .rw[Z5 c,Z5 (O:¬x.toNat<y.toNat)];by_cases c2:y<x
   .rw[Z4 c2,Z4 (O:y.toNat<x.toNat)]
   .rw[Z5 c2,Z5 (O:¬y.toNat<x.toNat)]
theorem r310{a b:List Int}(ha:LB a)(hb:LB b)(hal:a.length<=1000000)(hbl:b.length<=1000000):Fn 367 [] [.sl .u32 a,.sl .u32 b] (.int .i64 (yc (val a) (val b))) []:=by
 obtain⟨A,hA⟩:∃A,yc (val a) (val b)=A:=⟨_,rfl⟩;have hg:=zh7 ha hb (max a.length b.length);rw[q6 O,q6 O,hA]at hg;rw[hA];clear hA;have hmx2:(if(a.length:Int)<(b.length:Int)then(b.length:Int)else(a.length:Int))=((max a.length b.length:Nat):Int):=by split<;>omega
 have ra:=fun i:Nat=>zxl ha hal i
 have rb:=fun i:Nat=>zxl hb hbl i
 have hM:max a.length b.length<=1000000:=O;generalize max a.length b.length=M at*;refine fZ6 Tryz.func367 rfl rfl ?_;conv=>whnf
 rw[hmx2,wI (x:=((M:Nat):Int)-1) O];refine⟨Nat,fun n=>n<=M/\za5 a b n=A,fun n=> [(5,.int .i64 ((n:Int)-1))],fun _=> [],fun n=>n,M,⟨qF _,hg⟩,?_,fun n hn=>?_⟩
 .exact KZ0
 (refine⟨Z,?_⟩;(conv=>whnf))
 obtain⟨hn1,hn2⟩:=hn;refine brI (fun h2=>?_) (fun h2=>?_)
 .have h2:0<n:=by simp only[Z2]at h2;omega
  obtain⟨m,rfl⟩:∃m,n=m+1:=⟨n-1,O⟩;have hm:(((m+1:Nat):Int)-1)=(m:Int):=O;rw[za5]at hn2;have ra:=ra m;have rb:=rb m;generalize a[m]?.getD 0=x at*;generalize b[m]?.getD 0=y at*;conv=>whnf
  rw[hm];refine gZn ra ?_;conv=>whnf
  refine gZn rb ?_;conv=>whnf
  refine brI (fun h3=>?_) (fun h3=>?_)
  .have h3:x<y:=Z0 h3;rw[Z4 h3]at hn2;conv=>whnf
   exact⟨ai0 hn2,lh0⟩
  have h3:¬x<y:=Z1 h3;rw[Z5 h3]at hn2;conv=>whnf
  refine gZn ra ?_;conv=>whnf
  refine gZn rb ?_;conv=>whnf
  refine brI (fun h4=>?_) (fun h4=>?_)
  .have h4:y<x:=Z0 h4;rw[Z4 h4]at hn2;conv=>whnf
   exact⟨ai0 hn2,lh0⟩
  have h4:¬y<x:=Z1 h4;rw[Z5 h4]at hn2;conv=>whnf
  refine⟨m,⟨O,hn2⟩,by show m<m+1;omega,?_⟩;exact KZ0
 .have h2:n=0:=by simp only[Z3]at h2;omega
  subst h2;simp only[za5]at hn2;conv=>whnf
  exact⟨ai0 hn2,lh0⟩
theorem qi0{p m x:Nat}(hp:p<2^(32*m))(hx:x≠0):bl (p+2^(32*m)*x)=32*m+bl x:=by
 have hP:=q8 (32*m);have h1:2^(32*m)<=p+2^(32*m)*x:=qN (wA _ O) (Nat.le_add_left _ _);have h2:=zc2 _ _ h1;rw[Nat.add_mul_div_left _ _ hP,Nat.div_eq_of_lt hp,Nat.zero_add]at h2;have h3:=(zch (n:=p+2^(32*m)*x) (k:=32*m) O).2 h1;omega
theorem qfg{l:List Int}(hb:LB l)(hl:l.length<=1000000):Fn 362 [] [.sl .u32 l] (.int .i64 (bl (val l):Nat)) []:=by
 refine fZ6 Tryz.func362 rfl rfl ?_;conv=>whnf
 rw[wI (x:=((l.length:Nat):Int)-1) O];refine⟨Nat,fun n=>n<=l.length/\val (l.take n)=val l,fun n=> [(3,.int .i64 ((n:Int)-1))],fun _=> [],fun n=>n,l.length,⟨qF _,by rw[qR]⟩,?_,fun n hn=>?_⟩
 .exact KZ0
 (refine⟨Z,?_⟩;(conv=>whnf))
 obtain⟨hn1,hn2⟩:=hn;refine brI (fun h2=>?_) (fun h2=>?_)
 .have h2:0<n:=by simp only[Z2]at h2;omega
  obtain⟨m,rfl⟩:∃m,n=m+1:=⟨n-1,O⟩;have hm:(((m+1:Nat):Int)-1)=(m:Int):=O;have hxl:=q0 (l:=l) (i:=m) O;have hxb:=hb _ (qC (l:=l) (n:=m) O);generalize l[m]=x at hxl hxb;rw[jw,hxl]at hn2;simp only[q7]at hn2;have htl:=zj5 hb m;conv=>whnf
  rw[hm];refine⟨⟨O,O⟩,fun(z:Int)hz=>?_⟩;have hz:l[m]? =some z:=by simpa using hz
  rw[hxl]at hz;cases hz
  conv=>whnf
  refine brI (fun h3=>?_) (fun h3=>?_)
  .have h3:x≠0:=by
    have h3:(x != 0)=true:=h3;simpa using h3
   have hbl:bl (val l)=32*m+bl x.toNat:=by
    rw[<-hn2];have e:(4294967296:Nat)^m=2^(32*m):=by rw[v5]
    rw[e]at htl⊢;exact qi0 htl O
   have hbx:bl x.toNat<=32:=ur.2 O;rw[hbl];conv=>whnf
   refine⟨⟨O,O⟩,fun(z:Int)hz=>?_⟩;have hz:l[m]? =some z:=by simpa using hz
   rw[hxl]at hz;cases hz
   conv=>whnf
   rw[wI (x:=32*((m:Nat):Int)) O];refine⟨Nat,fun y=>y<4294967296/\bl y<=bl x.toNat,fun y=> [(4,.int .i64 (((32*m+bl x.toNat:Nat):Int)-(bl y:Nat))),(5,.int .u32 y)],fun _=> [],fun y=>y,x.toNat,⟨O,qF _⟩,?_,fun y hy=>?_⟩
   .exact KZ0
   obtain⟨hy1,hy2⟩:=hy
   (refine⟨Z,?_⟩;(conv=>whnf))
   refine brI (fun h2=>?_) (fun h2=>?_)
   .have h2:0<y:=by simp only[Z2]at h2;omega
    have hh:=zot (n:=y) O;conv=>whnf
    refine⟨OA,?_⟩;conv=>whnf
    refine⟨y/2,⟨O,O⟩,by show y/2<y;omega,?_⟩
    ((conv=>whnf);refine q9 ?_ ?_;repeat' first|refine lc ?_ ?_|refine lh1 ?_ ?_|refine bc0 ?_|exact KXZ|refine lg0 ?_|refine lt0 ?_)
    .exact ai0 (by rw[wI O];omega)
    .exact ai0 (by
      show((y:Int)).fdiv 2=_;rw[q5 _ OA];omega)
   .have h2:y=0:=by simp only[Z3]at h2;omega
    subst h2;conv=>whnf
    exact⟨ai0 (by simp[wo]),lh0⟩
  .have h3:x=0:=by
    have h3:(x != 0)=false:=h3;simpa using h3
   subst h3;simp only[qY,wO,qW]at hn2;conv=>whnf
   refine⟨m,⟨O,hn2⟩,by show m<m+1;omega,?_⟩;exact KZ0
 .have h2:n=0:=by simp only[Z3]at h2;omega
  subst h2;have hn2:val l=0:=by rw[<-hn2];rfl
  rw[hn2];conv=>whnf
  exact⟨lr rfl,lh0⟩
theorem fdB(s:Nat):((s:Nat):Int).fdiv 4294967296=((s/4294967296:Nat):Int):=by rw[q5 _ OA];simp
theorem loB{s:Nat}(hs:s<18446744073709551616):v8.wrap (v6.wrap ((q3 v6.bits (s:Int)&&& q3 v6.bits 4294967295).toNat :Int))=((s % 4294967296:Nat):Int):=by
 rw[zf8 _ O];simp[vc,v9,vd]
theorem r335{a b:List Int}(ha:LB a)(hb:LB b)(hal:a.length<=100000)(hbl:b.length<=100000):Fn 368 [] [.sl .u32 a,.sl .u32 b] (.sl .u32 (toL (val a+val b))) []:=by
 have ra:=fun i:Nat=>zxl ha O i
 have rb:=fun i:Nat=>zxl hb O i
 have hmx2:(if(a.length:Int)<(b.length:Int)then(b.length:Int)else(a.length:Int))=((max a.length b.length:Nat):Int):=by split<;>omega
 refine fZ6 Tryz.func368 rfl rfl ?_;conv=>whnf
 refine⟨Nat×List Int×Nat,fun x=>x.1<=max a.length b.length+1/\(x.1=max a.length b.length+1->x.2.2=0)/\PlI a b x.1 x.2.1 x.2.2,fun x=> [(7,.int .i64 x.1),(5,.own 36),(6,.int .u64 x.2.2)],fun x=> [(36,.buf 108 .u32 x.2.1)],fun x=>max a.length b.length+1-x.1,(0,[],0),⟨OC,fun h=>rfl,⟨rfl,(fun x hx=>by cases hx),OC,by simp[val]⟩⟩,?_,fun x hx=>?_⟩
 .exact KZ0
 obtain⟨i,out,c⟩:=x;obtain⟨hi,hi2,hp⟩:=hx;simp only at hi hi2 hp;have hol:=hp.len;have hc:=hp.c1;have hst:=hp.step rfl rfl (zne ha i) (zne hb i);have ra:=ra i;have rb:=rb i;have hba:=ha.at i;have hbb:=hb.at i;have round:i<=max a.length b.length->(c+(a[i]?.getD 0).toNat +(b[i]?.getD 0).toNat <8589934592)/\(i+1=max a.length b.length+1->(c+(a[i]?.getD 0).toNat +(b[i]?.getD 0).toNat)/4294967296=0):=fun h=>by
  refine⟨O,fun h2=>?_⟩;rw[qA O,qA O];simp;omega
 have es:v6.wrap (v6.wrap (a[i]?.getD 0+b[i]?.getD 0)+(c:Int))=((c+(a[i]?.getD 0).toNat +(b[i]?.getD 0).toNat :Nat):Int):=by
  rw[wU (x:=a[i]?.getD 0+b[i]?.getD 0) O,wU O];omega
 have hfin:¬i<max a.length b.length->c=0->Fn 365 [] [.sl .u32 out] (.sl .u32 (toL (val a+val b))) []:=fun h1 h2=>by
  have hv:=hp.val;rw[h2,q6 O,q6 O]at hv;have h331:=zxm hp.lb O;rw[<-hv];simpa using h331
 generalize a[i]?.getD 0=x at*;generalize b[i]?.getD 0=y at*
 (refine⟨Z,?_⟩;(conv=>whnf))
 rw[hmx2];generalize max a.length b.length=M at*;refine brI (fun h1=>?_) (fun h1=>?_)
 .have h1:i<M:=by
   have h1:((i:Nat):Int)<((M:Nat):Int):=Z0 h1;omega
  obtain⟨d1,d2⟩:=round O;conv=>whnf
  refine gZn ra ?_;conv=>whnf
  refine gZn rb ?_;conv=>whnf
  refine⟨OE,?_⟩;conv=>whnf
  refine⟨OA,?_⟩;conv=>whnf
  refine⟨(i+1,out++ [(((c+x.toNat+y.toNat) % 4294967296:Nat):Int)],(c+x.toNat+y.toNat)/4294967296),⟨OD,d2,hst⟩,by show M+1-(i+1)<M+1-i;omega,?_⟩
  ((conv=>whnf);refine q9 ?_ ?_;repeat' first|refine lc ?_ ?_|refine lh1 ?_ ?_|refine bc0 ?_|exact KXZ|refine lg0 ?_|refine lt0 ?_)
  .exact ai0 ((congrArg (fun z:Int=>z.fdiv 4294967296) es).trans (fdB _))
  .exact ai0 (by rw[wI OD];simp only;omega)
  .exact bb0 (by
    show out++ [_]=out++ [_];rw[<-loB O,<-es])
 .have h1:¬i<M:=by
   have h1:¬((i:Nat):Int)<((M:Nat):Int):=Z1 h1;omega
  conv=>whnf
  refine brI (fun h2=>?_) (fun h2=>?_)
  .have h2:c≠0:=by
    have h2:((c:Nat):Int)>0:=Z0 h2;omega
   have h3:i<=M:=by
    by_cases h:i=M+1
    .exact absurd (hi2 h) h2
    .omega
   obtain⟨d1,d2⟩:=round h3;conv=>whnf
   refine gZn ra ?_;conv=>whnf
   refine gZn rb ?_;conv=>whnf
   refine⟨OE,?_⟩;conv=>whnf
   refine⟨OA,?_⟩;conv=>whnf
   refine⟨(i+1,out++ [(((c+x.toNat+y.toNat) % 4294967296:Nat):Int)],(c+x.toNat+y.toNat)/4294967296),⟨OD,d2,hst⟩,by show M+1-(i+1)<M+1-i;omega,?_⟩
   ((conv=>whnf);refine q9 ?_ ?_;repeat' first|refine lc ?_ ?_|refine lh1 ?_ ?_|refine bc0 ?_|exact KXZ|refine lg0 ?_|refine lt0 ?_)
   .exact ai0 ((congrArg (fun z:Int=>z.fdiv 4294967296) es).trans (fdB _))
   .exact ai0 (by rw[wI OD];simp only;omega)
   .exact bb0 (by
     show out++ [_]=out++ [_];rw[<-loB O,<-es])
  .have h2:c=0:=by
    have h2:¬((c:Nat):Int)>0:=Z1 h2;omega
   conv=>whnf
   refine gZn (hfin h1 h2) ?_;conv=>whnf
   exact⟨lr rfl,lh0⟩
theorem r341{a b:List Int}(ha:LB a)(hb:LB b)(hal:a.length<=100000)(hbl:b.length<=100000)(hv:val b<=val a)(hl:b.length<=a.length):Fn 396 [] [.sl .u32 a,.sl .u32 b] (.sl .u32 (toL (val a-val b))) []:=by
 have ra:=fun i:Nat=>zxl ha O i
 have rb:=fun i:Nat=>zxl hb O i
 refine fZ6 Tryz.func396 rfl rfl ?_;conv=>whnf
 refine⟨Nat×List Int×Nat,fun x=>x.1<=a.length/\MiI a b x.1 x.2.1 x.2.2,fun x=> [(7,.int .i64 x.1),(5,.own 30),(6,.int .u64 x.2.2)],fun x=> [(30,.buf 108 .u32 x.2.1)],fun x=>a.length-x.1,(0,[],0),⟨OC,⟨rfl,(fun x hx=>by cases hx),OC,by simp[val]⟩⟩,?_,fun x hx=>?_⟩
 .exact KZ0
 obtain⟨i,out,c⟩:=x;obtain⟨hi,hp⟩:=hx;simp only at hi hp;have hol:=hp.len;have hc:=hp.c1;have hst:=hp.step rfl rfl (zne ha i) (zne hb i);have ra:=ra i;have rb:=rb i;have hba:=ha.at i;have hbb:=hb.at i;have e4:∀s:Nat,s<8589934592->v6.wrap (1-((s:Nat):Int).fdiv 4294967296)=((1-s/4294967296:Nat):Int):=fun s hs=>by
  rw[fdB,wU O];omega
 have es:v6.wrap (v6.wrap (v6.wrap (a[i]?.getD 0+4294967296)-b[i]?.getD 0)-(c:Int))=(((a[i]?.getD 0).toNat +4294967296-(c+(b[i]?.getD 0).toNat):Nat):Int):=by
  rw[wU (x:=a[i]?.getD 0+4294967296) O,wU (x:=a[i]?.getD 0+4294967296-b[i]?.getD 0) O];by_cases hz:a[i]?.getD 0+4294967296-b[i]?.getD 0-c<0
  .omega
  .rw[wU O];omega
 generalize a[i]?.getD 0=x at*;generalize b[i]?.getD 0=y at*
 (refine⟨Z,?_⟩;(conv=>whnf))
 refine brI (fun h1=>?_) (fun h1=>?_)
 .have h1:i<a.length:=by simp only[Z2]at h1;omega
  conv=>whnf
  refine gZn ra ?_;conv=>whnf
  refine gZn rb ?_;conv=>whnf
  refine⟨OE,?_⟩;conv=>whnf
  refine⟨OA,?_⟩;conv=>whnf
  refine⟨(i+1,out++ [(((x.toNat+4294967296-(c+y.toNat)) % 4294967296:Nat):Int)],1-(x.toNat+4294967296-(c+y.toNat))/4294967296),⟨OD,hst⟩,by show a.length-(i+1)<a.length-i;omega,?_⟩
  ((conv=>whnf);refine q9 ?_ ?_;repeat' first|refine lc ?_ ?_|refine lh1 ?_ ?_|refine bc0 ?_|exact KXZ|refine lg0 ?_|refine lt0 ?_)
  .exact ai0 ((congrArg (fun z:Int=>v6.wrap (1-z.fdiv 4294967296)) es).trans (e4 _ O))
  .exact ai0 (by rw[wI OD];simp only;omega)
  .exact bb0 (by
    show out++ [_]=out++ [_];rw[<-loB O,<-es])
 .have h1:i=a.length:=by simp only[Z3]at h1;omega
  subst h1;have hf:=hp.fin hl hv;have h331:=zxm hp.lb O;rw[hf]at h331;conv=>whnf
  refine gZn h331 ?_;conv=>whnf
  exact⟨lr rfl,lh0⟩
theorem r334{a:List Int}(ha:LB a)(hal:a.length<=100000)(n:Nat)(hn:n<=1000000000):Fn 366 [] [.sl .u32 a,.int .i64 n] (.sl .u32 (toL (val a/2^n))) []:=by
 have ra:=fun i:Nat=>zxl ha O i
 have hbu:LB (a.drop (n/32)):=fun z hz=>ha z (w2 hz)
 have hsp:=ziz (n % 32) O (a.drop (n/32)) hbu;rw[zds _ _ ha,Nat.div_div_eq_div_mul,<-qQ,(O:32*(n/32)+n % 32=n)]at hsp;generalize val a/2^n=V at hsp⊢;obtain⟨A,hA⟩:∃A,zbz (a.drop (n/32)) (n % 32)=A:=⟨_,rfl⟩;rw[hA]at hsp;have hAl:A.length=a.length-n/32:=by rw[<-hA];simp[zbz]
 have hAt:∀j,j<A.length->A[j]? =some (((a[n/32+j]?.getD 0+a[n/32+(j+1)]?.getD 0*4294967296)/2^(n % 32)) % 4294967296):=fun j hj=>by
  rw[<-hA];have hj2:j<(a.drop (n/32)).length :=by rw[wP];omega
  rw[zbz,List.getElem?_map,List.getElem?_range hj2];simp only[Option.map_some,zfc,wL]
 have h331:=zxm hsp.2 O;rw[hsp.1]at h331;have hq:v7.wrap ((n:Int).tdiv 32)=((n/32:Nat):Int):=by
  rw[show(n:Int).tdiv 32=((n/32:Nat):Int)from qU n 32,wI O]
 have h9:(n:Int).tmod 32=((n % 32:Nat):Int):=qP n 32;have hfin:∀s:Int,0<=s/\s<18446744073709551616->v8.wrap (v6.wrap ((q3 v6.bits (s.fdiv (2^min ((n:Int).tmod 32).toNat v6.bits))&&& q3 v6.bits 4294967295).toNat :Int))=(s/2^(n % 32)) % 4294967296:=fun s hs=>by
  have hp:(0:Int)<2^(n % 32):=wJ OA;have hd:0<=s/2^(n % 32):=wT hs.1 O;have hd2:s/2^(n % 32)<=s:=wQ _ hs.1;rw[h9,show min ((n % 32:Nat):Int).toNat v6.bits=n % 32 by show min ((n % 32:Nat):Int).toNat 64=n % 32;omega,q5 _ O,zf8 _ ⟨hd,O⟩];simp[vc,v9,vd]
 clear hA hsp;refine fZ6 Tryz.func366 rfl rfl ?_;conv=>whnf
 refine⟨O,?_⟩;conv=>whnf
 rw[hq];refine⟨Nat,fun j=>j<=A.length,fun j=> [(6,.int .i64 ((n/32+j:Nat):Int)),(5,.own 33)],fun j=> [(33,.buf 108 .u32 (A.take j))],fun j=>A.length-j,0,Nat.zero_le _,?_,fun j hj=>?_⟩
 .exact KZ0
 have hj:j<=A.length:=hj
 (refine⟨Z,?_⟩;(conv=>whnf))
 refine brI (fun h1=>?_) (fun h1=>?_)
 .have h1:n/32+j<a.length:=by
   have h1:((n/32+j:Nat):Int)<(a.length:Int):=Z0 h1;omega
  have hF:=hAt j O;have hstep:A.take j++ [((a[n/32+j]?.getD 0+a[n/32+(j+1)]?.getD 0*4294967296)/2^(n % 32)) % 4294967296]=A.take (j+1):=by rw[wN,hF];rfl
  have r1:=ra (n/32+j);have r2:=ra (n/32+(j+1));have b1:=ha.at (n/32+j);have b2:=ha.at (n/32+(j+1));have hw:v7.wrap (((n/32+j:Nat):Int)+1)=((n/32+(j+1):Nat):Int):=by rw[wI O];omega
  generalize a[n/32+j]?.getD 0=x at*;generalize a[n/32+(j+1)]?.getD 0=y at*;have es:v6.wrap (x+v6.wrap (y*4294967296))=x+y*4294967296:=by
   rw[wU (x:=y*4294967296) O,wU O]
  have hlen:(A.take j).length =j:=by rw[wR];omega
  conv=>whnf
  refine gZn r1 ?_;conv=>whnf
  rw[hw];refine gZn r2 ?_;conv=>whnf
  refine⟨OA,?_⟩;conv=>whnf
  refine⟨O,?_⟩;conv=>whnf
  refine⟨by rw[h9];omega,?_⟩;conv=>whnf
  refine⟨by rw[hlen];simp;omega,?_⟩;conv=>whnf
  refine⟨j+1,O,by show A.length-(j+1)<A.length-j;omega,?_⟩
  ((conv=>whnf);refine q9 ?_ ?_;repeat' first|refine lc ?_ ?_|refine lh1 ?_ ?_|refine bc0 ?_|exact KXZ|refine lg0 ?_|refine lt0 ?_)
  .exact ai0 hw
  .exact bb0 (by
    rw[<-hstep];show A.take j++ [_]=_
    congr 2
    rw[<-hfin _ O,<-es];rfl)
 .have h1:¬n/32+j<a.length:=by
   have h1:¬((n/32+j:Nat):Int)<(a.length:Int):=Z1 h1;omega
  rw[q6 O];conv=>whnf
  refine gZn h331 ?_;conv=>whnf
  exact⟨lr rfl,lh0⟩
theorem lo_or{x r o:Nat}(hr:r<32)(ho:o<2^r):o|||(x*2^r % 4294967296)=o+x*2^r % 4294967296/\o+x*2^r % 4294967296<4294967296:=by
 have e:(4294967296:Nat)=2^r*2^(32-r):=by rw[<-qQ,(O:r+(32-r)=32)]
 have h1:x*2^r % 4294967296=2^r*(x % 2^(32-r)):=by rw[e,qS x,Nat.mul_mod_mul_left]
 have h2:x % 2^(32-r)+1<=2^(32-r):=wM _ (q8 _);have h3:=w4 (2^r) h2;rw[<-e,qG,w9]at h3;rw[h1];constructor
 .rw[Nat.or_comm,<-Nat.two_pow_add_eq_or_of_lt ho,v3]
 .omega
theorem zw8{B KP IP P vo v1 v2 vt s o:Nat}(hP:P=KP*IP)(h0:vo=KP*vt)(h1:v1+P*o=vo+P*(o+s % B))(h2:v2=v1+P*B*(s/B)):v2=KP*vt+KP*(IP*s):=by
 have hmd:=w3 s B;have q:P*(s % B)+P*B*(s/B)=P*s:=by
  conv=>rhs;rw[<-hmd]
  rw[qG,qD,v3]
 rw[<-qD,<-hP];rw[qG]at h1;omega
theorem qgj{x:Nat}(hx:x<4294967296)(r:Nat):x*2^r/4294967296<2^r:=by
 have hp:=q8 r;generalize 2^r=p at*;exact(wH OA).2 (by rw[qS p];exact w6 hx hp)
theorem zsy{out t:List Int}{K i r x o:Nat}(_:LB out)(hi3:out.length=K+t.length+1)(hi:i<t.length)(hxa:t[i]? =some (x:Int))(hi4:val out=4294967296^K*(val (t.take i)*2^r))(ho:out[K+i]?.getD 0=(o:Int))(hz:out[K+i+1]?.getD 0=0):
 val ((out.set (K+i) ((o+x*2^r % 4294967296:Nat):Int)).set (K+i+1) ((x*2^r/4294967296:Nat):Int))=4294967296^K*(val (t.take (i+1))*2^r):=by
 have hvt:val (t.take (i+1))=val (t.take i)+4294967296^i*x:=by rw[jw,hxa,q7,q4]
 rw[hvt,Nat.add_mul,qG,qD (4294967296^i)];generalize x*2^r=s at*;have hv1:=jo out (K+i) ((o+s % 4294967296:Nat):Int) O;have hv2:=jo (out.set (K+i) ((o+s % 4294967296:Nat):Int)) (K+i+1) ((s/4294967296:Nat):Int) (by rw[qI];omega);rw[qE O,hz,q4,qY,wO,qW,w5]at hv2;rw[ho,q4,q4]at hv1;exact zw8 (qQ _ _ _) hi4 hv1 hv2
theorem r304{a:List Int}(ha:LB a)(hal:a.length<=100000)(n:Nat)(hn:n<=100000):Fn 364 [] [.sl .u32 a,.int .i64 n] (.sl .u32 (toL (val a*2^n))) []:=by
 have h331:=zxm ha O;have hll:(toL (val a)).length <=100000:=qN (zj4 ha) hal;have hlb:=zo (val a);have htv:=zm (val a);generalize val a=X at*;generalize toL X=t at*;have hq:v7.wrap ((n:Int).tdiv 32)=((n/32:Nat):Int):=by
  rw[show(n:Int).tdiv 32=((n/32:Nat):Int)from qU n 32,wI O]
 have h9:(n:Int).tmod 32=((n % 32:Nat):Int):=qP n 32;have hr:n % 32<32:=wM _ OA;have hkr:32*(n/32)+n % 32=n:=O;have hk:n/32<=3125:=O;have hpn:2^n=2^(32*(n/32))*2^(n % 32):=by rw[<-qQ,hkr]
 rw[hpn];generalize hK:n/32=K at*;generalize hR:n % 32=r at*;have hp31:2^r<=2147483648:=qO (n:=2) OA (O:r<=31);refine fZ6 Tryz.func364 rfl rfl ?_;conv=>whnf
 refine gZn h331 ?_;conv=>whnf
 refine⟨O,?_⟩;conv=>whnf
 rw[hq,wI (x:=((K:Nat):Int)+(t.length:Int)) O,wI (x:=((K:Nat):Int)+(t.length:Int)+1) O];refine⟨⟨O,O,O⟩,?_⟩;conv=>whnf
 refine⟨Nat×List Int,fun z=>z.1<=t.length/\LB z.2/\z.2.length=K+t.length+1/\val z.2=4294967296^K*(val (t.take z.1)*2^r)/\(z.2[K+z.1]?.getD 0).toNat <2^r/\(∀j,K+z.1<j->z.2[j]?.getD 0=0),fun z=> [(6,.int .i64 z.1)],fun z=> [(16,.buf 108 .u32 z.2)],fun z=>t.length-z.1,(0,qH (K+t.length+1) 0),⟨OC,(fun z hz=>by rw[qT hz];omega),OC,by rw[za9];simp[val],by simp only[qL];split<;>simp[q8],fun j _=>by
  simp only[qL];split<;>rfl⟩,?_,fun z hz=>?_⟩
 .exact KZ0
 obtain⟨i,out⟩:=z;obtain⟨hi1,hi2,hi3,hi4,hi5,hi6⟩:=hz;simp only at hi1 hi2 hi3 hi4 hi5 hi6
 (refine⟨Z,?_⟩;(conv=>whnf))
 refine brI (fun h1=>?_) (fun h1=>?_)
 .have hi:i<t.length:=by simp only[Z2]at h1;omega
  have hxa:t[i]? =some t[i]:=q0 hi;have hxb:=hlb _ (qC hi);generalize t[i]=x at hxa hxb;obtain⟨x,rfl⟩:=wC hxb.1;have hx:x<4294967296:=O;have hgo:out[K+i]? =some (out[K+i]?.getD 0):=by rw[q0 O];rfl
  have hob:=hi2.at (K+i);obtain⟨o,ho⟩:∃o:Nat,out[K+i]?.getD 0=(o:Int):=⟨_,(Int.toNat_of_nonneg hob.1).symm⟩;have ho2:o<2^r:=by rw[ho,q4]at hi5;exact hi5
  obtain⟨l1,l2⟩:=lo_or (x:=x) hr ho2;have hs2:x*2^r<4294967296*2^r:=w6 hx (q8 _);have es:v6.wrap (((x:Nat):Int)*2^min ((n:Int).tmod 32).toNat v6.bits)=((x*2^r:Nat):Int):=by
   have e1:min ((n:Int).tmod 32).toNat v6.bits=r:=by rw[h9];show min ((r:Nat):Int).toNat 64=r;omega
   rw[e1,show((x:Nat):Int)*2^r=((x*2^r:Nat):Int) by simp,wU O]
  have hhi:=qgj hx r;have hor:v8.wrap ((q3 v8.bits (o:Int)|||q3 v8.bits (v8.wrap (v6.wrap ((q3 v6.bits (v6.wrap (((x:Nat):Int)*2^min ((n:Int).tmod 32).toNat v6.bits))&&& q3 v6.bits 4294967295).toNat :Int)))).toNat :Int)=((o+x*2^r % 4294967296:Nat):Int):=by
   rw[es,loB O];have h:=or32 o (x*2^r % 4294967296) O (wM _ OA);rw[l1]at h;exact h
  have hval:=zsy hi2 hi3 hi hxa hi4 ho (hi6 _ (wS _));have hik:v7.wrap ((i:Int)+((K:Nat):Int))=((K+i:Nat):Int):=by rw[wI O];omega
  have hik1:v7.wrap (((K+i:Nat):Int)+1)=((K+i+1:Nat):Int):=by rw[wI O];omega
  conv=>whnf
  refine⟨⟨O,OD⟩,fun(z:Int)hz=>?_⟩;have hz:t[i]? =some z:=by simpa using hz
  rw[hxa]at hz;cases hz
  conv=>whnf
  refine⟨O,?_⟩;conv=>whnf
  refine⟨by rw[h9];omega,?_⟩;conv=>whnf
  rw[hq,wU (x:=((x:Nat):Int)) O];refine⟨OA,?_⟩;conv=>whnf
  refine⟨OA,?_⟩;conv=>whnf
  refine⟨⟨by show 0<=v7.wrap ((i:Int)+v7.wrap ((n:Int).tdiv 32));rw[hq,hik];omega,by show v7.wrap ((i:Int)+v7.wrap ((n:Int).tdiv 32))<(out.length:Int);rw[hq,hik];omega⟩,?_⟩;conv=>whnf
  refine⟨by show(v7.wrap ((i:Int)+v7.wrap ((n:Int).tdiv 32))).toNat <out.length;rw[hq,hik];omega,fun(q:Int)hq2=>?_⟩;have hq2:out[K+i]? =some q:=by
   have hq2:out[(v7.wrap ((i:Int)+v7.wrap ((n:Int).tdiv 32))).toNat]? =some q:=hq2
   rwa [hq,hik,q4]at hq2
  rw[hgo,ho]at hq2;cases hq2
  conv=>whnf
  refine⟨⟨by show 0<=v7.wrap ((i:Int)+((K:Nat):Int));rw[hik];omega,by show v7.wrap ((i:Int)+((K:Nat):Int))<(out.length:Int);rw[hik];omega⟩,?_⟩;conv=>whnf
  refine⟨by show(v7.wrap ((i:Int)+((K:Nat):Int))).toNat <out.length;rw[hik];omega,?_⟩;conv=>whnf
  refine⟨OA,?_⟩;conv=>whnf
  refine⟨OA,?_⟩;conv=>whnf
  rw[hor];refine⟨⟨by show 0<=v7.wrap (v7.wrap ((i:Int)+v7.wrap ((n:Int).tdiv 32))+1);rw[hq,hik,hik1];omega,by show v7.wrap (v7.wrap ((i:Int)+v7.wrap ((n:Int).tdiv 32))+1)<((wK out _ _).length :Int);rw[hq,hik,hik1,qI];omega⟩,?_⟩;conv=>whnf
  refine⟨by show(v7.wrap (v7.wrap ((i:Int)+v7.wrap ((n:Int).tdiv 32))+1)).toNat <(wK out _ _).length;rw[hq,hik,hik1,qI];omega,?_⟩;conv=>whnf
  refine⟨(i+1,(out.set (K+i) ((o+x*2^r % 4294967296:Nat):Int)).set (K+i+1) ((x*2^r/4294967296:Nat):Int)),⟨OD,(hi2.set ⟨O,O⟩).set ⟨O,O⟩,by simp only[qI];exact hi3,hval,?_,fun j hj=>?_⟩,by show t.length-(i+1)<t.length-i;omega,?_⟩
  .simp only;rw[(O:K+(i+1)=K+i+1),wD (by rw[qI];omega),q7,q4];exact hhi
  .simp only at hj⊢;rw[qE O,qE O];exact hi6 j O
  ((conv=>whnf);refine q9 ?_ ?_;repeat' first|refine lc ?_ ?_|refine lh1 ?_ ?_|refine bc0 ?_|exact KXZ|refine lg0 ?_|refine lt0 ?_)
  .exact ai0 (by rw[wI OD];simp only;omega)
  .exact bb0 (by
    show wK (wK out (v7.wrap ((i:Int)+((K:Nat):Int))).toNat ((o+x*2^r % 4294967296:Nat):Int)) (v7.wrap (v7.wrap ((i:Int)+v7.wrap ((n:Int).tdiv 32))+1)).toNat (v8.wrap ((v6.wrap (((x:Nat):Int)*2^min ((n:Int).tmod 32).toNat v6.bits)).fdiv 4294967296))=_;rw[hq,hik,hik1,q4,q4,es,fdB,zrw O])
 .have hi:i=t.length:=by simp only[Z3]at h1;omega
  subst hi;rw[qR,htv]at hi4;have hB:(4294967296:Nat)^K=2^(32*K):=by rw[v5]
  have h2:=zxm hi2 O;rw[hi4,hB,show 2^(32*K)*(X*2^r)=X*(2^(32*K)*2^r) by rw[<-qD,qS (2^(32*K)) X,qD]]at h2;conv=>whnf
  refine gZn h2 ?_;conv=>whnf
  exact⟨lr rfl,lh0⟩
theorem r329(p:Int):Fn 145 [] [.int .i64 p] (.bool (decide (8<=p/\p<=512))) []:=by
 refine fZ6 Tryz.func145 rfl rfl ?_;conv=>whnf
 refine brI (fun h=>?_) (fun h=>?_)
 .have h:p≥8:=Z0 h;conv=>whnf
  exact⟨ab0 (decide_eq_decide.2 O),lh0⟩
 .have h:¬p≥8:=Z1 h;rw[Z7 (O:¬(8<=p/\p<=512))];conv=>whnf
  exact⟨lr rfl,lh0⟩
def ftR(a b:Dy)(p:Int):Int:=if vB a=true/\vB b=true then(if 8<=p/\p<=512 then 0 else 2)else 1
theorem r299(a b:Dy)(ha:LB a.m)(hb:LB b.m)(hal:a.m.length<=1000000)(hbl:b.m.length<=1000000)(p:Int):Fn 222 [] [.agg (dyC a),.agg (dyC b),.int .i64 p] (.int .i64 (ftR a b p)) []:=by
 have h1:=qcw a ha O;have h2:=qcw b hb O;have h3:=r329 p;unfold ftR;generalize vB a=A at*;generalize vB b=B at*;by_cases hp:8<=p/\p<=512
 .rw[Z6 hp]at h3;rw[Z4 hp];cases A<;>cases B<;>
  .refine fZ6 Tryz.func222 rfl rfl ?_;conv=>whnf
   refine gZn h1 ?_;conv=>whnf
   first
    |exact⟨lr rfl,lh0⟩
    |(refine gZn h2 ?_
      conv=>whnf
      first
       |exact⟨lr rfl,lh0⟩
       |(refine gZn h3 ?_
         conv=>whnf
         exact⟨lr rfl,lh0⟩))
 .rw[Z7 hp]at h3;rw[Z5 hp];cases A<;>cases B<;>
  .refine fZ6 Tryz.func222 rfl rfl ?_;conv=>whnf
   refine gZn h1 ?_;conv=>whnf
   first
    |exact⟨lr rfl,lh0⟩
    |(refine gZn h2 ?_
      conv=>whnf
      first
       |exact⟨lr rfl,lh0⟩
       |(refine gZn h3 ?_
         conv=>whnf
         exact⟨lr rfl,lh0⟩))
theorem r336(neg:Bool)(p:Nat)(hp:8<=p/\p<=512):Fn 369 [] [.bool neg,.int .i64 p] (.agg (dyC (cnN neg (2^p-1) (16384-p)))) []:=by
 have lb1:LB [1]:=fun z hz=>by
  have:z=1:=by simpa using hz
  omega
 have hv1:val [1]=1:=rfl;have h1:=r304 lb1 OC p O;rw[hv1,Nat.one_mul]at h1;have hl:(toL (2^p)).length <=100:=(qm _ 100).2 (by have:=ur.2 (Nat.pow_lt_pow_right (a:=2) OA (wS p));omega);have hpos:=q8 p;have h2:=r341 (zo (2^p)) lb1 O OC (by rw[hv1,zm];omega) (by
  have:(toL (2^p)).length ≠0:=by rw[Ne,wv];omega
  simp;omega)
 rw[hv1,zm]at h2;have h3:=zxn neg (zo (2^p-1)) (qN (yj (Nat.sub_le _ _) hl) O) (16384-p) O;rw[zm]at h3;generalize toL (2^p-1)=L2 at*;generalize toL (2^p)=L1 at*;generalize cnN neg (2^p-1) (16384-p)=R at*;refine fZ6 Tryz.func369 rfl rfl ?_;conv=>whnf
 refine gZn h1 ?_;conv=>whnf
 refine gZn h2 ?_;conv=>whnf
 rw[wI O];refine gZn h3 ?_;conv=>whnf
 exact⟨lr rfl,lh0⟩
def kR(m:Nat)(e p:Int):Nat:=(max (max ((bl m:Int)-p) (-16384-e)) 0).toNat
def moR(m:Nat)(e p:Int)(more:Bool):Bool:=more||decide (m % 2^kR m e p≠0)
def quR(neg:Bool)(m:Nat)(e p:Int)(more up:Bool):Nat:=if(moR m e p more&&(neg != up))=true then m/2^kR m e p+1 else m/2^kR m e p
def zli(neg:Bool)(m:Nat)(e:Int)(more:Bool)(p:Nat)(up:Bool):Dy×Int:=
 if 0<bl (quR neg m e p more up)/\16384<(bl (quR neg m e p more up):Int)+e+kR m e p then(if(neg != up)=true then(d0,9)else(cnN neg (2^p-1) (16384-p),0))
 else(cnN neg (quR neg m e p more up) (e+kR m e p),0)
theorem qc1(m k:Nat):(yc (m/2^k*2^k) m != 0)=decide (m % 2^k≠0):=by
 rw[ztv];refine decide_eq_decide.2 ?_;have:=w3 m (2^k);rw[qS]at this;omega
noncomputable def qeq:Code:=Tryz.f304.body.getD .skip
theorem r305(neg:Bool){l:List Int}(hb:LB l)(hl:l.length<=3000)(e:Int)(he: -80000<=e/\e<=100000)(more:Bool)(p:Nat)(hp:8<=p/\p<=512)(up:Bool):
 Fn 304 [] [.bool neg,.sl .u32 l,.int .i64 e,.bool more,.int .i64 p,.bool up] (dyV (zli neg (val l) e more p up)) []:=by
 have h331:=zxm hb O;have hll:(toL (val l)).length <=3000:=qN (zj4 hb) hl;generalize val l=m at*;have hbm:bl m<=32*3000:=(qm _ _).1 hll;have h302:=qfg (zo m) O;rw[zm]at h302;have hkd:((kR m e p:Nat):Int)=max (max ((bl m:Int)-p) (-16384-e)) 0:=by unfold kR;omega
 have hkb:kR m e p<=96000:=O;have h334:=r334 (zo m) O (kR m e p) O;rw[zm]at h334;have hK:(if(0:Int)>(if v7.wrap (-16384-e)>v7.wrap ((bl m:Nat)-(p:Int))then v7.wrap (-16384-e)else v7.wrap ((bl m:Nat)-(p:Int)))then 0 else(if v7.wrap (-16384-e)>v7.wrap ((bl m:Nat)-(p:Int))then v7.wrap (-16384-e)else v7.wrap ((bl m:Nat)-(p:Int))))=((kR m e p:Nat):Int):=by
  rw[wI (x:= -16384-e) O,wI (x:=((bl m:Nat):Int)-(p:Int)) O,hkd];split<;>(try split)<;>omega
 have hql:(toL (m/2^kR m e p)).length <=3000:=yj (wF _ _) hll;have h304:=r304 (zo (m/2^kR m e p)) O (kR m e p) O;rw[zm]at h304;have h310:=r310 (zo (m/2^kR m e p*2^kR m e p)) (zo m) (qN (yj (Nat.div_mul_le_self _ _) hll) O) O;rw[zm,zm]at h310;have hord:=qc1 m (kR m e p);refine qy (code:=qeq) hT6 hmx Tryz.func304 rfl rfl (ex:= []) ?_;conv=>whnf
 refine je hT6 hmx 6 (fun _:Unit=>⟨[.bool neg,.sl .u32 (toL m),.int .i64 e,.bool (moR m e p more),.int .i64 p,.bool up,.any,.any,.any,.any,.any,.any,.ptr 12 0,.int .i64 0,.any,.int .i64 ((kR m e p:Nat):Int),.sl .u32 (toL (m/2^kR m e p))]++jr 57,[(12,.cells [.bool false,.nilsl,.int .i64 0])]⟩) (fun _=>Z) ?_ (fun _=>?_)
 .unfold moR;generalize yc (m/2^kR m e p*2^kR m e p) m=Oq at*;have hk0:kR m e p=0->decide (m % 2^kR m e p≠0)=false:=fun h=>by rw[h];simp;omega
  generalize decide (m % 2^kR m e p≠0)=D at*;conv=>whnf
  refine gZn h331 ?_;conv=>whnf
  refine gZn h302 ?_;conv=>whnf
  rw[hK];refine gZn h334 ?_;conv=>whnf
  refine brI (fun h=>?_) (fun h=>?_)
  .conv=>whnf
   refine gZn h304 ?_;conv=>whnf
   refine gZn h310 ?_;conv=>whnf
   refine brI (fun h2=>?_) (fun h2=>?_)
   .have h2:(Oq != 0)=true:=h2;rw[hord]at h2;conv=>whnf
    refine⟨(),?_⟩
    ((conv=>whnf);refine q9 ?_ ?_;repeat' first|refine lc ?_ ?_|refine lh1 ?_ ?_|refine bc0 ?_|exact KXZ|refine lg0 ?_|refine lt0 ?_)
    all_goals exact ab0 (by rw[h2,Bool.or_true])
   .have h2:(Oq != 0)=false:=h2;rw[hord]at h2;conv=>whnf
    refine⟨(),?_⟩
    ((conv=>whnf);refine q9 ?_ ?_;repeat' first|refine lc ?_ ?_|refine lh1 ?_ ?_|refine bc0 ?_|exact KXZ|refine lg0 ?_|refine lt0 ?_)
    all_goals exact ab0 (by rw[h2,wZ])
  .have h:¬((kR m e p:Nat):Int)>0:=Z1 h;have h2:=hk0 O;conv=>whnf
   refine⟨(),?_⟩
   ((conv=>whnf);refine q9 ?_ ?_;repeat' first|refine lc ?_ ?_|refine lh1 ?_ ?_|refine bc0 ?_|exact KXZ|refine lg0 ?_|refine lt0 ?_)
   all_goals exact ab0 (by rw[h2,wZ])
 .have lb1:LB [1]:=fun z hz=>by
   have:z=1:=by simpa using hz
   omega
  have h335:=r335 (zo (m/2^kR m e p)) lb1 O OC;rw[zm,show val [1]=1 from rfl]at h335;have hqd:quR neg m e p more up=if(moR m e p more&&(neg != up))=true then m/2^kR m e p+1 else m/2^kR m e p:=rfl
  have hQl:(toL (quR neg m e p more up)).length <=4000:=by
   have hq0:bl (m/2^kR m e p)<=32*3000:=(qm _ _).1 hql;rw[qm];have:=zfr (m/2^kR m e p);rw[hqd];split<;>omega
  have h302':=qfg (zo (quR neg m e p more up)) O;rw[zm]at h302';have hbQ:bl (quR neg m e p more up)<=32*4000:=(qm _ _).1 hQl;have h296:=zxn neg (zo (quR neg m e p more up)) O (e+kR m e p) O;rw[zm]at h296;have h336:=r336 neg p hp;have hcd:zli neg m e more p up=if 0<bl (quR neg m e p more up)/\16384<(bl (quR neg m e p more up):Int)+e+kR m e p then(if(neg != up)=true then(d0,9)else(cnN neg (2^p-1) (16384-p),0))else(cnN neg (quR neg m e p more up) (e+kR m e p),0):=rfl
  rw[hcd];generalize moR m e p more=MO at*;refine je hT6 hmx 2 (fun _:Unit=>⟨[.bool neg,.any,.int .i64 e,.any,.int .i64 p,.any,.any,.any,.any,.any,.any,.any,.ptr 12 0,.int .i64 0,.any,.int .i64 ((kR m e p:Nat):Int),.sl .u32 (toL (quR neg m e p more up)),.bool (neg != up)]++jr 56,[(12,.cells [.bool false,.nilsl,.int .i64 0])]⟩) (fun _=>Z) ?_ (fun _=>?_)
  .generalize quR neg m e p more up=QU at*
   cases MO with
   |false=>
    have hqd:QU=m/2^kR m e p:=by rw[hqd];rfl
    conv=>whnf
    refine⟨(),?_⟩
    ((conv=>whnf);refine q9 ?_ ?_;repeat' first|refine lc ?_ ?_|refine lh1 ?_ ?_|refine bc0 ?_|exact KXZ|refine lg0 ?_|refine lt0 ?_)
    all_goals exact qs (by rw[hqd])
   |true=>
    conv=>whnf
    refine brI (fun h=>?_) (fun h=>?_)
    .have h:(neg != up)=true:=h;have hqd:QU=m/2^kR m e p+1:=by rw[hqd,h];rfl
     conv=>whnf
     refine gZn h335 ?_;conv=>whnf
     refine⟨(),?_⟩
     ((conv=>whnf);refine q9 ?_ ?_;repeat' first|refine lc ?_ ?_|refine lh1 ?_ ?_|refine bc0 ?_|exact KXZ|refine lg0 ?_|refine lt0 ?_)
     all_goals exact qs (by rw[hqd])
    .have h:(neg != up)=false:=h;have hqd:QU=m/2^kR m e p:=by rw[hqd,h];rfl
     conv=>whnf
     refine⟨(),?_⟩
     ((conv=>whnf);refine q9 ?_ ?_;repeat' first|refine lc ?_ ?_|refine lh1 ?_ ?_|refine bc0 ?_|exact KXZ|refine lg0 ?_|refine lt0 ?_)
     all_goals exact qs (by rw[hqd])
  .clear hqd h335 h304 h310 hord h331 h334 h302;have hkk:kR m e p<=96000:=hkb;generalize quR neg m e p more up=QU at*;generalize kR m e p=k at*;generalize (neg != up)=OUT at*;generalize cnN neg (2^p-1) (16384-p)=GR at*;generalize cnN neg QU (e+k)=RR at*;generalize toL QU=LQ at*;generalize bl QU=B at*;have hk2:v7.wrap (e+(k:Int))=e+k:=wI O;refine wx hT6 hmx ?_;conv=>whnf
   refine gZn h302' ?_;conv=>whnf
   refine brI (fun h1=>?_) (fun h1=>?_)
   .have h1:(B:Int)>0:=Z0 h1;conv=>whnf
    refine gZn h302' ?_;conv=>whnf
    rw[wI (x:=(B:Int)+e) O,wI (x:=(B:Int)+e+(k:Int)) O];refine brI (fun h2=>?_) (fun h2=>?_)
    .have h2:(B:Int)+e+k>16384:=Z0 h2;rw[Z4 ⟨O,O⟩]
     cases OUT with
     |true=>
      conv=>whnf
      exact⟨lt0 (lc qdl (lc (lr rfl) ln0)),lh0⟩
     |false=>
      conv=>whnf
      refine gZn h336 ?_;conv=>whnf
      exact⟨lr rfl,lh0⟩
    .have h2:¬(B:Int)+e+k>16384:=Z1 h2;rw[Z5 O];conv=>whnf
     rw[hk2];refine gZn h296 ?_;conv=>whnf
     exact⟨lr rfl,lh0⟩
   .have h1:¬(B:Int)>0:=Z1 h1;rw[Z5 O];conv=>whnf
    rw[hk2];refine gZn h296 ?_;conv=>whnf
    exact⟨lr rfl,lh0⟩
def zzp(d:Dy):Prop:=LB d.m/\d.m.length<=3000/\ -80000<=d.e/\d.e<=100000
theorem zqz{d:Dy}(h:VD d):zzp d:=⟨h.lb,by have:=h.len;omega,by have:=h.exp;omega,by have:=h.exp;omega⟩
theorem ze3(neg:Bool){n:Nat}{e:Int}(hn:bl n<=60000)(he: -40000<=e/\e<=40000):zzp (cnN neg n e):=by
 unfold cnN;split
 .exact⟨(fun x hx=>by cases hx),OA,OA,OA⟩
 .rename_i h;have h1:=zo2 h;refine⟨zo _,?_,OD,OD⟩;simp only;exact yj (wF _ _) ((qm _ _).2 O)
theorem zwg{a b:Dy}(ha:VD a)(hb:VD b):zzp (zbx a b):=by
 unfold zbx;have ea:=ha.exp;have eb:=hb.exp;have ba:=ha.bits;have bb:=hb.bits;split
 .exact zqz hb
 rename_i h1;split
 .exact zqz ha
 rename_i h2;have q1:bl (nm a*2^(a.e-min a.e b.e).toNat)<=40000:=by rw[zw _ _ h1];omega
 have q2:bl (nm b*2^(b.e-min a.e b.e).toNat)<=40000:=by rw[zw _ _ h2];omega
 have hm: -40000<=min a.e b.e/\min a.e b.e<=40000:=O;generalize nm a*2^(a.e-min a.e b.e).toNat =X at*;generalize nm b*2^(b.e-min a.e b.e).toNat =Y at*;split
 .exact ze3 _ (by have:=zqq q1 q2;omega) hm
 split
 .exact ze3 _ (by have:=kv (O:X-Y<=X);omega) hm
 .exact ze3 _ (by have:=kv (O:Y-X<=Y);omega) hm
theorem r300{d:Dy}(h:zzp d)(p:Nat)(hp:8<=p/\p<=512)(up:Bool):Fn 223 [] [.agg (dyC d),.int .i64 p,.bool up] (dyV (zli d.neg (nm d) d.e false p up)) []:=by
 have h305:=r305 d.neg h.1 h.2.1 d.e h.2.2 false p hp up;have h305:Fn 304 [] [.bool d.neg,.sl .u32 d.m,.int .i64 d.e,.bool false,.int .i64 p,.bool up] (dyV (zli d.neg (nm d) d.e false p up)) []:=h305;generalize zli d.neg (nm d) d.e false p up=R at*;obtain⟨s,m,e⟩:=d;obtain⟨⟨r1,r2,r3⟩,r4⟩:=R;refine fZ6 Tryz.func223 rfl rfl ?_;conv=>whnf
 refine gZn h305 ?_;conv=>whnf
 exact⟨lr rfl,lh0⟩
def zwr(a b:Dy)(p:Nat)(up:Bool):Dy×Int:=zli (zbx a b).neg (nm (zbx a b)) (zbx a b).e false p up
def zx7(a b:Dy)(p:Nat)(up:Bool):Dy×Int:=zli (cnN (a.neg != b.neg) (nm a*nm b) (a.e+b.e)).neg (nm (cnN (a.neg != b.neg) (nm a*nm b) (a.e+b.e))) (cnN (a.neg != b.neg) (nm a*nm b) (a.e+b.e)).e false p up
theorem r255{a b:Dy}(ha:VD a)(hb:VD b)(p:Nat)(hp:8<=p/\p<=512)(up:Bool):Fn 148 [] [.agg (dyC a),.agg (dyC b),.int .i64 p,.bool up] (dyV (zwr a b p up)) []:=by
 have hla:=ha.len;have hlb:=hb.len;have h299:=r299 a b ha.lb hb.lb O O p;rw[show ftR a b p=0 by unfold ftR;rw[Z4 ⟨(jt ha.lb).2 ha,(jt hb.lb).2 hb⟩,Z4 O]]at h299;have h253:=r253 ha hb;have h300:=r300 (zwg ha hb) p hp up;unfold zwr;generalize zli (zbx a b).neg (nm (zbx a b)) (zbx a b).e false p up=R at*;generalize zbx a b=S at*;obtain⟨⟨r1,r2,r3⟩,r4⟩:=R;refine fZ6 Tryz.func148 rfl rfl ?_;conv=>whnf
 refine gZn h299 ?_;conv=>whnf
 refine gZn h253 ?_;conv=>whnf
 refine gZn h300 ?_;conv=>whnf
 exact⟨lr rfl,lh0⟩
theorem r258{a b:Dy}(ha:VD a)(hb:VD b)(p:Nat)(hp:8<=p/\p<=512)(up:Bool):Fn 303 [] [.agg (dyC a),.agg (dyC b),.int .i64 p,.bool up] (dyV (zx7 a b p up)) []:=by
 have hla:=ha.len;have hlb:=hb.len;have h299:=r299 a b ha.lb hb.lb O O p;rw[show ftR a b p=0 by unfold ftR;rw[Z4 ⟨(jt ha.lb).2 ha,(jt hb.lb).2 hb⟩,Z4 O]]at h299;have h301:=r301 ha hb;have ea:=ha.exp;have eb:=hb.exp;have ba:=ha.bits;have bb:=hb.bits;have h300:=r300 (ze3 (a.neg != b.neg) (n:=nm a*nm b) (e:=a.e+b.e) (by have:=zez (nm a) (nm b);omega) O) p hp up;unfold zx7;generalize cnN (a.neg != b.neg) (nm a*nm b) (a.e+b.e)=S at*;generalize zli S.neg (nm S) S.e false p up=R at*;obtain⟨⟨r1,r2,r3⟩,r4⟩:=R;refine fZ6 Tryz.func303 rfl rfl ?_;conv=>whnf
 refine gZn h299 ?_;conv=>whnf
 refine gZn h301 ?_;conv=>whnf
 refine gZn h300 ?_;conv=>whnf
 exact⟨lr rfl,lh0⟩
theorem zpw(n:Nat)(e:Int):jm (cnN false n e)=cnN true n e:=by
 unfold cnN;split
 .rfl
 .rename_i h;obtain⟨m,h1,h2⟩:=xj h;have h3:n/2^tz n=m:=qB (q8 _) h1;unfold jm;rw[Z5 (by rw[ji,h3];omega)];rfl
theorem zh6(neg:Bool)(m:Nat)(e:Int)(more:Bool)(p:Nat)(up:Bool)(hm:more=true->p<bl m)(h0:m=0->e<=16384+p)(hp:8<=p/\p<=512):zli neg m e more p up=xz neg m e more p up:=by
 have hx:(neg != up)=(up != neg):=by cases neg<;>cases up<;>rfl
 have key:∃(Q:Nat)(u:Int),zbt m e more p (up != neg)=(if 16384<(bl Q:Int)+u then(if(up != neg)=true then(d0,9)else(cnN false (2^p-1) (16384-p),0))else(cnN false Q u,0))/\
  zli neg m e more p up=(if 16384<(bl Q:Int)+u then(if(up != neg)=true then(d0,9)else(cnN neg (2^p-1) (16384-p),0))else(cnN neg Q u,0)):=by
  refine⟨upN (wk m e more (unN m e p)) (up != neg),unN m e p,rfl,?_⟩;unfold zli;rw[hx];by_cases hu:unN m e p<=e
  .have hb:bl m<=p:=by unfold unN at hu;omega
   have hmo:more=false:=by
    cases more with
    |false=>rfl
    |true=>have:=hm rfl;omega
   subst hmo;have hk:kR m e p=0:=by unfold kR;unfold unN at hu;omega
   have hq:quR neg m e p false up=m:=by
    have hmo:moR m e p false=false:=by unfold moR;rw[hk];simp;omega
    unfold quR;rw[hmo,qM,Z5 OC,hk];simp
   rw[hq,hk];have hF:upN (wk m e false (unN m e p)) (up != neg)=m*2^(e-unN m e p).toNat :=by
    unfold wk;rw[Z4 hu];unfold upN;simp
   rw[hF,zex,(O:unN m e p+((e-unN m e p).toNat :Int)=e)];simp only[Int.natCast_zero,v0];by_cases hm0:m=0
   .have:=h0 hm0;subst hm0;have hbu:unN 0 e p<=16384:=by unfold unN;rw[wo];omega
    rw[v4,wo,Z5 O,Z5 O]
   .have hbp:bl m≠0:=fun c=>hm0 (xv.1 c)
    rw[zw _ _ hm0];by_cases hc:16384<(bl m:Int)+e
    .rw[Z4 ⟨O,hc⟩,Z4 (show 16384<((bl m+(e-unN m e p).toNat :Nat):Int)+unN m e p by omega)]
    .rw[Z5 O,Z5 (show ¬16384<((bl m+(e-unN m e p).toNat :Nat):Int)+unN m e p by omega)]
  .have hk:kR m e p=(unN m e p-e).toNat :=by unfold kR;unfold unN at hu⊢;omega
   have hF:upN (wk m e more (unN m e p)) (up != neg)=quR neg m e p more up:=by
    unfold wk quR moR;rw[Z5 hu,hk,hx];unfold upN;simp only[Bool.and_comm]
   rw[hF,hk,(O:e+((unN m e p-e).toNat :Int)=unN m e p)];by_cases hc:16384<(bl (quR neg m e p more up):Int)+unN m e p
   .have hpos:0<bl (quR neg m e p more up):=by
     by_cases hz:bl (quR neg m e p more up)=0
     .exfalso;rw[hz]at hc;have hub:unN m e p=e+bl m-p:=by unfold unN at hc⊢;omega
      have hq0:quR neg m e p more up=0:=xv.1 hz;have hk2:kR m e p=bl m-p:=by rw[hk];omega
      have hle:m/2^kR m e p<=quR neg m e p more up:=by unfold quR;split<;>omega
      have hm1:2^kR m e p<=m:=by
       have hmz:m≠0:=fun c=>by
        have:bl m=0:=by rw[c];rfl
        omega
       exact(zch hmz).1 O
      have:=(Nat.div_pos_iff (a:=m) (b:=2^kR m e p)).2 ⟨q8 _,hm1⟩;omega
     .omega
    rw[Z4 ⟨hpos,O⟩,Z4 hc]
   .rw[Z5 O,Z5 hc]
 obtain⟨Q,u,h1,h2⟩:=key;rw[h2];unfold xz;rw[h1];by_cases hc:16384<(bl Q:Int)+u
 .rw[Z4 hc,Z4 hc];cases hxx:(up != neg)with
  |true=>simp
  |false=>
   simp only[Bool.false_eq_true,if_false]
   cases neg with
   |true=>simp[zpw]
   |false=>simp
 .rw[Z5 hc,Z5 hc]
  cases neg with
  |true=>simp[zpw]
  |false=>simp
theorem zrn(m t:Nat)(e u:Int):wk (m*2^t) e false u=wk m (e+t) false u:=by
 unfold wk;by_cases h1:u<=e
 .rw[Z4 h1,Z4 O,qD,<-qQ,(O:t+(e-u).toNat =(e+t-u).toNat)]
 .rw[Z5 h1];by_cases h2:u<=e+t
  .rw[Z4 h2];have e1:2^t=2^(e+t-u).toNat *2^(u-e).toNat :=by rw[<-qQ];congr 1;omega
   rw[e1,<-qD,Nat.mul_div_cancel _ (q8 _),Nat.mul_mod_left];rfl
  .rw[Z5 h2];have e1:2^(u-e).toNat =2^(u-(e+t)).toNat *2^t:=by rw[<-qQ];congr 1;omega
   have hp:=q8 t;rw[e1,Nat.mul_div_mul_right _ _ hp,Nat.mul_mod_mul_right]
   congr 2
   refine decide_eq_decide.2 ?_;constructor
   .intro h c;exact h (by rw[c,v4])
   .intro h c;rcases wV.1 c with c|c
    .exact h c
    .omega
theorem zi3(neg:Bool){m:Nat}(hm:m≠0)(t:Nat)(e:Int)(p:Nat)(up:Bool):xz neg (m*2^t) e false p up=xz neg m (e+t) false p up:=by
 have hu:unN (m*2^t) e p=unN m (e+t) p:=by unfold unN;rw[zw _ _ hm];omega
 have hc:∀q,zbt (m*2^t) e false p q=zbt m (e+t) false p q:=fun q=>by
  unfold zbt;rw[hu,zrn]
 unfold xz;rw[hc]
theorem zxf(neg:Bool)(n:Nat)(e:Int)(p:Nat)(up:Bool)(he:e<=16384+p):xz (cnN neg n e).neg (nm (cnN neg n e)) (cnN neg n e).e false p up=xz neg n e false p up:=by
 by_cases h:n=0
 .subst h;rw[zaq neg e p up he];have:cnN neg 0 e=d0:=by unfold cnN;rw[Z4 rfl]
  rw[this];exact zaq false 0 p up O
 .obtain⟨m,h1,h2⟩:=xj h;have h3:n/2^tz n=m:=qB (q8 _) h1;have hcn:cnN neg n e=⟨neg,toL m,e+tz n⟩:=by unfold cnN;rw[Z5 h,h3]
  rw[hcn,ji];simp only;have hn:n=m*2^tz n:=by rw[qS];exact h1
  have:=zi3 neg (m:=m) O (tz n) e p up;rw[<-hn]at this;exact this.symm
theorem qfy{d:Dy}(h:VD d)(h0:nm d=0):d.m= []/\d.e=0:=by
 refine VD.cases (P:=fun d=>nm d=0->d.m= []/\d.e=0) h (fun _=>⟨rfl,rfl⟩) (fun s n e hd hn _ _ _ _ c=>?_) h0;rw[ji]at c;omega
theorem qda{a b:Dy}(ha:VD a)(hb:VD b)(p:Nat)(hp:8<=p/\p<=512)(up:Bool):zx7 a b p up=ug a b p up:=by
 have ea:=ha.exp;have eb:=hb.exp;unfold zx7 ug;by_cases hz:nm a*nm b=0
 .rw[hz];have:cnN (a.neg != b.neg) 0 (a.e+b.e)=d0:=by unfold cnN;rw[Z4 rfl]
  rw[this];have he:a.e+b.e<=16384+p:=by
   rcases wV.1 hz with h|h
   .have h1:=(qfy ha h).2;omega
   .have h1:=(qfy hb h).2;omega
  rw[zaq _ _ p up he];rw[zh6 _ _ _ _ _ _ OC (fun _=>by show(0:Int)<=_;omega) hp];exact zaq false 0 p up O
 .have h:=zxf (a.neg != b.neg) (nm a*nm b) (a.e+b.e) p up;have hb2:=zez (nm a) (nm b);have hnz:nm (cnN (a.neg != b.neg) (nm a*nm b) (a.e+b.e))≠0:=by
   rw[zt2];obtain⟨m,h1,h2⟩:=xj hz;have h3:=qB (q8 _) h1;rw[h3];omega
  rw[zh6 _ _ _ _ _ _ OC (fun c=>absurd c hnz) hp];obtain⟨m,h1,h2⟩:=xj hz;have h3:=qB (q8 _) h1;have hcn:cnN (a.neg != b.neg) (nm a*nm b) (a.e+b.e)=⟨a.neg != b.neg,toL m,a.e+b.e+tz (nm a*nm b)⟩:=by unfold cnN;rw[Z5 hz,h3]
  rw[hcn,ji];simp only;have hn:nm a*nm b=m*2^tz (nm a*nm b):=by rw[qS m];exact h1
  have:=zi3 (a.neg != b.neg) (m:=m) O (tz (nm a*nm b)) (a.e+b.e) p up;rw[<-hn]at this;exact this.symm
theorem r262(n:Int)(h: -4611686018427387904<=n/\n<=4611686018427387904):Fn 54 [] [.int .i64 n] (.agg (dyC (zcb n))) []:=by
 have hv:val [((n.natAbs % 4294967296:Nat):Int),((n.natAbs/4294967296:Nat):Int)]=n.natAbs:=by
  rw[qt,qt,q4,q4];simp only[val];omega
 have hb:LB [((n.natAbs % 4294967296:Nat):Int),((n.natAbs/4294967296:Nat):Int)]:=fun z hz=>by
  simp only[List.mem_cons,List.not_mem_nil,or_false]at hz;rcases hz with rfl|rfl<;>omega
 have h296:=zxn (decide (n<0)) hb OC 0 O;rw[hv]at h296;have h296:Fn 124 [] [.bool (decide (n<0)),.sl .u32 [((n.natAbs % 4294967296:Nat):Int),((n.natAbs/4294967296:Nat):Int)],.int .i64 0] (.agg (dyC (zcb n))) []:=h296;have e1:=loB (s:=n.natAbs) O;have e3:v8.wrap (((n.natAbs:Nat):Int).fdiv (2^min (Int.toNat 32) v6.bits))=((n.natAbs/4294967296:Nat):Int):=by
  show v8.wrap (((n.natAbs:Nat):Int).fdiv 4294967296)=_;rw[fdB,zrw O]
 generalize zcb n=R at*;refine fZ6 Tryz.func54 rfl rfl ?_;conv=>whnf
 refine brI (fun h1=>?_) (fun h1=>?_)
 .have h1:n<0:=Z0 h1;have ew:v6.wrap (0-v6.wrap n)=(n.natAbs:Int):=by
   rw[show v6.wrap n=n+18446744073709551616 by simp[vc,v9,vd];omega];simp[vc,v9,vd];omega
  conv=>whnf
  rw[ew,e1];refine⟨OA,?_⟩;conv=>whnf
  rw[e3];refine gZn h296 ?_;conv=>whnf
  exact⟨lr rfl,lh0⟩
 .have h1:¬n<0:=Z1 h1;have ew:v6.wrap n=(n.natAbs:Int):=by
   rw[wU O];omega
  conv=>whnf
  rw[ew,e1];refine⟨OA,?_⟩;conv=>whnf
  rw[e3];refine gZn h296 ?_;conv=>whnf
  exact⟨lr rfl,lh0⟩
theorem r173(d:Dy):Fn 157 [] [.agg (dyC d)] (.bool (zrB d)) []:=by
 obtain⟨R,hR⟩:∃R,zrB d=R:=⟨_,rfl⟩;rw[hR];unfold zrB at hR;obtain⟨d1,d2,d3⟩:=d;simp only at hR;show Fn 157 [] [.agg [.bool d1,.sl .u32 d2,.int .i64 d3]] _ [];refine fZ6 Tryz.func157 rfl rfl ?_;conv=>whnf
 cases d1 with
 |true=>
  conv=>whnf
  exact⟨ab0 hR,lh0⟩
 |false=>
  conv=>whnf
  refine brI (fun h1=>?_) (fun h1=>?_)
  .have h2:d2.length=0:=by have h1:((d2.length:Int)==0)=true:=h1;rw[beq_iff_eq]at h1;omega
   rw[Z6 h2]at hR;conv=>whnf
   exact⟨ab0 (by rw[<-hR];simp;rw[wG];simp),lh0⟩
  .have h2:¬d2.length=0:=by have h1:((d2.length:Int)==0)=false:=h1;rw[beq_eq_false_iff_ne]at h1;omega
   rw[Z7 h2]at hR;conv=>whnf
   exact⟨ab0 (by rw[<-hR];simp),lh0⟩
theorem zxp(x:Iv)(h:RI x):Fn 74 [] [.agg (ivC x)] (.bool (viB x)) []:=by
 have hlo:=qcw x.lo h.lo h.l1;have hhi:=qcw x.hi h.hi h.l2;have zlo:=r173 x.lo;have zhi:=r173 x.hi;have hc:vB x.lo=true->vB x.hi=true->Fn 52 [] [.agg (dyC x.lo),.agg (dyC x.hi)] (.int .i64 (qh x.lo x.hi)) []:=fun h1 h2=>zxo ((jt h.lo).1 h1) ((jt h.hi).1 h2)
 obtain⟨R,hR⟩:∃R,viB x=R:=⟨_,rfl⟩;rw[hR];unfold viB at hR;generalize vB x.lo=a at*;generalize vB x.hi=b at*;generalize zrB x.lo=c at*;generalize zrB x.hi=d at*;generalize qh x.lo x.hi=C at*;clear h;obtain⟨⟨x1,x2,x3⟩,⟨x4,x5,x6⟩,x7⟩:=x;simp only at hR;have hlo:Fn 25 [] [.agg [.bool x1,.sl .u32 x2,.int .i64 x3]] (.bool a) []:=hlo;have hhi:Fn 25 [] [.agg [.bool x4,.sl .u32 x5,.int .i64 x6]] (.bool b) []:=hhi;have zlo:Fn 157 [] [.agg [.bool x1,.sl .u32 x2,.int .i64 x3]] (.bool c) []:=zlo;have zhi:Fn 157 [] [.agg [.bool x4,.sl .u32 x5,.int .i64 x6]] (.bool d) []:=zhi;have hc:a=true->b=true->Fn 52 [] [.agg [.bool x1,.sl .u32 x2,.int .i64 x3],.agg [.bool x4,.sl .u32 x5,.int .i64 x6]] (.int .i64 C) []:=hc;show Fn 74 [] [.agg [.bool x1,.sl .u32 x2,.int .i64 x3,.bool x4,.sl .u32 x5,.int .i64 x6,.bool x7]] _ [];refine fZ6 Tryz.func74 rfl rfl ?_;conv=>whnf
 cases x7 with
 |true=>
  rw[Z4 rfl]at hR
  cases c with
  |false=>
   conv=>whnf
   refine gZn zlo ?_;conv=>whnf
   exact⟨ab0 hR,lh0⟩
  |true=>
   conv=>whnf
   refine gZn zlo ?_;conv=>whnf
   refine gZn zhi ?_;conv=>whnf
   exact⟨ab0 (by rw[<-hR,wi]),lh0⟩
 |false=>
  rw[Z5 OC]at hR
  cases a with
  |false=>
   conv=>whnf
   refine gZn hlo ?_;conv=>whnf
   exact⟨ab0 (by rw[<-hR];rfl),lh0⟩
  |true=>
   cases b with
   |false=>
    conv=>whnf
    refine gZn hlo ?_;conv=>whnf
    refine gZn hhi ?_;conv=>whnf
    exact⟨ab0 (by rw[<-hR];rfl),lh0⟩
   |true=>
    conv=>whnf
    refine gZn hlo ?_;conv=>whnf
    refine gZn hhi ?_;conv=>whnf
    refine gZn (hc rfl rfl) ?_;conv=>whnf
    exact⟨ab0 (by rw[<-hR];rfl),lh0⟩
theorem r61:Fn 105 [] [] (.agg (ivC wI0)) []:=by
 refine fZ6 Tryz.func105 rfl rfl ?_;conv=>whnf
 exact⟨leW,lh0⟩
theorem r256(a b:Dy×Int):Fn 149 [] [.agg (dyC a.1),.int .i64 a.2,.agg (dyC b.1),.int .i64 b.2] (.agg (ivC (jc a b))) []:=by
 obtain⟨R,hR⟩:∃R,jc a b=R:=⟨_,rfl⟩;rw[hR];unfold jc at hR;have h25:=r61;have e25:ivC wI0= [.bool false,.sl .u32 [],.int .i64 0,.bool false,.sl .u32 [],.int .i64 0,.bool true]:=rfl;rw[e25]at h25;obtain⟨⟨a1,a2,a3⟩,e⟩:=a;obtain⟨⟨b1,b2,b3⟩,f⟩:=b;simp only at hR;show Fn 149 [] [.agg [.bool a1,.sl .u32 a2,.int .i64 a3],.int .i64 e,.agg [.bool b1,.sl .u32 b2,.int .i64 b3],.int .i64 f] _ [];refine fZ6 Tryz.func149 rfl rfl ?_;conv=>whnf
 refine brI (fun h1=>?_) (fun h1=>?_)
 .have h1:e≠0:=by simpa using h1
  rw[Z4 (.inl h1)]at hR;subst hR;conv=>whnf
  refine gZn h25 ?_;conv=>whnf
  exact⟨lr rfl,lh0⟩
 have h1:e=0:=by simpa using h1
 conv=>whnf
 refine brI (fun h2=>?_) (fun h2=>?_)
 .have h2:f≠0:=by simpa using h2
  rw[Z4 (.inr h2)]at hR;subst hR;conv=>whnf
  refine gZn h25 ?_;conv=>whnf
  exact⟨lr rfl,lh0⟩
 have h2:f=0:=by simpa using h2
 rw[Z5 (by simp[h1,h2])]at hR;subst hR;conv=>whnf
 exact⟨lr rfl,lh0⟩
theorem qan(x:Iv)(h:RI x):Fn 147 [] [.agg (ivC x)] (.bool (kB x)) []:=by
 have h1:=zxp x h;obtain⟨R,hR⟩:∃R,kB x=R:=⟨_,rfl⟩;rw[hR];unfold kB at hR;generalize viB x=V at*;clear h;obtain⟨⟨x1,x2,x3⟩,⟨x4,x5,x6⟩,x7⟩:=x;simp only at hR;have h1:Fn 74 [] [.agg [.bool x1,.sl .u32 x2,.int .i64 x3,.bool x4,.sl .u32 x5,.int .i64 x6,.bool x7]] (.bool V) []:=h1;show Fn 147 [] [.agg [.bool x1,.sl .u32 x2,.int .i64 x3,.bool x4,.sl .u32 x5,.int .i64 x6,.bool x7]] _ [];refine fZ6 Tryz.func147 rfl rfl ?_;conv=>whnf
 cases V with
 |false=>
  refine gZn h1 ?_;conv=>whnf
  exact⟨ab0 (by rw[<-hR,wX]),lh0⟩
 |true=>
  refine gZn h1 ?_;conv=>whnf
  exact⟨ab0 (by rw[<-hR,wY]),lh0⟩
theorem r259(x:Iv)(h:RI x):Fn 300 [] [.agg (ivC x)] (.int .i64 (zig x)) []:=by
 have h161:=qan x h;by_cases hk:kB x=true
 .have k:=(qb h).1 hk;rw[hk]at h161;have s1:=qgy x.lo;have s2:=qgy x.hi;rw[zph k.lo]at s1;rw[zph k.hi]at s2;obtain⟨S,hS⟩:∃S,zig x=S:=⟨_,rfl⟩;rw[hS];unfold zig at hS;rw[Z4 hk]at hS;generalize jh x.lo=a at*;generalize jh x.hi=b at*;clear k hk h;refine fZ6 Tryz.func300 rfl rfl ?_;conv=>whnf
  refine gZn h161 ?_;conv=>whnf
  refine gZn s1 ?_;conv=>whnf
  refine brI (fun h1=>?_) (fun h1=>?_)
  .have h1:a>0:=Z0 h1;rw[Z4 h1]at hS;subst hS;conv=>whnf
   exact⟨lr rfl,lh0⟩
  .have h1:¬a>0:=Z1 h1;rw[Z5 h1]at hS;conv=>whnf
   refine gZn s2 ?_;conv=>whnf
   refine brI (fun h2=>?_) (fun h2=>?_)
   .have h2:b<0:=Z0 h2;rw[Z4 h2]at hS;subst hS;conv=>whnf
    exact⟨lr rfl,lh0⟩
   .have h2:¬b<0:=Z1 h2;rw[Z5 h2]at hS;subst hS;conv=>whnf
    exact⟨lr rfl,lh0⟩
 .have hS:zig x=0:=by unfold zig;rw[Z5 hk]
  rw[hS];rw[show kB x=false by simpa using hk]at h161;clear hS hk h;refine fZ6 Tryz.func300 rfl rfl ?_;conv=>whnf
  refine gZn h161 ?_;conv=>whnf
  exact⟨lr rfl,lh0⟩
theorem r60(p:Int):Fn 104 [] [.int .i64 p] (.bool (pcB p)) []:=by
 refine fZ6 Tryz.func104 rfl rfl ?_;conv=>whnf
 refine brI (fun h=>?_) (fun h=>?_)
 .have h:p≥8:=Z0 h;conv=>whnf
  exact⟨ab0 (by unfold pcB;rw[Z6 (O:8<=p),wi]),lh0⟩
 .have h:¬p≥8:=Z1 h;rw[show pcB p=false by unfold pcB;rw[Z7 (O:¬8<=p),qM]];conv=>whnf
  exact⟨lr rfl,lh0⟩
def zwa(x y:Iv)(p:Int):Iv:=if pcB p=true/\kB x=true/\kB y=true then jc (zwr x.lo y.lo p.toNat false) (zwr x.hi y.hi p.toNat true)else wI0
theorem r176(x y:Iv)(hx:RI x)(hy:RI y)(p:Int):Fn 63 [] [.agg (ivC x),.agg (ivC y),.int .i64 p] (.agg (ivC (zwa x y p))) []:=by
 have h60:=r60 p;have h1:=qan x hx;have h2:=qan y hy;have h61:=r61;obtain⟨R,hR⟩:∃R,zwa x y p=R:=⟨_,rfl⟩;rw[hR];unfold zwa at hR
 cases hp:pcB p with
 |false=>
  rw[hp]at h60;rw[Z5 (by rw[hp];simp)]at hR;subst hR;refine fZ6 Tryz.func63 rfl rfl ?_;conv=>whnf
  refine gZn h60 ?_;conv=>whnf
  refine gZn h61 ?_;conv=>whnf
  exact⟨lr rfl,lh0⟩
 |true=>
 rw[hp]at h60
 cases hkx:kB x with
 |false=>
  rw[hkx]at h1;rw[Z5 (by rw[hkx];simp)]at hR;subst hR;refine fZ6 Tryz.func63 rfl rfl ?_;conv=>whnf
  refine gZn h60 ?_;conv=>whnf
  refine gZn h1 ?_;conv=>whnf
  refine gZn h61 ?_;conv=>whnf
  exact⟨lr rfl,lh0⟩
 |true=>
 rw[hkx]at h1
 cases hky:kB y with
 |false=>
  rw[hky]at h2;rw[Z5 (by rw[hky];simp)]at hR;subst hR;refine fZ6 Tryz.func63 rfl rfl ?_;conv=>whnf
  refine gZn h60 ?_;conv=>whnf
  refine gZn h1 ?_;conv=>whnf
  refine gZn h2 ?_;conv=>whnf
  refine gZn h61 ?_;conv=>whnf
  exact⟨lr rfl,lh0⟩
 |true=>
 rw[hky]at h2;rw[Z4 ⟨hp,hkx,hky⟩]at hR;have kx:=(qb hx).1 hkx;have ky:=(qb hy).1 hky;have hpn:8<=p.toNat/\p.toNat<=512:=vg hp;have a1:=r255 kx.lo ky.lo p.toNat hpn false;have a2:=r255 kx.hi ky.hi p.toNat hpn true;rw[show((p.toNat:Nat):Int)=p by omega]at a1 a2;have h256:=r256 (zwr x.lo y.lo p.toNat false) (zwr x.hi y.hi p.toNat true);rw[hR]at h256;generalize zwr x.lo y.lo p.toNat false=A1 at*;generalize zwr x.hi y.hi p.toNat true=A2 at*;clear hR kx ky hx hy hpn;refine fZ6 Tryz.func63 rfl rfl ?_;conv=>whnf
 refine gZn h60 ?_;conv=>whnf
 refine gZn h1 ?_;conv=>whnf
 refine gZn h2 ?_;conv=>whnf
 refine gZn a1 ?_;conv=>whnf
 refine gZn a2 ?_;conv=>whnf
 refine gZn h256 ?_;conv=>whnf
 exact⟨lr rfl,lh0⟩
def zih(a b:Dy):Dy:=if qh a b<=0 then a else b
def zc5(a b:Dy):Dy:=if 0<=qh a b then a else b
theorem qgz{a b:Dy}(ha:VD a)(hb:VD b):Fn 76 [] [.agg (dyC a),.agg (dyC b)] (.agg (dyC (zih a b))) []:=by
 have h:=zxo ha hb;unfold zih;generalize qh a b=C at*;refine fZ6 Tryz.func76 rfl rfl ?_;conv=>whnf
 refine gZn h ?_;conv=>whnf
 refine brI (fun c=>?_) (fun c=>?_)
 .have c:C<=0:=Z0 c;rw[Z4 c];conv=>whnf
  exact⟨lr rfl,lh0⟩
 .have c:¬C<=0:=Z1 c;rw[Z5 c];conv=>whnf
  exact⟨lr rfl,lh0⟩
theorem qfh{a b:Dy}(ha:VD a)(hb:VD b):Fn 75 [] [.agg (dyC a),.agg (dyC b)] (.agg (dyC (zc5 a b))) []:=by
 have h:=zxo ha hb;unfold zc5;generalize qh a b=C at*;refine fZ6 Tryz.func75 rfl rfl ?_;conv=>whnf
 refine gZn h ?_;conv=>whnf
 refine brI (fun c=>?_) (fun c=>?_)
 .have c:0<=C:=Z0 c;rw[Z4 c];conv=>whnf
  exact⟨lr rfl,lh0⟩
 .have c:¬0<=C:=Z1 c;rw[Z5 c];conv=>whnf
  exact⟨lr rfl,lh0⟩
def zbn(x:Iv):Dy:=zc5 (jm x.lo) x.hi
theorem r307{x:Iv}(h:KI x):Fn 116 [] [.agg (ivC x)] (.agg (dyC (zbn x))) []:=by
 have n1:=r254 h.lo;have m1:=qfh (ze1 h.lo) h.hi;unfold zbn;generalize zc5 (jm x.lo) x.hi=M at*;generalize jm x.lo=N at*;clear h;refine fZ6 Tryz.func116 rfl rfl ?_;conv=>whnf
 refine gZn n1 ?_;conv=>whnf
 refine gZn m1 ?_;conv=>whnf
 (refine⟨Z,Z,?_⟩;(conv=>whnf))
 exact⟨lr rfl,lh0⟩
