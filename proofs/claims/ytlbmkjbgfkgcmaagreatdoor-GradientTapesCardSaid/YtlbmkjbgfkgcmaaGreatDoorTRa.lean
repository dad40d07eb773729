/- The reference's dyadic numbers (layer 2), at any values: bits, comparisons, signs. -/
import Derived.Test.YtlbmkjbgfkgcmaaGreatDoorTXa
set_option linter.all false
open And renaming intro->qE
open BitVec renaming ofInt->q4,ofInt_natCast->w6,toNat_ofNat->wA,toNat_and->wF
open Bool renaming false_and->w0,and_eq_true->wi,false_eq_true->wQ,true_and->wV,eq_iff_iff->wY,and_false->vC,and_true->vE,or_false->vH
open Int renaming toNat_natCast->q0,fdiv_eq_ediv_of_nonneg->qB,eq_ofNat_of_zero_le->qX,ofNat_tmod->w4,ofNat_tdiv->w7,toNat_zero->wC,toNat->wK,pow_pos->v3,pow_nonneg->v4,toNat_of_nonneg->v7,ediv_le_self->vi,ediv_nonneg->vx,add_zero->vJ
open List renaming getElem?_eq_getElem->q3,take_of_length_le->qA,replicate->qF,mem_of_getElem?->qG,getElem?_eq_none->qH,getElem_mem->qI,getElem?_set_ne->qP,getElem?_replicate->qQ,drop_of_length_le->qR,length_set->qT,take_length->qV,eq_of_mem_replicate->qW,set->qZ,getElem?_drop->w5,getElem?_set_self->wD,length_cons->wG,eq_nil_of_length_eq_zero->wL,mem_of_mem_drop->wM,getLast?_eq_getElem?->wS,length_nil->wX,take_add_one->v9,length_drop->vd,length_take->vk,not_mem_nil->vq,mem_cons->vI
open Nat renaming two_pow_pos->qD,le_refl->qJ,div_eq_of_eq_mul_right->qK,mul_assoc->qL,div_add_mod->qM,pow_add->qN,mul_add->qO,pow_succ->qS,and_two_pow_sub_one_eq_mod->qU,mul_comm->qY,le_trans->w2,mod_lt->w3,pow_le_pow_right->w8,mod_eq_of_lt->w9,add_zero->we,mul_le_mul_left->wn,div_le_self->ws,testBit_eq_decide_div_mod_eq->wB,div_div_eq_div_mul->wE,lt_succ_self->wJ,mul_one->wN,two_pow_add_eq_or_of_lt->wO,mul_lt_mul_of_pos_right->wP,pos_of_ne_zero->wR,mul_left_comm->wT,le_mul_of_pos_right->wW,div_lt_iff_lt_mul->wZ,mul_mod_mul_right->v0,pow_lt_pow_right->v5,div_mod_unique->v8,mul_zero->vc,div_eq_of_lt->vm,mul_mod_left->vn,succ_ne_zero->vs,pow_mul->vv,min_eq_left->vy,mul_eq_zero->vA,add_comm->vK,zero_mul->vL,add_mul->vM,one_mul->vO
open Option renaming getD_some->qC,getD_none->wH
open Rat renaming le_refl->v6,not_le->vD,not_lt->vP
open Go.IntKind renaming u64->vQ,i64->vR,u32->vS,signed->vT,wrap->vU,bits->vV
namespace Go.Proofs.YtlbmkjbgfkgcmaaGreatDoor
open Go Go.Sx
set_option maxRecDepth 100000
set_option maxHeartbeats 8000000
theorem qcr{l:List Int}(hb:LB l)(hl:l.length<=1000000):Fn 158 [] [.sl .u32 l] (.sl .u32 (toL (val l))) []:=by
 have:=y247 l hl
 rwa [yk hb]at this
theorem r250(n:Nat)(hn:(toL n).length <=1000000):Fn 135 [] [.sl .u32 (toL n)] (.int .i64 (bl n:Nat)) []:=by
 have hb:=zk n;have hla:=zd8 n;generalize bl n=B at hla⊢;generalize toL n=t at hn hb hla⊢;refine fY6 Tryz.func135 rfl ?_;refine brI (fun h1=>?_) (fun h1=>?_)
 .have h1:t= []:=by
   have h1:((t.length:Int)==0)=true:=h1;rw[beq_iff_eq]at h1;exact wL O
  subst h1;simp only[List.getLast?_nil]at hla;conv=>whnf
  exact⟨ai0 hla,lh0⟩
 .have h1:0<t.length:=by
   have h1:((t.length:Int)==0)=false:=h1;rw[beq_eq_false_iff_ne]at h1;omega
  have hw:vR.wrap ((t.length:Int)-1)=((t.length-1:Nat):Int):=by rw[wI O];omega
  conv=>whnf
  rw[hw];refine⟨⟨O,O⟩,fun x hx=>?_⟩;have hx:t[t.length-1]? =some x:=by simpa using hx
  have hg:t.getLast?=some x:=by rw[wS];exact hx
  have hxb:=hb x (qG hx);rw[hg]at hla;simp only at hla;rw[zb0 O]at hla;have hbx:bl x.toNat<=32:=vr.2 O;conv=>whnf
  rw[wI (x:=32*((t.length-1:Nat):Int)) O];refine⟨Nat,fun y=>y<4294967296/\bl y<=bl x.toNat,fun y=> [(3,.int .i64 ((B:Int)-(bl y:Nat))),(4,.int .u32 y)],fun _=> [],fun y=>y,x.toNat,⟨O,qJ _⟩,?_,fun y hy=>?_⟩
  .exact KZ0
  obtain⟨hy1,hy2⟩:=hy;refine gYe ?_;refine brI (fun h2=>?_) (fun h2=>?_)
  .have h2:0<y:=by simp only[Z4]at h2;omega
   have hh:=zkn (n:=y) O;conv=>whnf
   refine⟨OA,?_⟩;conv=>whnf
   refine⟨y/2,⟨O,O⟩,by show y/2<y;omega,?_⟩
   ((conv=>whnf);refine qE ?_ ?_;repeat' first|refine lc ?_ ?_|refine lh1 ?_ ?_|refine bc0 ?_|exact KXZ|refine lg0 ?_|refine lt0 ?_)
   .exact ai0 (by rw[wI O];omega)
   .exact ai0 (by
     show((y:Int)).fdiv 2=_;rw[qB _ OA];omega)
  .have h2:y=0:=by simp only[Z5]at h2;omega
   subst h2;conv=>whnf
   exact⟨ai0 (by simp[qx]),lh0⟩
theorem qad(d:Dy):Fn 136 [] [.agg (dyC d)] (.int .i64 (sgR d)) []:=by
 obtain⟨s,m,e⟩:=d;refine fY6 Tryz.func136 rfl ?_;refine brI (fun h1=>?_) (fun h1=>?_)
 .have h1:((m.length:Int)==0)=true:=h1;rw[beq_iff_eq]at h1;conv=>whnf
  exact⟨ai0 (by unfold sgR;rw[Z6 (O:m.length=0)]),lh0⟩
 .have h1:((m.length:Int)==0)=false:=h1;rw[beq_eq_false_iff_ne]at h1;have e1:sgR ⟨s,m,e⟩=if s=true then-1 else 1:=by unfold sgR;rw[Z7 (O:¬m.length=0)]
  rw[e1];cases s
  .conv=>whnf
   exact⟨ai0 rfl,lh0⟩
  .conv=>whnf
   exact⟨ai0 rfl,lh0⟩
theorem r168(x y:Nat)(hal:(toL x).length <=1000000)(hbl:(toL y).length <=1000000):Fn 156 [] [.sl .u32 (toL x),.sl .u32 (toL y)] (.int .i64 (kd x y)) []:=by
 obtain⟨A,hA⟩:∃A,qbz (toL x) (toL y)=A:=⟨_,rfl⟩;rw[<-zcs,hA];unfold qbz at hA;rw[qe,qe]at hA;generalize toL x=s at hal hA⊢;generalize toL y=t at hbl hA⊢;refine fY6 Tryz.func156 rfl ?_;refine brI (fun h1=>?_) (fun h1=>?_)
 .have h1:((s.length:Int) != (t.length:Int))=true:=h1;have h1:(s.length:Int)≠t.length:=by simpa using h1
  conv=>whnf
  refine brI (fun h2=>?_) (fun h2=>?_)
  .have h2:s.length<t.length:=by simp only[Z4]at h2;omega
   rw[Z6 h2]at hA;subst hA;conv=>whnf
   exact⟨lr rfl,lh0⟩
  .have h2:¬s.length<t.length:=by simp only[Z5]at h2;omega
   rw[Z7 h2,Z6 O]at hA;subst hA;conv=>whnf
   exact⟨lr rfl,lh0⟩
 have h1:((s.length:Int) != (t.length:Int))=false:=h1;have h1:(s.length:Int)=t.length:=by simpa using h1
 rw[Z7 O,Z7 O]at hA;conv=>whnf
 rw[wI (x:=(s.length:Int)-1) O];refine⟨Nat,fun n=>n<=s.length/\zav s t n=A,fun n=> [(5,.int .i64 ((n:Int)-1))],fun _=> [],fun n=>n,s.length,⟨qJ _,hA⟩,?_,fun n hn=>?_⟩
 .exact KZ0
 refine gYe ?_;obtain⟨hn1,hn2⟩:=hn;refine brI (fun h2=>?_) (fun h2=>?_)
 .have h2:0<n:=by simp only[Z4]at h2;omega
  obtain⟨m,rfl⟩:∃m,n=m+1:=⟨n-1,O⟩;have hm:(((m+1:Nat):Int)-1)=(m:Int):=O;have hms:m<s.length:=O;have hmt:m<t.length:=O;have hxs:s[m]? =some s[m]:=q3 hms;have hxt:t[m]? =some t[m]:=q3 hmt;obtain⟨x,hx⟩:∃x:Int,s[m]=x:=⟨_,rfl⟩;obtain⟨y,hy⟩:∃y:Int,t[m]=y:=⟨_,rfl⟩;rw[hx]at hxs;rw[hy]at hxt;simp only[zav,hxs,hxt,qC]at hn2;conv=>whnf
  rw[hm];refine⟨⟨O,O⟩,fun(z:Int)hz=>?_⟩;have hz:s[m]? =some z:=by simpa using hz
  rw[hxs]at hz;cases hz
  conv=>whnf
  refine⟨⟨O,O⟩,fun(z:Int)hz=>?_⟩;have hz:t[m]? =some z:=by simpa using hz
  rw[hxt]at hz;cases hz
  conv=>whnf
  refine gYd ?_;refine brI (fun h3=>?_) (fun h3=>?_)
  .have h3:x<y:=by simpa using h3
   rw[Z6 h3]at hn2;conv=>whnf
   exact⟨ai0 hn2,lh0⟩
  have h3:¬x<y:=by simpa using h3
  rw[Z7 h3]at hn2;conv=>whnf
  refine⟨⟨O,O⟩,fun(z:Int)hz=>?_⟩;have hz:s[m]? =some z:=by simpa using hz
  rw[hxs]at hz;cases hz
  conv=>whnf
  refine⟨⟨O,O⟩,fun(z:Int)hz=>?_⟩;have hz:t[m]? =some z:=by simpa using hz
  rw[hxt]at hz;cases hz
  conv=>whnf
  refine gYd ?_;refine brI (fun h4=>?_) (fun h4=>?_)
  .have h4:y<x:=by simpa using h4
   rw[Z6 h4]at hn2;conv=>whnf
   exact⟨ai0 hn2,lh0⟩
  have h4:¬y<x:=by simpa using h4
  rw[Z7 h4]at hn2;conv=>whnf
  refine⟨m,⟨O,hn2⟩,by show m<m+1;omega,?_⟩;exact KZ0
 .have h2:n=0:=by simp only[Z5]at h2;omega
  subst h2;simp only[zav]at hn2;conv=>whnf
  exact⟨ai0 hn2,lh0⟩
theorem zen(s:Int)(h:0<=s/\s<18446744073709551616):vQ.wrap ((q4 vQ.bits s&&& q4 vQ.bits 4294967295).toNat :Int)=s % 4294967296:=by
 obtain⟨n,rfl⟩:∃n:Nat,s=n:=⟨s.toNat,O⟩;have e1:(q4 64 (n:Int)).toNat =n:=by rw[w6,wA];exact w9 O
 have e2:(q4 64 4294967295).toNat =2^32-1:=OA;have e3:(q4 64 (n:Int)&&& q4 64 4294967295).toNat =n % 4294967296:=by
  rw[wF,e1,e2,qU]
 show vQ.wrap ((q4 64 (n:Int)&&& q4 64 4294967295).toNat :Int)=_;rw[e3,wU O];omega
noncomputable def qb2:Code:=Tryz.f154.body.getD .skip
theorem r295(x n:Nat)(hx:(toL x).length <=100000)(hn:n<=100000):Fn 154 [] [.sl .u32 (toL x),.int .i64 n] (.sl .u32 (toL (x*2^n))) []:=by
 have hb2:=zk x;have hsp:=zbj n x;unfold zgh at hsp;rw[qe]at hsp;generalize toL x=t at hx hb2 hsp⊢;refine qr (code:=qb2) hT6 hmx Tryz.func154 rfl rfl (ex:= []) ?_;conv=>whnf
 refine jm hT6 hmx 3 (fun _:Unit=>⟨[.sl .u32 t,.int .i64 n,.any,.any,.any,.own 11,.int .u64 0]++uo 36,[(11,.buf 101 .u32 (qF (n/32) 0)),(34,.dead),(100034,.free),(1500034,.free),(41,.free),(100041,.free),(1500041,.free)]⟩) (fun _=>Z) ?_ (fun _=>?_)
 .have hq:vR.wrap ((n:Int).tdiv 32)=((n/32:Nat):Int):=by
   rw[show(n:Int).tdiv 32=((n/32:Nat):Int)from w7 n 32,wI O]
  conv=>whnf
  refine⟨O,?_⟩;conv=>whnf
  rw[hq];refine⟨⟨O,O,O⟩,?_⟩;conv=>whnf
  refine⟨(),?_⟩;exact KZ0
 .refine zdt 34 11 Z ?_;conv=>whnf
  refine ww hT6 hmx ?_;conv=>whnf
  refine⟨Nat×List Int×Int,fun x=>x.1<=t.length/\x.2.1.length=n/32+x.1/\(0<=x.2.2/\x.2.2<2^(n % 32))/\x.2.1++xv (n % 32) (t.drop x.1) x.2.2=qF (n/32) 0++xv (n % 32) t 0,fun x=> [(7,.int .i64 x.1),(5,.own 34),(6,.int .u64 x.2.2)],fun x=> [(34,.buf 101 .u32 x.2.1)],fun x=>t.length-x.1,(0,qF (n/32) 0,0),⟨OC,OC,⟨OC,by exact v3 OA⟩,OC⟩,?_,fun x hx=>?_⟩
  .exact KZ0
  refine gYe ?_;obtain⟨i,out,c⟩:=x;obtain⟨hi1,hi2,hi3,hi4⟩:=hx;simp only at hi1 hi2 hi3 hi4;have hp31:(2:Int)^(n % 32)<=2147483648:=by
   have h1:2^(n % 32)<=2^31:=w8 OA O;have h2:(2:Int)^(n % 32)=((2^(n % 32):Nat):Int):=OC;rw[h2];omega
  refine brI (fun h1=>?_) (fun h1=>?_)
  .have hi:i<t.length:=by simp only[Z4]at h1;omega
   conv=>whnf
   refine⟨⟨O,OD⟩,fun(x:Int)hx=>?_⟩;have hx:t[i]? =some x:=by simpa using hx
   have hxb:=hb2 x (qG hx);have hst:=zms (n:=n) hxb hi3;have h9:(n:Int).tmod 32=((n % 32:Nat):Int):=w4 n 32;have hrem:vQ.wrap ((n:Int).tmod 32)=((n % 32:Nat):Int):=by rw[h9,wU O]
   rw[h9]at hst;rw[qh hx]at hi4;simp only[xv]at hi4;obtain⟨s,hs⟩:∃s,x*2^(n % 32)+c=s:=⟨_,rfl⟩;rw[hs]at hst hi4;have hs0:0<=s/\s<4294967296*2^(n % 32):=by
    have h1:0<=x*2^(n % 32):=Int.mul_nonneg hxb.1 (by exact v4 OA);have h2:x*2^(n % 32)<=4294967295*2^(n % 32):=Int.mul_le_mul_of_nonneg_right O (by exact v4 OA);omega
   conv=>whnf
   rw[wU (x:=x) O];refine⟨O,?_⟩;conv=>whnf
   rw[hrem];refine⟨O,?_⟩;conv=>whnf
   refine⟨by simp only[wG,wX];omega,?_⟩;conv=>whnf
   refine⟨O,?_⟩;conv=>whnf
   refine⟨(i+1,out++ [s % 4294967296],s/4294967296),⟨OD,by simp only[List.length_append,wG,wX];omega,⟨OD,OD⟩,by rw[List.append_assoc];exact hi4⟩,by show t.length-(i+1)<t.length-i;omega,?_⟩;have e1:vS.wrap (s % 4294967296)=s % 4294967296:=by simp[vU,vT,vV]
   have e2:s.fdiv 4294967296=s/4294967296:=qB _ OA;have e3:=zen s O
   ((conv=>whnf);refine qE ?_ ?_;repeat' first|refine lc ?_ ?_|refine lh1 ?_ ?_|refine bc0 ?_|exact KXZ|refine lg0 ?_|refine lt0 ?_)
   .exact ai0 ((congrArg (fun z:Int=>z.fdiv 4294967296) hst).trans e2)
   .exact ai0 (by rw[wI OD];simp only;omega)
   .exact bb0 (by
     show out++ [_]=out++ [s % 4294967296];rw[<-e1,<-e3,<-hst];rfl)
   all_goals trace_state
  .have hi:¬i<t.length:=by simp only[Z5]at h1;omega
   rw[qR O]at hi4;simp only[xv]at hi4;have ec:vS.wrap c=c:=by simp[vU,vT,vV];omega
   have hv:val (out++ [c])=x*2^n/\LB (out++ [c]):=by rw[hi4];exact hsp
   have h326:=qcr hv.2 OE;rw[hv.1]at h326;conv=>whnf
   refine⟨by simp only[wG,wX];omega,?_⟩;conv=>whnf
   rw[ec];refine gYn h326 ?_;exact⟨lr rfl,lh0⟩
theorem r328(x n:Nat)(hl:(toL x).length <=100000)(hn:n<=1000000000):Fn 160 [] [.sl .u32 (toL x),.int .i64 n] (.sl .u32 (toL (x/2^n))) []:=by
 have hb2:=zk x;have hsp:=zdr n x;unfold zgg at hsp;rw[qe]at hsp;generalize x/2^n=V at hsp⊢;generalize toL x=t at hl hb2 hsp⊢;have hq:vR.wrap ((n:Int).tdiv 32)=((n/32:Nat):Int):=by
  rw[show(n:Int).tdiv 32=((n/32:Nat):Int)from w7 n 32,wI O]
 have h9:(n:Int).tmod 32=((n % 32:Nat):Int):=w4 n 32;have hrem:vQ.wrap ((n:Int).tmod 32)=((n % 32:Nat):Int):=by rw[h9,wU O]
 refine fY6 Tryz.func160 rfl ?_;refine⟨O,?_⟩;conv=>whnf
 rw[hq];refine brI (fun h1=>?_) (fun h1=>?_)
 .have h1:t.length<=n/32:=by simp only[Z4]at h1;omega
  rw[Z6 h1]at hsp;have hV:V=0:=hsp.1.symm;subst hV;conv=>whnf
  exact⟨li0 rfl,lh0⟩
 have h1:¬t.length<=n/32:=by simp only[Z5]at h1;omega
 rw[Z7 h1]at hsp;conv=>whnf
 refine⟨O,?_⟩;conv=>whnf
 rw[hq];refine⟨⟨O,O,O⟩,?_⟩;have hb3:LB (t.drop (n/32)):=fun z hz=>hb2 z (wM hz)
 have hul:(t.drop (n/32)).length <=100000:=by rw[vd];omega
 have hu:((t.take ((t.length:Int)).toNat).drop (((n/32:Nat):Int)).toNat)=t.drop (n/32):=by rw[show((t.length:Int)).toNat =t.length by omega,qV,show((((n/32:Nat):Int))).toNat =n/32 by omega]
 rw[hu];obtain⟨A,hA⟩:∃A,zbi (t.drop (n/32)) (n % 32)=A:=⟨_,rfl⟩;rw[hA]at hsp;generalize t.drop (n/32)=u at hA hb3 hul⊢;have hAl:A.length=u.length:=by rw[<-hA];simp[zbi]
 have h326:=qcr hsp.2 O;rw[hsp.1]at h326;have hfin:∀s:Int,0<=s/\s<18446744073709551616->vS.wrap (vQ.wrap ((q4 vQ.bits (s.fdiv (2^min ((n % 32:Nat):Int).toNat 64))&&& q4 vQ.bits 4294967295).toNat :Int))=(s/2^(n % 32)) % 4294967296:=fun s hs=>by
  have hp:(0:Int)<2^(n % 32):=v3 OA;have hd:0<=s/2^(n % 32):=vx hs.1 O;have hd2:s/2^(n % 32)<=s:=vi _ hs.1;rw[(O:min ((n % 32:Nat):Int).toNat 64=n % 32),qB _ O,zen _ ⟨hd,O⟩];simp[vU,vT,vV]
 conv=>whnf
 refine⟨Nat,fun i=>i<=u.length,fun i=> [(6,.int .i64 i),(5,.own 51)],fun i=> [(51,.buf 101 .u32 (A.take i))],fun i=>u.length-i,0,OC,?_,fun i hi=>?_⟩
 .exact KZ0
 refine gYe ?_;have hi:i<=u.length:=hi;refine brI (fun h2=>?_) (fun h2=>?_)
 .have hi:i<u.length:=by simp only[Z4]at h2;omega
  conv=>whnf
  refine⟨⟨O,O⟩,fun(x:Int)hx=>?_⟩;have hx:u[i]? =some x:=by simpa using hx
  have hxb:=hb3 x (qG hx);have hF:A[i]? =some (zeu u (n % 32) i):=by rw[<-hA];simp[zbi,hi]
  have hstep:A.take i++ [zeu u (n % 32) i]=A.take (i+1):=by rw[v9,hF];rfl
  have hlen:(A.take i).length =i:=by rw[vk];omega
  conv=>whnf
  refine brI (fun h3=>?_) (fun h3=>?_)
  .have h3:i+1<u.length:=by
    have h3:decide (vR.wrap ((i:Int)+1)<(u.length:Int))=true:=h3;rw[wI O]at h3;simp only[Z4]at h3;omega
   conv=>whnf
   rw[wI (x:=(i:Int)+1) O];refine⟨⟨O,O⟩,fun(y:Int)hy=>?_⟩;have hy:u[i+1]? =some y:=by
    have hy:u[((i:Int)+1).toNat]? =some y:=hy;rw[show((i:Int)+1).toNat =i+1 by omega]at hy;exact hy
   have hyb:=hb3 y (qG hy);have hor:=zsy hxb hyb;conv=>whnf
   rw[wU (x:=x) O,wU (x:=y) O];refine⟨O,?_⟩;conv=>whnf
   refine⟨O,?_⟩;conv=>whnf
   rw[hrem];refine⟨O,?_⟩;conv=>whnf
   refine⟨by rw[hlen];simp;omega,?_⟩;conv=>whnf
   refine⟨i+1,O,by show u.length-(i+1)<u.length-i;omega,?_⟩
   ((conv=>whnf);refine qE ?_ ?_;repeat' first|refine lc ?_ ?_|refine lh1 ?_ ?_|refine bc0 ?_|exact KXZ|refine lg0 ?_|refine lt0 ?_)
   .exact ai0 (by rw[wI O];omega)
   .exact bb0 (by
     rw[<-hstep];show A.take i++ [_]=_
     congr 2
     rw[zeu,hx,hy];show _=(x+y*4294967296)/2^(n % 32) % 4294967296;rw[<-hfin _ O,<-hor];rfl)
  .have h3:¬i+1<u.length:=by
    have h3:decide (vR.wrap ((i:Int)+1)<(u.length:Int))=false:=h3;rw[wI O]at h3;simp only[Z5]at h3;omega
   have hy:u[i+1]? =none:=qH O;conv=>whnf
   rw[wU (x:=x) O];refine⟨O,?_⟩;conv=>whnf
   rw[hrem];refine⟨O,?_⟩;conv=>whnf
   refine⟨by rw[hlen];simp;omega,?_⟩;conv=>whnf
   refine⟨i+1,O,by show u.length-(i+1)<u.length-i;omega,?_⟩
   ((conv=>whnf);refine qE ?_ ?_;repeat' first|refine lc ?_ ?_|refine lh1 ?_ ?_|refine bc0 ?_|exact KXZ|refine lg0 ?_|refine lt0 ?_)
   .exact ai0 (by rw[wI O];omega)
   .exact bb0 (by
     rw[<-hstep];show A.take i++ [_]=_
     congr 2
     rw[zeu,hx,hy];show _=(x+0*4294967296)/2^(n % 32) % 4294967296;rw[Int.zero_mul,vJ,<-hfin _ O];rfl)
 .have hi:i=u.length:=by simp only[Z5]at h2;omega
  subst hi;rw[qA O];conv=>whnf
  refine gYn h326 ?_;exact⟨lr rfl,lh0⟩
theorem bitR{y r:Nat}(hy:y<4294967296)(hr:r<32):vS.wrap ((q4 vS.bits ((y:Int).fdiv (2^min ((r:Nat):Int).toNat vS.bits))&&& q4 vS.bits 1).toNat :Int)=((y/2^r % 2:Nat):Int):=by
 have e0:(y:Int).fdiv (2^min ((r:Nat):Int).toNat 32)=((y/2^r:Nat):Int):=by
  rw[q0,vy O,qB _ (Int.le_of_lt (v3 OA))];simp
 have hd:y/2^r<4294967296:=Nat.lt_of_le_of_lt (ws _ _) hy;have e1:(q4 32 ((y/2^r:Nat):Int)).toNat =y/2^r:=by rw[w6,wA];exact w9 hd
 have e2:(q4 32 1).toNat =2^1-1:=OA;show vS.wrap ((q4 32 ((y:Int).fdiv (2^min ((r:Nat):Int).toNat 32))&&& q4 32 1).toNat :Int)=_;rw[e0,wF,e1,e2,qU,zp7 O]
theorem zfc(x k:Nat)(hk:k<(toL x).length):(toL x)[k]? =some ((x/2^(32*k) % 4294967296:Nat):Int):=by
 have h1:=zdp k (toL x) (zk x);rw[zg]at h1;have hb:LB ((toL x).drop k):=fun z hz=>zk x z (wM hz)
 obtain⟨z,w,h2,h3,h4⟩:=zpb _ hb;rw[w5,we]at h3;rw[h1]at h4;have h5:(toL x)[k]? =some (toL x)[k]:=q3 hk;rw[h5]at h3⊢;simp only[qC]at h3;rw[h3]
 congr 2
 omega
theorem zy6(x n:Nat):(x/2^(32*(n/32)) % 4294967296)/2^(n % 32) % 2=x/2^n % 2:=by
 have h1:(x/2^(32*(n/32)) % 2^32).testBit (n % 32)=x.testBit n:=by
  rw[Nat.testBit_mod_two_pow,Nat.testBit_div_two_pow];rw[(O:n % 32+32*(n/32)=n)];simp[w3]
 rw[wB,wB]at h1;have h2:=decide_eq_decide.1 h1;have e:(2:Nat)^32=4294967296:=OA;rw[e]at h2;omega
theorem zx6{x n:Nat}(hx:x≠0)(hn:n<=tz x):x/2^n % 2=0<->n<tz x:=by
 obtain⟨m,h1,h2⟩:=kq hx;have e:x/2^n=2^(tz x-n)*m:=by
  have h3:x=2^n*(2^(tz x-n)*m):=by rw[<-qL,<-qN,Nat.add_sub_cancel' hn];exact h1
  exact qK (qD n) h3
 rw[e];constructor
 .intro h;by_cases h4:n<tz x
  .exact h4
  .rw[(O:tz x-n=0)]at h;simp at h;omega
 .intro h;obtain⟨d,hd⟩:∃d,tz x-n=d+1:=⟨tz x-n-1,O⟩;rw[hd,qS,qY (2^d),qL];omega
theorem zrb{x:Nat}(hx:x≠0):tz x/32<(toL x).length :=by
 obtain⟨m,h1,h2⟩:=kq hx;have h3:2^tz x<=x:=by
  conv=>rhs;rw[h1]
  exact wW _ O
 have h4:¬(toL x).length <=tz x/32:=by
  rw[qd];intro h;have h5:2^(32*(tz x/32))<=2^tz x:=w8 OA O;omega
 omega
theorem r327(x:Nat)(hx:x≠0)(hl:(toL x).length <=100000):Fn 159 [] [.sl .u32 (toL x)] (.int .i64 (tz x:Nat)) []:=by
 have htl:=zrb hx;refine fY6 Tryz.func159 rfl ?_;refine⟨Nat,fun n=>n<=tz x,fun n=> [(3,.int .i64 n)],fun _=> [],fun n=>tz x-n,0,OC,?_,fun n hn=>?_⟩
 .exact KZ0
 have hn:n<=tz x:=hn;have hnl:n/32<(toL x).length :=O;have hq:vR.wrap ((n:Int).tdiv 32)=((n/32:Nat):Int):=by
  rw[show(n:Int).tdiv 32=((n/32:Nat):Int)from w7 n 32,wI O]
 have h9:(n:Int).tmod 32=((n % 32:Nat):Int):=w4 n 32;have hrem:vQ.wrap ((n:Int).tmod 32)=((n % 32:Nat):Int):=by rw[h9,wU O]
 have hat:=zfc x _ hnl;have hbt:=zy6 x n;have htz:=zx6 hx hn;obtain⟨Y,hY⟩:∃Y,x/2^(32*(n/32)) % 4294967296=Y:=⟨_,rfl⟩;rw[hY]at hat hbt;have hYl:Y<4294967296:=O;have hbr:=bitR hYl (r:=n % 32) O;rw[hbt]at hbr;generalize toL x=t at*;refine⟨Z,?_⟩;conv=>whnf
 refine⟨O,?_⟩;conv=>whnf
 rw[hq];refine⟨⟨O,O⟩,fun(y:Int)hy=>?_⟩;have hy:t[n/32]? =some y:=by
  have hy:t[((n/32:Nat):Int).toNat]? =some y:=hy
  rwa [q0]at hy
 rw[hat]at hy;cases hy
 conv=>whnf
 refine⟨O,?_⟩;conv=>whnf
 rw[hrem];refine⟨O,?_⟩;conv=>whnf
 rw[hbr];refine brI (fun h=>?_) (fun h=>?_)
 .have h:x/2^n % 2=0:=by
   have h:(((x/2^n % 2:Nat):Int)==0)=true:=h;rw[beq_iff_eq]at h;omega
  have h:=htz.1 h;conv=>whnf
  refine⟨n+1,h,by show tz x-(n+1)<tz x-n;omega,?_⟩;exact KZ0
 .have h:¬x/2^n % 2=0:=by
   have h:(((x/2^n % 2:Nat):Int)==0)=false:=h;rw[beq_eq_false_iff_ne]at h;omega
  have hne:n=tz x:=by
   have:=mt htz.2 h;omega
  conv=>whnf
  exact⟨ai0 (by rw[hne]),lh0⟩
theorem zfq{l:List Int}(hb:LB l):(toL (val l)).length <=l.length:=(qd _ _).2 (zc1 hb)
theorem zyf(neg:Bool){l:List Int}(hb:LB l)(hl:l.length<=100000)(e:Int)(he: -1000000000<=e/\e<=1000000000):Fn 85 [] [.bool neg,.sl .u32 l,.int .i64 e] (.agg (dyC (cnN neg (val l) e))) []:=by
 have h326:=qcr hb O;have hll:(toL (val l)).length <=100000:=w2 (zfq hb) hl;generalize val l=x at h326 hll⊢;by_cases hx:x=0
 .subst hx;refine fY6 Tryz.func85 rfl ?_;refine gYn h326 ?_;exact⟨lg0 (lc (lr rfl) (lc (li0 rfl) (lc (lr rfl) ln0))),lh0⟩
 have h327:=r327 x hx hll;have h328:=r328 x (tz x) hll (by have:=zrb hx;omega);have htl:=zrb hx;have hne:(toL x).length ≠0:=by rw[Ne,wv];exact hx
 have hc:cnN neg x e=⟨neg,toL (x/2^tz x),e+tz x⟩:=by unfold cnN;rw[Z7 hx]
 rw[hc];generalize toL (x/2^tz x)=R at*;generalize tz x=z at*;generalize toL x=t at*;refine fY6 Tryz.func85 rfl ?_;refine gYn h326 ?_;refine brI (fun h=>?_) (fun h=>?_)
 .have h:((t.length:Int)==0)=true:=h;rw[beq_iff_eq]at h;omega
 conv=>whnf
 refine gYn h327 ?_;refine gYn h328 ?_;exact⟨lg0 (lc (lr rfl) (lc (lr rfl) (lc (ai0 (by rw[wI O])) ln0))),lh0⟩
theorem zwc(B p vo c va vb x y:Nat)(h:vo+p*c=va+vb):vo+p*((c+x+y) % B)+p*B*((c+x+y)/B)=va+p*x+(vb+p*y):=by
 have h1:=qM (c+x+y) B;have h2:p*((c+x+y) % B)+p*B*((c+x+y)/B)=p*(c+x+y):=by
  conv=>rhs;rw[<-h1]
  rw[qO,qL];omega
 rw[qO,qO]at h2;omega
theorem zlj(B p vo br va vb x y:Nat)(hB:0<B)(hy:br+y<=x+B)(h1:x<B)(hbr:br<=1)(h:va+p*br=vo+vb):
 va+p*x+p*B*(1-(x+B-(br+y))/B)=vo+p*((x+B-(br+y)) % B)+(vb+p*y):=by
 have e:=qM (x+B-(br+y)) B;have hq:(x+B-(br+y))/B<=1:=by
  have:(x+B-(br+y))/B<2:=(wZ hB).2 O;omega
 generalize (x+B-(br+y))/B=q at*;generalize hm:(x+B-(br+y)) % B=m at*;have k:p*x+p*B*(1-q)+p*br=p*m+p*y+(p*br+p*br):=by
  obtain rfl|rfl:q=0\/q=1:=O
  .have:x+B=m+y+br:=by simp at e;omega
   have:=congrArg (fun z=>p*z) this;simp only[qO]at this;simp only[Nat.sub_zero,wN];omega
  .have:x=m+y+br:=by simp at e;omega
   have:=congrArg (fun z=>p*z) this;simp only[qO]at this;simp only[Nat.sub_self,vc];omega
 omega
theorem jo{l:List Int}{i:Nat}:val (l.take (i+1))=val (l.take i)+4294967296^i*(l[i]?.getD 0).toNat :=by
 by_cases h:i<l.length
 .exact jd l h
 .rw[qA O,qA O,qH O];simp
theorem LB.snoc{l:List Int}(h:LB l){x:Int}(hx:0<=x/\x<4294967296):LB (l++ [x]):=fun y hy=>by
 rcases List.mem_append.1 hy with hy|hy
 .exact h y hy
 .have:y=x:=by simpa using hy
  rw[this];exact hx
theorem zjd(l:List Int)(x:Int):val (l++ [x])=val l+4294967296^l.length*x.toNat:=by rw[zc6];simp[val]
structure PlI(a b:List Int)(i:Nat)(out:List Int)(c:Nat):Prop where
 len:out.length=i
 lb:LB out
 c1:c<=1
 val:val out+4294967296^i*c=val (a.take i)+val (b.take i)
theorem PlI.step{a b:List Int}{i:Nat}{out:List Int}{c:Nat}(h:PlI a b i out c){x y:Nat}(hx:(a[i]?.getD 0).toNat =x)(hy:(b[i]?.getD 0).toNat =y)(hxl:x<4294967296)(hyl:y<4294967296):
 PlI a b (i+1) (out++ [(((c+x+y) % 4294967296:Nat):Int)]) ((c+x+y)/4294967296):=by
 obtain⟨h1,h2,h3,h4⟩:=h;refine⟨by simp[h1],h2.snoc O,O,?_⟩;rw[zjd,jo,jo,hx,hy,h1,q0,qS];exact zwc 4294967296 (4294967296^i) _ c _ _ x y h4
theorem zmj{a:List Int}(h:LB a)(i:Nat):(a[i]?.getD 0).toNat <4294967296:=by
 have:=h.at i;omega
theorem r297{a b:List Int}(ha:LB a)(hb:LB b)(hal:a.length<=100000)(hbl:b.length<=100000):Fn 155 [] [.sl .u32 a,.sl .u32 b] (.sl .u32 (toL (val a+val b))) []:=by
 refine fY6 Tryz.func155 rfl ?_;refine⟨Nat×List Int×Nat,fun x=>x.1<=max a.length b.length/\PlI a b x.1 x.2.1 x.2.2,fun x=> [(7,.int .i64 x.1),(5,.own 49),(6,.int .u64 x.2.2)],fun x=> [(49,.buf 101 .u32 x.2.1)],fun x=>max a.length b.length-x.1,(0,[],0),⟨OC,⟨rfl,(fun x hx=>by cases hx),OC,by simp[val]⟩⟩,?_,fun x hx=>?_⟩
 .exact KZ0
 obtain⟨i,out,c⟩:=x;obtain⟨hi,hp⟩:=hx;simp only at hi hp;have hol:=hp.len;have hc:=hp.c1;have hst:=hp.step rfl rfl (zmj ha i) (zmj hb i);have e2:∀s:Nat,((s:Nat):Int).fdiv 4294967296=((s/4294967296:Nat):Int):=fun s=>by rw[qB _ OA];simp
 have e3:∀s:Nat,s<18446744073709551616->vS.wrap (vQ.wrap ((q4 vQ.bits (s:Int)&&& q4 vQ.bits 4294967295).toNat :Int))=((s % 4294967296:Nat):Int):=fun s hs=>by
  rw[zen _ O];simp[vU,vT,vV]
 refine gYe ?_;refine brI (fun h1=>?_) (fun h1=>?_)
 .have h1:i<a.length:=by simp only[Z4]at h1;omega
  have hxa:a[i]? =some a[i]:=q3 h1;have hba:=ha _ (qI h1);generalize a[i]=xa at hxa hba;rw[hxa]at hst;simp only[qC]at hst;conv=>whnf
  refine brI (fun h2=>?_) (fun h2=>?_)
  rotate_left
  .have h2:=Z3 h2;omega
  conv=>whnf
  refine⟨⟨O,O⟩,fun(z:Int)hz=>?_⟩;have hz:a[i]? =some z:=by simpa using hz
  rw[hxa]at hz;cases hz
  conv=>whnf
  refine brI (fun h3=>?_) (fun h3=>?_)
  .have h3:i<b.length:=by simp only[Z4]at h3;omega
   have hxb:b[i]? =some b[i]:=q3 h3;have hbb:=hb _ (qI h3);generalize b[i]=xb at hxb hbb;rw[hxb]at hst;simp only[qC]at hst;have es:vQ.wrap (vQ.wrap ((c:Int)+vQ.wrap xa)+vQ.wrap xb)=((c+xa.toNat+xb.toNat:Nat):Int):=by
    rw[wU (x:=xa) O,wU (x:=xb) O,wU (x:=(c:Int)+xa) O,wU O];omega
   conv=>whnf
   refine⟨⟨O,O⟩,fun(z:Int)hz=>?_⟩;have hz:b[i]? =some z:=by simpa using hz
   rw[hxb]at hz;cases hz
   conv=>whnf
   refine⟨OE,?_⟩;conv=>whnf
   refine⟨OA,?_⟩;conv=>whnf
   refine⟨(i+1,out++ [(((c+xa.toNat+xb.toNat) % 4294967296:Nat):Int)],(c+xa.toNat+xb.toNat)/4294967296),⟨OD,hst⟩,by show max a.length b.length-(i+1)<max a.length b.length-i;omega,?_⟩
   ((conv=>whnf);refine qE ?_ ?_;repeat' first|refine lc ?_ ?_|refine lh1 ?_ ?_|refine bc0 ?_|exact KXZ|refine lg0 ?_|refine lt0 ?_)
   .exact ai0 ((congrArg (fun z:Int=>z.fdiv 4294967296) es).trans (e2 _))
   .exact ai0 (by rw[wI OD];simp only;omega)
   .exact bb0 (by
     show out++ [_]=out++ [_];rw[<-e3 _ O,<-es])
  .have h3:¬i<b.length:=by simp only[Z5]at h3;omega
   have hxb:b[i]? =none:=qH O;rw[hxb]at hst;simp only[wH,wC,we]at hst;have es:vQ.wrap ((c:Int)+vQ.wrap xa)=((c+xa.toNat:Nat):Int):=by
    rw[wU (x:=xa) O,wU O];omega
   conv=>whnf
   refine⟨OE,?_⟩;conv=>whnf
   refine⟨OA,?_⟩;conv=>whnf
   refine⟨(i+1,out++ [(((c+xa.toNat) % 4294967296:Nat):Int)],(c+xa.toNat)/4294967296),⟨OD,hst⟩,by show max a.length b.length-(i+1)<max a.length b.length-i;omega,?_⟩
   ((conv=>whnf);refine qE ?_ ?_;repeat' first|refine lc ?_ ?_|refine lh1 ?_ ?_|refine bc0 ?_|exact KXZ|refine lg0 ?_|refine lt0 ?_)
   .exact ai0 ((congrArg (fun z:Int=>z.fdiv 4294967296) es).trans (e2 _))
   .exact ai0 (by rw[wI OD];simp only;omega)
   .exact bb0 (by
     show out++ [_]=out++ [_];rw[<-e3 _ O,<-es])
 .have h1:¬i<a.length:=by simp only[Z5]at h1;omega
  have hxa:a[i]? =none:=qH O;rw[hxa]at hst;simp only[wH,wC,we]at hst;conv=>whnf
  refine brI (fun h3=>?_) (fun h3=>?_)
  .have h3:i<b.length:=by simp only[Z4]at h3;omega
   have hxb:b[i]? =some b[i]:=q3 h3;have hbb:=hb _ (qI h3);generalize b[i]=xb at hxb hbb;rw[hxb]at hst;simp only[qC]at hst;have es:vQ.wrap ((c:Int)+vQ.wrap xb)=((c+xb.toNat:Nat):Int):=by
    rw[wU (x:=xb) O,wU O];omega
   conv=>whnf
   refine brI (fun h2=>?_) (fun h2=>?_)
   .have h2:=Z0 h2;omega
   conv=>whnf
   refine brI (fun h2=>?_) (fun h2=>?_)
   rotate_left
   .have h2:=Z3 h2;omega
   conv=>whnf
   refine⟨⟨O,O⟩,fun(z:Int)hz=>?_⟩;have hz:b[i]? =some z:=by simpa using hz
   rw[hxb]at hz;cases hz
   conv=>whnf
   refine⟨OE,?_⟩;conv=>whnf
   refine⟨OA,?_⟩;conv=>whnf
   refine⟨(i+1,out++ [(((c+xb.toNat) % 4294967296:Nat):Int)],(c+xb.toNat)/4294967296),⟨OD,hst⟩,by show max a.length b.length-(i+1)<max a.length b.length-i;omega,?_⟩
   ((conv=>whnf);refine qE ?_ ?_;repeat' first|refine lc ?_ ?_|refine lh1 ?_ ?_|refine bc0 ?_|exact KXZ|refine lg0 ?_|refine lt0 ?_)
   .exact ai0 ((congrArg (fun z:Int=>z.fdiv 4294967296) es).trans (e2 _))
   .exact ai0 (by rw[wI OD];simp only;omega)
   .exact bb0 (by
     show out++ [_]=out++ [_];rw[<-e3 _ O,<-es])
  .have h3:¬i<b.length:=by simp only[Z5]at h3;omega
   have hv:=hp.val;rw[qA O,qA O]at hv;have hv:val (out++ [(c:Int)])=val a+val b:=by rw[zjd,hol,q0];exact hv
   have h326:=qcr (hp.lb.snoc (x:=(c:Int)) O) OE;rw[hv]at h326;have ec:vS.wrap (c:Int)=c:=zp7 O;conv=>whnf
   refine⟨OE,?_⟩;conv=>whnf
   rw[ec];refine gYn h326 ?_;exact⟨lr rfl,lh0⟩
structure MiI(a b:List Int)(i:Nat)(out:List Int)(c:Nat):Prop where
 len:out.length=i
 lb:LB out
 c1:c<=1
 sum:val (a.take i)+4294967296^i*c=val out+val (b.take i)
theorem MiI.step{a b:List Int}{i:Nat}{out:List Int}{c:Nat}(h:MiI a b i out c){x y:Nat}(hx:(a[i]?.getD 0).toNat =x)(hy:(b[i]?.getD 0).toNat =y)(hxl:x<4294967296)(hyl:y<4294967296):
 MiI a b (i+1) (out++ [(((x+4294967296-(c+y)) % 4294967296:Nat):Int)]) (1-(x+4294967296-(c+y))/4294967296):=by
 obtain⟨h1,h2,h3,h4⟩:=h;refine⟨by simp[h1],h2.snoc O,O,?_⟩;rw[zjd,jo,jo,hx,hy,h1,q0,qS];exact zlj 4294967296 (4294967296^i) _ c _ _ x y OA O hxl h3 h4
theorem MiI.fin{a b:List Int}{out:List Int}{c:Nat}(h:MiI a b a.length out c)(hl:b.length<=a.length)(hv:val b<=val a):val out=val a-val b:=by
 obtain⟨h1,h2,h3,h4⟩:=h;rw[qV,qA hl]at h4;have h5:=kc h2 a.length O;rw[qA O]at h5;obtain rfl|rfl:c=0\/c=1:=O
 .simp at h4;omega
 .rw[wN]at h4;omega
theorem r298{a b:List Int}(ha:LB a)(hb:LB b)(hal:a.length<=100000)(hl:b.length<=a.length)(hv:val b<=val a):Fn 157 [] [.sl .u32 a,.sl .u32 b] (.sl .u32 (toL (val a-val b))) []:=by
 refine fY6 Tryz.func157 rfl ?_;refine⟨Nat×List Int×Nat,fun x=>x.1<=a.length/\MiI a b x.1 x.2.1 x.2.2,fun x=> [(7,.int .i64 x.1),(5,.own 41),(6,.int .u64 x.2.2)],fun x=> [(41,.buf 101 .u32 x.2.1)],fun x=>a.length-x.1,(0,[],0),⟨OC,⟨rfl,(fun x hx=>by cases hx),OC,by simp[val]⟩⟩,?_,fun x hx=>?_⟩
 .exact KZ0
 obtain⟨i,out,c⟩:=x;obtain⟨hi,hp⟩:=hx;simp only at hi hp;have hol:=hp.len;have hc:=hp.c1;have hst:=hp.step rfl rfl (zmj ha i) (zmj hb i);have e2:∀s:Nat,((s:Nat):Int).fdiv 4294967296=((s/4294967296:Nat):Int):=fun s=>by rw[qB _ OA];simp
 have e3:∀s:Nat,s<18446744073709551616->vS.wrap (vQ.wrap ((q4 vQ.bits (s:Int)&&& q4 vQ.bits 4294967295).toNat :Int))=((s % 4294967296:Nat):Int):=fun s hs=>by
  rw[zen _ O];simp[vU,vT,vV]
 have e4:∀s:Nat,s<8589934592->vQ.wrap (1-((s:Nat):Int).fdiv 4294967296)=((1-s/4294967296:Nat):Int):=fun s hs=>by
  rw[e2,wU O];omega
 refine gYe ?_;refine brI (fun h1=>?_) (fun h1=>?_)
 .have h1:i<a.length:=by simp only[Z4]at h1;omega
  have hxa:a[i]? =some a[i]:=q3 h1;have hba:=ha _ (qI h1);generalize a[i]=xa at hxa hba;rw[hxa]at hst;simp only[qC]at hst;conv=>whnf
  refine brI (fun h3=>?_) (fun h3=>?_)
  .have h3:i<b.length:=by simp only[Z4]at h3;omega
   have hxb:b[i]? =some b[i]:=q3 h3;have hbb:=hb _ (qI h3);generalize b[i]=xb at hxb hbb;rw[hxb]at hst;simp only[qC]at hst;have es:vQ.wrap (vQ.wrap (vQ.wrap xa+4294967296)-vQ.wrap ((c:Int)+vQ.wrap xb))=((xa.toNat+4294967296-(c+xb.toNat):Nat):Int):=by
    rw[wU (x:=xa) O,wU (x:=xb) O,wU (x:=(c:Int)+xb) O,wU (x:=xa+4294967296) O,wU O];omega
   conv=>whnf
   refine⟨⟨O,O⟩,fun(z:Int)hz=>?_⟩;have hz:b[i]? =some z:=by simpa using hz
   rw[hxb]at hz;cases hz
   conv=>whnf
   refine⟨⟨O,O⟩,fun(z:Int)hz=>?_⟩;have hz:a[i]? =some z:=by simpa using hz
   rw[hxa]at hz;cases hz
   conv=>whnf
   refine⟨OE,?_⟩;conv=>whnf
   refine⟨OA,?_⟩;conv=>whnf
   refine⟨(i+1,out++ [(((xa.toNat+4294967296-(c+xb.toNat)) % 4294967296:Nat):Int)],1-(xa.toNat+4294967296-(c+xb.toNat))/4294967296),⟨OD,hst⟩,by show a.length-(i+1)<a.length-i;omega,?_⟩
   ((conv=>whnf);refine qE ?_ ?_;repeat' first|refine lc ?_ ?_|refine lh1 ?_ ?_|refine bc0 ?_|exact KXZ|refine lg0 ?_|refine lt0 ?_)
   .exact ai0 ((congrArg (fun z:Int=>vQ.wrap (1-z.fdiv 4294967296)) es).trans (e4 _ O))
   .exact ai0 (by rw[wI OD];simp only;omega)
   .exact bb0 (by
     show out++ [_]=out++ [_];rw[<-e3 _ O,<-es])
  .have h3:¬i<b.length:=by simp only[Z5]at h3;omega
   have hxb:b[i]? =none:=qH O;rw[hxb]at hst;simp only[wH,wC,we]at hst;have es:vQ.wrap (vQ.wrap (vQ.wrap xa+4294967296)-(c:Int))=((xa.toNat+4294967296-c:Nat):Int):=by
    rw[wU (x:=xa) O,wU (x:=xa+4294967296) O,wU O];omega
   conv=>whnf
   refine⟨⟨O,O⟩,fun(z:Int)hz=>?_⟩;have hz:a[i]? =some z:=by simpa using hz
   rw[hxa]at hz;cases hz
   conv=>whnf
   refine⟨OE,?_⟩;conv=>whnf
   refine⟨OA,?_⟩;conv=>whnf
   refine⟨(i+1,out++ [(((xa.toNat+4294967296-c) % 4294967296:Nat):Int)],1-(xa.toNat+4294967296-c)/4294967296),⟨OD,hst⟩,by show a.length-(i+1)<a.length-i;omega,?_⟩
   ((conv=>whnf);refine qE ?_ ?_;repeat' first|refine lc ?_ ?_|refine lh1 ?_ ?_|refine bc0 ?_|exact KXZ|refine lg0 ?_|refine lt0 ?_)
   .exact ai0 ((congrArg (fun z:Int=>vQ.wrap (1-z.fdiv 4294967296)) es).trans (e4 _ O))
   .exact ai0 (by rw[wI OD];simp only;omega)
   .exact bb0 (by
     show out++ [_]=out++ [_];rw[<-e3 _ O,<-es])
 .have h1:i=a.length:=by simp only[Z5]at h1;omega
  subst h1;have hf:=hp.fin hl hv;have h326:=qcr hp.lb O;rw[hf]at h326;conv=>whnf
  refine gYn h326 ?_;exact⟨lr rfl,lh0⟩
theorem zk3{l:List Int}{i:Nat}(hi:i<l.length)(h:l[i]?.getD 0=0):l.set i 0=l:=by
 apply List.ext_getElem?;intro j;by_cases e:i=j
 .subst e;rw[wD hi,q3 hi];rw[q3 hi]at h;simp only[qC]at h;rw[h]
 .rw[qP e]
theorem zlh(x:Int):∀(b:List Int)(p:Nat)(out:List Int)(c:Int)(j:Nat),p+b.length<=j->(zfn x b p out c).1[j]? =out[j]?
 | [],_,_,_,_,_=>rfl
 |y::b,p,out,c,j,h=>by
  rw[wG]at h;rw[zfn,zlh x b _ _ _ j O,qP O]
theorem r330(x y:Nat)(hal:(toL x).length <=100000)(hbl:(toL y).length <=100000):Fn 294 [] [.sl .u32 (toL x),.sl .u32 (toL y)] (.sl .u32 (toL (x*y))) []:=by
 have ha:=zk x;have hb:=zk y;have hsp:=zdz (toL y) hb (toL x) 0 (qF ((toL x).length +(toL y).length +1) 0) ha (fun z hz=>by have:=qW hz;omega) OC (fun j _=>by
  rw[qQ];split<;>rfl)
 rw[zad,zg,zg]at hsp;have hml:=zfx (toL y) (toL x) 0 (qF ((toL x).length +(toL y).length +1) 0);generalize toL x=a at*;generalize toL y=b at*;obtain⟨A,hA⟩:∃A,zj2 b a 0 (qF (a.length+b.length+1) 0)=A:=⟨_,rfl⟩;rw[hA]at hsp hml;have hAv:val A=x*y:=by have:=hsp.1;simpa using this
 have h326:=qcr hsp.2 (by rw[hml];simp;omega);rw[hAv]at h326;clear hsp hAv hml;generalize toL (x*y)=R at h326⊢;refine fY6 Tryz.func294 rfl ?_;rw[wI (x:=(a.length:Int)+(b.length:Int)) O,wI (x:=(a.length:Int)+(b.length:Int)+1) O];refine⟨⟨O,O,O⟩,?_⟩;conv=>whnf
 refine⟨Nat×List Int,fun x=>x.1<=a.length/\LB x.2/\x.2.length=a.length+b.length+1/\zj2 b (a.drop x.1) x.1 x.2=A/\(∀j,x.1+b.length<=j->x.2[j]?.getD 0=0),fun x=> [(6,.int .i64 x.1)],fun x=> [(18,.buf 101 .u32 x.2)],fun x=>a.length-x.1,(0,qF (a.length+b.length+1) 0),⟨OC,(fun x hx=>by rw[qW hx];omega),OC,by simpa using hA,fun j _=>by
  rw[qQ];split<;>rfl⟩,?_,fun x hx=>?_⟩
 .exact KZ0
 refine gYe ?_;obtain⟨i,out⟩:=x;obtain⟨hi1,hi2,hi3,hi4,hi5⟩:=hx;simp only at hi1 hi2 hi3 hi4 hi5;refine brI (fun h1=>?_) (fun h1=>?_)
 .have hi:i<a.length:=by simp only[Z4]at h1;omega
  have hxa:a[i]? =some a[i]:=q3 hi;have hxb:=ha _ (qI hi);generalize a[i]=x at hxa hxb;rw[qh hxa]at hi4;simp only[zj2]at hi4;conv=>whnf
  refine⟨Nat×List Int×Int,fun z=>z.1<=b.length/\LB z.2.1/\z.2.1.length=a.length+b.length+1/\(0<=z.2.2/\z.2.2<4294967296)/\zfn x (b.drop z.1) (i+z.1) z.2.1 z.2.2=zfn x b i out 0,fun z=> [(8,.int .i64 z.1),(7,.int .u64 z.2.2)],fun z=> [(18,.buf 101 .u32 z.2.1)],fun z=>b.length-z.1,(0,out,0),⟨OC,hi2,hi3,OC,OC⟩,?_,fun z hz=>?_⟩
  .exact KZ0
  refine gYe ?_;obtain⟨k,o2,c⟩:=z;obtain⟨hk1,hk2,hk3,hk4,hk5⟩:=hz;simp only at hk1 hk2 hk3 hk4 hk5;refine brI (fun h2=>?_) (fun h2=>?_)
  .have hk:k<b.length:=by simp only[Z4]at h2;omega
   conv=>whnf
   refine⟨⟨O,OD⟩,fun(z:Int)hz=>?_⟩;have hz:a[i]? =some z:=by simpa using hz
   rw[hxa]at hz;cases hz
   conv=>whnf
   refine⟨⟨O,OD⟩,fun(y:Int)hy=>?_⟩;have hy:b[k]? =some y:=by simpa using hy
   have hyb:=hb y (qG hy);rw[qh hy]at hk5;simp only[zfn]at hk5;have hob:=hk2.at (i+k);have hbd:=zs9 hxb hyb hob hk4;have hik:vR.wrap ((i:Int)+(k:Int))=((i+k:Nat):Int):=by rw[wI O];omega
   conv=>whnf
   refine⟨⟨by show 0<=vR.wrap ((i:Int)+(k:Int));rw[hik];omega,by show vR.wrap ((i:Int)+(k:Int))<(o2.length:Int);rw[hik];omega⟩,?_⟩;conv=>whnf
   refine⟨by show(vR.wrap ((i:Int)+(k:Int))).toNat <o2.length;rw[hik];omega,fun(o:Int)ho=>?_⟩;have ho:o2[i+k]? =some o:=by
    have ho:o2[(vR.wrap ((i:Int)+(k:Int))).toNat]? =some o:=ho;rw[hik,show(((i+k:Nat):Int)).toNat =i+k by omega]at ho;exact ho
   rw[ho]at hob hbd hk5;simp only[qC]at hob hbd hk5;have hsum:vQ.wrap (vQ.wrap (vQ.wrap (vQ.wrap x*vQ.wrap y)+vQ.wrap o)+c)=x*y+o+c:=by
    rw[wU (x:=x) O,wU (x:=y) O,wU (x:=o) O,wU (x:=x*y) O,wU (x:=x*y+o) O,wU O]
   obtain⟨s,hs⟩:∃s,x*y+o+c=s:=⟨_,rfl⟩;rw[hs]at hbd hk5 hsum;conv=>whnf
   refine gYd ?_;refine⟨⟨by show 0<=vR.wrap ((i:Int)+(k:Int));rw[hik];omega,by show vR.wrap ((i:Int)+(k:Int))<(o2.length:Int);rw[hik];omega⟩,?_⟩;conv=>whnf
   refine⟨by show(vR.wrap ((i:Int)+(k:Int))).toNat <o2.length;rw[hik];omega,?_⟩;conv=>whnf
   refine⟨O,?_⟩;conv=>whnf
   have e1:vS.wrap (s % 4294967296)=s % 4294967296:=by simp[vU,vT,vV]
   have e2:s.fdiv 4294967296=s/4294967296:=qB _ OA;have e3:=zen s O;refine⟨(k+1,o2.set (i+k) (s % 4294967296),s/4294967296),⟨OD,hk2.set O,by simp only[qT];exact hk3,⟨OD,OD⟩,hk5⟩,by show b.length-(k+1)<b.length-k;omega,?_⟩
   ((conv=>whnf);refine qE ?_ ?_;repeat' first|refine lc ?_ ?_|refine lh1 ?_ ?_|refine bc0 ?_|exact KXZ|refine lg0 ?_|refine lt0 ?_)
   .exact ai0 ((congrArg (fun z:Int=>z.fdiv 4294967296) hsum).trans e2)
   .exact ai0 (by rw[wI OD];simp only;omega)
   .exact bb0 (by
     show qZ o2 (vR.wrap ((i:Int)+(k:Int))).toNat (vS.wrap _)=o2.set (i+k) (s % 4294967296);rw[hik,show(((i+k:Nat):Int)).toNat =i+k by omega,<-e1,<-e3,<-hsum])
  .have hk:k=b.length:=by simp only[Z5]at h2;omega
   subst hk;rw[qR O]at hk5;simp only[zfn]at hk5;have hkp:∀j,i+b.length<=j->o2[j]?.getD 0=0:=fun j hj=>by
    have:=zlh x b i out 0 j hj;rw[<-hk5]at this;simp only at this;rw[this];exact hi5 j hj
   rw[<-hk5]at hi4;simp only at hi4;have hik:vR.wrap ((i:Int)+(b.length:Int))=((i+b.length:Nat):Int):=by rw[wI O];omega
   have hnx:∀j,i+1+b.length<=j->(o2.set (i+b.length) c)[j]?.getD 0=0:=fun j hj=>by
    rw[qP O];exact hkp j O
   conv=>whnf
   rw[hik];refine⟨Bool,fun _=>True,fun z=> [(10,.int .i64 (bif z then((i+b.length:Nat):Int)+1 else((i+b.length:Nat):Int))),(7,.int .u64 (bif z then 0 else c))],fun z=> [(18,.buf 101 .u32 (bif z then o2.set (i+b.length) c else o2))],fun z=>bif z then 0 else 1,false,trivial,?_,fun z _=>?_⟩
   .exact KZ0
   cases z with
   |true=>
    refine gYe ?_;refine⟨(i+1,o2.set (i+b.length) c),⟨OD,hk2.set hk4,by simp only[qT];exact hk3,hi4,hnx⟩,by show a.length-(i+1)<a.length-i;omega,?_⟩;exact KZ0
   |false=>
    refine gYe ?_;refine brI (fun h3=>?_) (fun h3=>?_)
    .have h3:0<c:=by
      have h3:=Z0 h3;exact h3
     have hz:=hkp (i+b.length) (qJ _);have ho:o2[i+b.length]? =some 0:=by
      rw[q3 O]at hz⊢;simpa using hz
     conv=>whnf
     refine⟨⟨by show(0:Int)<=((i+b.length:Nat):Int);omega,by show((i+b.length:Nat):Int)<(o2.length:Int);omega⟩,?_⟩;conv=>whnf
     refine⟨by show(((i+b.length:Nat):Int)).toNat <o2.length;omega,fun(o:Int)ho2=>?_⟩;have ho2:o2[i+b.length]? =some o:=by
      have ho2:o2[(((i+b.length:Nat):Int)).toNat]? =some o:=ho2
      rwa [q0]at ho2
     rw[ho]at ho2;cases ho2
     have hsum:vQ.wrap (vQ.wrap 0+c)=c:=by rw[wU (x:=0) O,wU O];omega
     have e1:vS.wrap (c % 4294967296)=c:=by simp[vU,vT,vV];omega
     have e3:=zen c O;conv=>whnf
     refine⟨⟨by show(0:Int)<=((i+b.length:Nat):Int);omega,by show((i+b.length:Nat):Int)<(o2.length:Int);omega⟩,?_⟩;conv=>whnf
     refine⟨by show(((i+b.length:Nat):Int)).toNat <o2.length;omega,?_⟩;conv=>whnf
     refine⟨OA,?_⟩;conv=>whnf
     refine⟨true,trivial,OA,?_⟩
     ((conv=>whnf);refine qE ?_ ?_;repeat' first|refine lc ?_ ?_|refine lh1 ?_ ?_|refine bc0 ?_|exact KXZ|refine lg0 ?_|refine lt0 ?_)
     .exact ai0 (by
       show(vQ.wrap (vQ.wrap 0+c)).fdiv 4294967296=0;rw[hsum,qB _ OA];omega)
     .exact ai0 (by show vR.wrap (((i+b.length:Nat):Int)+1)=_;rw[wI O];rfl)
     .exact bb0 (by
       show qZ o2 (((i+b.length:Nat):Int)).toNat (vS.wrap (vQ.wrap ((q4 vQ.bits (vQ.wrap (vQ.wrap 0+c))&&& q4 vQ.bits 4294967295).toNat :Int)))=o2.set (i+b.length) c;rw[hsum,e3,e1,q0])
    .have h3:c=0:=by
      have h3:¬(c>0):=Z3 h3;omega
     subst h3;have hss:=zk3 O (hkp (i+b.length) (qJ _));rw[hss]at hi4 hnx;conv=>whnf
     refine⟨(i+1,o2),⟨OD,hk2,hk3,hi4,hnx⟩,by show a.length-(i+1)<a.length-i;omega,?_⟩;exact KZ0
 .have hi:i=a.length:=by simp only[Z5]at h1;omega
  subst hi;rw[qR O]at hi4;simp only[zj2]at hi4;subst hi4;conv=>whnf
  refine gYn h326 ?_;exact⟨lr rfl,lh0⟩
theorem zwa{d:Dy}(h:VD d):Fn 138 [] [.agg (dyC d)] (.agg (dyC (jp d))) []:=by
 refine VD.cases (P:=fun d=>Fn 138 [] [.agg (dyC d)] (.agg (dyC (jp d))) []) h ?_ (fun s n e hd hn _ _ _ _=>?_)
 .refine fY6 Tryz.func138 rfl ?_;exact⟨lr rfl,lh0⟩
 .have hne:jp ⟨s,toL n,e⟩=⟨!s,toL n,e⟩:=by unfold jp;rw[Z7 (by rw[yr];omega)]
  have hl:=zgf hn;rw[hne];have hl2:decide (((toL n).length :Int)>0)=true:=by
   rw[beq_eq_false_iff_ne]at hl;exact Z8 O
  generalize toL n=t at*;cases s
  .refine fY6 Tryz.func138 rfl ?_;exact⟨lg0 (lc (ab0 hl2) (lc (lr rfl) (lc (lr rfl) ln0))),lh0⟩
  .refine fY6 Tryz.func138 rfl ?_;exact⟨lr rfl,lh0⟩
theorem r252{d:Dy}(h:VD d):Fn 137 [] [.agg (dyC d)] (.int .i64 (zn d)) []:=by
 refine VD.cases (P:=fun d=>Fn 137 [] [.agg (dyC d)] (.int .i64 (zn d)) []) h ?_ (fun s n e hd hn hb h1 h2 h3=>?_)
 .refine fY6 Tryz.func137 rfl ?_;exact⟨lr rfl,lh0⟩
 .have ht:zn ⟨s,toL n,e⟩=bl n+e:=by unfold zn;rw[Z7 (by rw[yr];omega),yr]
  have hl:=zgf hn;have h250:=r250 n (by have:=(zu n 128).2 O;omega);clear hd;rw[ht];clear ht;generalize toL n=t at*;show Fn 137 [] [.agg [.bool s,.sl .u32 t,.int .i64 e]] _ [];refine fY6 Tryz.func137 rfl ?_;rw[hl];conv=>whnf
  refine gYn h250 ?_;refine gYd ?_;exact⟨ai0 (by rw[wI O]),lh0⟩
def zc7(a b:Dy):Dy:=
 if nm a=0 then b else if nm b=0 then a else
 if a.neg=b.neg then cnN a.neg (nm a*2^(a.e-min a.e b.e).toNat +nm b*2^(b.e-min a.e b.e).toNat) (min a.e b.e)
 else if nm b*2^(b.e-min a.e b.e).toNat <=nm a*2^(a.e-min a.e b.e).toNat then cnN a.neg (nm a*2^(a.e-min a.e b.e).toNat -nm b*2^(b.e-min a.e b.e).toNat) (min a.e b.e)
 else cnN b.neg (nm b*2^(b.e-min a.e b.e).toNat -nm a*2^(a.e-min a.e b.e).toNat) (min a.e b.e)
theorem zpw{x y k:Nat}(h1:bl x<=k)(h2:bl y<=k):bl (x+y)<=k+1:=by
 have c1:=vr.1 h1;have c2:=vr.1 h2;exact vr.2 (by rw[qS];omega)
theorem jq{x y k:Nat}(h:x<=y)(hy:(toL y).length <=k):(toL x).length <=k:=by
 rw[qd]at hy⊢;omega
theorem r253{a b:Dy}(ha:VD a)(hb:VD b):Fn 82 [] [.agg (dyC a),.agg (dyC b)] (.agg (dyC (zc7 a b))) []:=by
 refine VD.cases (P:=fun a=>Fn 82 [] [.agg (dyC a),.agg (dyC b)] (.agg (dyC (zc7 a b))) []) ha ?_ (fun s x e _ hx hxb h1 h2 h3=>?_)
 .rw[show zc7 d0 b=b by unfold zc7;rw[Z6 zs4]];obtain⟨t,m,f⟩:=b;refine fY6 Tryz.func82 rfl ?_;exact⟨lr rfl,lh0⟩
 refine VD.cases (P:=fun b=>Fn 82 [] [.agg (dyC ⟨s,toL x,e⟩),.agg (dyC b)] (.agg (dyC (zc7 ⟨s,toL x,e⟩ b))) []) hb ?_ (fun t y f _ hy hyb g1 g2 g3=>?_)
 .rw[show zc7 ⟨s,toL x,e⟩ d0=⟨s,toL x,e⟩ by unfold zc7;rw[Z7 (by rw[yr];omega),Z6 zs4]];have hl:=zgf hx;generalize toL x=m at*;refine fY6 Tryz.func82 rfl ?_;rw[hl];conv=>whnf
  exact⟨lr rfl,lh0⟩
 have es:zc7 ⟨s,toL x,e⟩ ⟨t,toL y,f⟩=if s=t then cnN s (x*2^(e-min e f).toNat +y*2^(f-min e f).toNat) (min e f)
  else if y*2^(f-min e f).toNat <=x*2^(e-min e f).toNat then cnN s (x*2^(e-min e f).toNat -y*2^(f-min e f).toNat) (min e f)
  else cnN t (y*2^(f-min e f).toNat -x*2^(e-min e f).toNat) (min e f):=by
  unfold zc7;rw[Z7 (by rw[yr];omega),Z7 (by rw[yr];omega),yr,yr]
 rw[es];have hlx:=zgf hx;have hly:=zgf hy;have hmin:(if f<e then f else e)=min e f:=by split<;>omega
 have k1:vR.wrap (e-min e f)=((e-min e f).toNat :Int):=by rw[wI O];omega
 have k2:vR.wrap (f-min e f)=((f-min e f).toNat :Int):=by rw[wI O];omega
 have hK1:(e-min e f).toNat <=32768:=O;have hK2:(f-min e f).toNat <=32768:=O;have q1:=r295 x (e-min e f).toNat (by have:=(zu x 128).2 O;omega) O;have q2:=r295 y (f-min e f).toNat (by have:=(zu y 128).2 O;omega) O;have b1:(toL (x*2^(e-min e f).toNat)).length <=2000:=by rw[zu,zq _ _ O];omega
 have b2:(toL (y*2^(f-min e f).toNat)).length <=2000:=by rw[zu,zq _ _ O];omega
 have hm: -16384<=min e f/\min e f<=16384:=O;generalize (e-min e f).toNat =K1 at*;generalize (f-min e f).toNat =K2 at*;generalize x*2^K1=X at*;generalize y*2^K2=Y at*;have r168':=r168 X Y O O;have p1:=r297 (zk X) (zk Y) O O;rw[zg,zg]at p1;have o1:=zyf s (zk (X+Y)) (by
  have:(toL (X+Y)).length <=2001:=by
   rw[zu]at b1 b2⊢;have:=zpw b1 b2;omega
  omega) (min e f) O
 rw[zg]at o1;have o2:=fun(h:Y<=X)=>zyf s (zk (X-Y)) (jq (O:X-Y<=X) (w2 b1 O)) (min e f) O
 have o3:=fun(h:X<=Y)=>zyf t (zk (Y-X)) (jq (O:Y-X<=Y) (w2 b2 O)) (min e f) O
 have m1:=fun(h:Y<=X)=>r298 (zk X) (zk Y) O (jq h (qJ _)) (by rw[zg,zg];exact h)
 have m2:=fun(h:X<=Y)=>r298 (zk Y) (zk X) O (jq h (qJ _)) (by rw[zg,zg];exact h)
 simp only[zg]at o2 o3 m1 m2;generalize toL (X+Y)=XP at*;generalize toL (X-Y)=XM at*;generalize toL (Y-X)=YM at*;generalize toL X=LX at*;generalize toL Y=LY at*;generalize toL x=lx at*;generalize toL y=ly at*;by_cases hst:s=t
 .subst hst;rw[Z6 rfl];generalize cnN s (X+Y) (min e f)=R at*;have hbb:(s==s)=true:=OC;show Fn 82 [] [.agg [.bool s,.sl .u32 lx,.int .i64 e],.agg [.bool s,.sl .u32 ly,.int .i64 f]] _ [];refine fY6 Tryz.func82 rfl ?_;rw[hlx];conv=>whnf
  rw[hly];conv=>whnf
  rw[hmin,k1];refine gYn q1 ?_;rw[k2];refine gYn q2 ?_;refine gYd ?_;refine brI (fun h=>?_) (fun h=>?_)
  .conv=>whnf
   refine gYn p1 ?_;refine gYn o1 ?_;refine gYd ?_;exact⟨lr rfl,lh0⟩
  .have h:(s==s)=false:=h;rw[hbb]at h;cases h
 .rw[Z7 hst];have hor:(0<=kd X Y)<->Y<=X:=by
   unfold kd;split
   .constructor
    .intro h;omega
    .intro h;omega
   .split
    .constructor
     .intro h;omega
     .intro h;omega
    .constructor
     .intro h;omega
     .intro h;omega
  have hres:∀Q:Dy,(Y<=X->Q=cnN s (X-Y) (min e f))->(¬Y<=X->Q=cnN t (Y-X) (min e f))->Fn 82 [] [.agg [.bool s,.sl .u32 lx,.int .i64 e],.agg [.bool t,.sl .u32 ly,.int .i64 f]] (.agg (dyC Q)) []:=fun Q hQ1 hQ2=>by
   generalize kd X Y=Oq at*;generalize cnN s (X-Y) (min e f)=R1 at*;generalize cnN t (Y-X) (min e f)=R2 at*;refine fY6 Tryz.func82 rfl ?_;rw[hlx];conv=>whnf
   rw[hly];conv=>whnf
   rw[hmin,k1];refine gYn q1 ?_;rw[k2];refine gYn q2 ?_;refine gYd ?_;refine brI (fun h=>?_) (fun h=>?_)
   .have h:(s==t)=true:=h;exact absurd (by simpa using h) hst
   conv=>whnf
   refine gYn r168' ?_;refine brI (fun h=>?_) (fun h=>?_)
   .have h:0<=Oq:=Z0 h;have h:=hor.1 h;rw[hQ1 h];conv=>whnf
    refine gYn (m1 h) ?_;refine gYn (o2 h) ?_;refine gYd ?_;exact⟨lr rfl,lh0⟩
   .have h:¬0<=Oq:=Z3 h;have h:=fun c=>h (hor.2 c)
    rw[hQ2 h];conv=>whnf
    refine gYn (m2 O) ?_;refine gYn (o3 O) ?_;refine gYd ?_;exact⟨lr rfl,lh0⟩
  exact hres _ (fun h=>by rw[Z6 h]) (fun h=>by rw[Z7 h])
theorem r301{a b:Dy}(ha:VD a)(hb:VD b):Fn 253 [] [.agg (dyC a),.agg (dyC b)] (.agg (dyC (cnN (a.neg != b.neg) (nm a*nm b) (a.e+b.e)))) []:=by
 have ea:=ha.exp;have eb:=hb.exp;have h1:(toL (nm a)).length <=128:=(zu _ _).2 ha.bits;have h2:(toL (nm b)).length <=128:=(zu _ _).2 hb.bits;have h330:=r330 (nm a) (nm b) O O;have h3:(toL (nm a*nm b)).length <=300:=by
  rw[zu];have:=yi (nm a) (nm b);have:=ha.bits;have:=hb.bits;omega
 have hA:toL (nm a)=a.m:=ha.eq.symm;have hB:toL (nm b)=b.m:=hb.eq.symm;rw[hA,hB]at h330;have ho:=zyf (a.neg != b.neg) (zk (nm a*nm b)) O (a.e+b.e) O;rw[zg]at ho;generalize nm a*nm b=N at*;generalize toL N=M at*;obtain⟨s,x,e⟩:=a;obtain⟨t,y,f⟩:=b;simp only at*;generalize cnN (s != t) N (e+f)=R at*;obtain⟨u,z,g⟩:=R;refine fY6 Tryz.func253 rfl ?_;refine gYn h330 ?_;rw[wI (x:=e+f) O];refine gYn ho ?_;refine gYd ?_;exact⟨lr rfl,lh0⟩
theorem and1{y:Nat}(hy:y<4294967296):vS.wrap ((q4 vS.bits (y:Int)&&& q4 vS.bits 1).toNat :Int)=((y % 2:Nat):Int):=by
 have e1:(q4 32 (y:Int)).toNat =y:=by rw[w6,wA];exact w9 hy
 have e2:(q4 32 1).toNat =2^1-1:=OA;show vS.wrap ((q4 32 (y:Int)&&& q4 32 1).toNat :Int)=_;rw[wF,e1,e2,qU,zp7 O]
theorem qcs(d:Dy)(hb:LB d.m)(hl:d.m.length<9223372036854775808):Fn 72 [] [.agg (dyC d)] (.bool (vB d)) []:=by
 obtain⟨A,hA⟩:∃A,vB d=A:=⟨_,rfl⟩;rw[hA];unfold vB at hA;obtain⟨neg,m,e⟩:=d;simp only at hb hl hA;show Fn 72 [] [.agg [.bool neg,.sl .u32 m,.int .i64 e]] _ [];by_cases h0:m.length=0
 .rw[Z6 h0]at hA;obtain rfl:=wL h0;cases neg
  .refine fY6 Tryz.func72 rfl ?_;refine⟨ab0 ?_,lh0⟩;rw[<-hA,wY];show(e==0)=true<->_;simp
  .subst hA;refine fY6 Tryz.func72 rfl ?_;exact⟨lr rfl,lh0⟩
 rw[Z7 h0]at hA;have hl0:(((m.length:Nat):Int)==0)=false:=by rw[beq_eq_false_iff_ne];omega
 have hw:vR.wrap ((m.length:Int)-1)=((m.length-1:Nat):Int):=by rw[wI O];omega
 have hxl:m[m.length-1]? =some m[m.length-1]:=q3 O;have hx0:m[0]? =some m[0]:=q3 O;have hbl:=hb _ (qI (l:=m) (n:=m.length-1) O);have hb0:=hb _ (qI (l:=m) (n:=0) O);generalize m[m.length-1]=z at hxl hbl;generalize m[0]=y at hx0 hb0;have hg:m.getLast?=some z:=by rw[wS];exact hxl
 rw[hx0,hg]at hA;simp only[qC]at hA;obtain⟨y,rfl⟩:=qX hb0.1;have ha1:=and1 (y:=y) O;have hty:((y:Nat):Int).tmod 2=((y % 2:Nat):Int):=w4 y 2;have ed:decide (((y:Nat):Int).tmod 2=1)=decide (y % 2=1):=decide_eq_decide.2 (by rw[hty];omega);have hA:(decide (m.length<=256)&&decide (y % 2=1)&&decide (z≠0)&&irB ⟨neg,m,e⟩)=A:=by rw[<-ed];exact hA
 refine fY6 Tryz.func72 rfl ?_;rw[hl0];conv=>whnf
 refine brI (fun h1=>?_) (fun h1=>?_)
 .have h1:256<m.length:=by have h1:((m.length:Nat):Int)>256:=Z0 h1;omega
  rw[Z9 (O:¬m.length<=256),w0,w0,w0]at hA;subst hA;conv=>whnf
  exact⟨lr rfl,lh0⟩
 have h1:m.length<=256:=by have h1:¬((m.length:Nat):Int)>256:=Z3 h1;omega
 rw[Z8 h1,wV]at hA;conv=>whnf
 rw[hw];refine⟨⟨O,O⟩,fun(x:Int)hx=>?_⟩;have hx:m[m.length-1]? =some x:=by simpa using hx
 rw[hxl]at hx;cases hx
 conv=>whnf
 refine brI (fun h2=>?_) (fun h2=>?_)
 .have h2:z=0:=by
   have h2:(z==0)=true:=h2;simpa using h2
  rw[Z9 (O:¬z≠0),vC,w0]at hA;subst hA;conv=>whnf
  exact⟨lr rfl,lh0⟩
 have h2:z≠0:=by
  have h2:(z==0)=false:=h2;simpa using h2
 rw[Z8 h2,vE]at hA;conv=>whnf
 refine⟨⟨O,O⟩,fun(x:Int)hx=>?_⟩;have hx:m[0]? =some x:=by simpa using hx
 rw[hx0]at hx;cases hx
 conv=>whnf
 rw[ha1];refine brI (fun h3=>?_) (fun h3=>?_)
 .have h3:y % 2=0:=by
   have h3:(((y % 2:Nat):Int)==0)=true:=h3;rw[beq_iff_eq]at h3;omega
  rw[Z9 (O:¬y % 2=1),w0]at hA;subst hA;conv=>whnf
  exact⟨lr rfl,lh0⟩
 have h3:y % 2=1:=by
  have h3:(((y % 2:Nat):Int)==0)=false:=h3;rw[beq_eq_false_iff_ne]at h3;omega
 rw[Z8 h3,wV]at hA;unfold irB at hA;simp only at hA;rw[zho hb]at hA;have he:=zn8 hb (by rw[hg];exact h2);have hv:val m≠0:=fun c=>h0 (by rw[he,c];rfl)
 have hbz:bl (val m)≠0:=fun c=>hv (kj.1 c)
 rw[Z9 O,Bool.false_or]at hA;have h250:=r250 (val m) (by rw[<-he];omega);rw[<-he]at h250;have hbm:bl (val m)<=32*256:=(zu _ _).1 (by rw[<-he];exact h1);generalize bl (val m)=B at*;conv=>whnf
 refine brI (fun h4=>?_) (fun h4=>?_)
 .have h4:e< -16384:=Z0 h4;rw[show A=false by rw[<-hA];simp;omega];conv=>whnf
  exact⟨lr rfl,lh0⟩
 have h4:¬e< -16384:=Z3 h4;conv=>whnf
 refine brI (fun h5=>?_) (fun h5=>?_)
 .have h5:e>16384:=Z0 h5;rw[show A=false by rw[<-hA];simp;omega];conv=>whnf
  exact⟨lr rfl,lh0⟩
 have h5:¬e>16384:=Z3 h5;conv=>whnf
 refine gYn h250 ?_;refine brI (fun h6=>?_) (fun h6=>?_)
 .have h6:(B:Int)<=4096:=Z0 h6;conv=>whnf
  refine⟨ab0 ?_,lh0⟩;rw[wI O,<-hA,wY];simp only[wi,Z4];omega
 .have h6:¬(B:Int)<=4096:=Z3 h6;rw[show A=false by rw[<-hA];simp;omega];conv=>whnf
  exact⟨lr rfl,lh0⟩
theorem zig{d:Dy}(h:VD d):sgR d=qs d:=by
 refine VD.cases (P:=fun d=>sgR d=qs d) h rfl (fun s n e hd hn _ _ _ _=>?_);unfold sgR qs;have hl:(toL n).length ≠0:=by rw[Ne,wv];omega
 rw[Z7 hl,yr,Z7 (O:¬n=0)]
theorem zr4(neg:Bool)(n:Nat)(e:Int):sgR (cnN neg n e)=if n=0 then 0 else if neg=true then-1 else 1:=by
 unfold cnN;split
 .rfl
 .rename_i h;obtain⟨m,h1,h2⟩:=kq h;have h3:n/2^tz n=m:=qK (qD _) h1;unfold sgR;simp only;rw[Z7 (by rw[wv,h3];omega)]
theorem zuj{a b:Dy}(hs:qs a=qs b)(h0:qs a≠0):(zn a<zn b->wa a b= -qs a)/\(zn b<zn a->wa a b=qs a)/\wa a b=sgR (zc7 a (jp b)):=by
 have ha0:nm a≠0:=fun c=>h0 (by unfold qs;rw[Z6 c])
 have hb0:nm b≠0:=fun c=>h0 (by rw[hs];unfold qs;rw[Z6 c])
 have hneg:a.neg=b.neg:=by
  unfold qs at hs;rw[Z7 ha0,Z7 hb0]at hs;cases h1:a.neg<;>cases h2:b.neg<;>simp_all
 have e1:zn a=bl (nm a)+a.e:=by unfold zn;rw[Z7 ha0]
 have e2:zn b=bl (nm b)+b.e:=by unfold zn;rw[Z7 hb0]
 have q1:=zq (nm a) (a.e-min a.e b.e).toNat ha0;have q2:=zq (nm b) (b.e-min a.e b.e).toNat hb0;have hd:=zmg hs h0;have hn:jp b=⟨!b.neg,b.m,b.e⟩:=by unfold jp;rw[Z7 hb0]
 have hnn:nm (jp b)=nm b:=by rw[hn];rfl
 have hS:zc7 a (jp b)=if nm b*2^(b.e-min a.e b.e).toNat <=nm a*2^(a.e-min a.e b.e).toNat then cnN a.neg (nm a*2^(a.e-min a.e b.e).toNat -nm b*2^(b.e-min a.e b.e).toNat) (min a.e b.e)
  else cnN (!b.neg) (nm b*2^(b.e-min a.e b.e).toNat -nm a*2^(a.e-min a.e b.e).toNat) (min a.e b.e):=by
  unfold zc7;rw[hnn,Z7 ha0,Z7 hb0,hn];simp only;rw[Z7 (by rw[hneg];cases b.neg<;>simp)]
 rw[hS,hd];unfold cmA;generalize nm a*2^(a.e-min a.e b.e).toNat =X at*;generalize nm b*2^(b.e-min a.e b.e).toNat =Y at*;refine⟨fun h=>?_,fun h=>?_,?_⟩
 .rw[zju (zxn O)];omega
 .rw[zjv (zxn O)];omega
 .have hsa:qs a=if a.neg=true then-1 else 1:=by unfold qs;rw[Z7 ha0]
  by_cases h:Y<=X
  .rw[Z6 h,zr4];by_cases h2:X=Y
   .subst h2;rw[Z6 O];unfold kd;rw[Z7 O,Z7 O];omega
   .rw[Z7 O,zjv O,hsa];omega
  .rw[Z7 h,zr4,Z7 O,zju O,hsa,hneg];cases b.neg<;>rfl
theorem r175{a b:Dy}(ha:VD a)(hb:VD b):Fn 73 [] [.agg (dyC a),.agg (dyC b)] (.int .i64 (wa a b)) []:=by
 have s1:=qad a;have s2:=qad b;have t1:=r252 ha;have t2:=r252 hb;have n1:=zwa hb;have hnb:VD (jp b):=yt hb;have m1:=r253 ha hnb;have z1:=qad (zc7 a (jp b));have c1:=zpu (a:=a) (b:=b);have c2:=zuj (a:=a) (b:=b);rw[zig ha]at s1;rw[zig hb]at s2;have hz:qs a=0\/qs a=1\/qs a= -1:=by unfold qs;split<;>(try split)<;>simp
 generalize sgR (zc7 a (jp b))=Zq at*;generalize zc7 a (jp b)=SX at*;generalize jp b=NB at*;generalize wa a b=C at*;generalize qs a=sa at*;generalize qs b=sb at*;have ea:=ha.exp;have eb:=hb.exp;generalize zn a=ta at*;generalize zn b=tb at*;refine fY6 Tryz.func73 rfl ?_;refine gYn s1 ?_;refine gYn s2 ?_;refine gYd ?_;refine brI (fun h1=>?_) (fun h1=>?_)
 .have h1:sa≠sb:=by
   have h1:(sa != sb)=true:=h1;simpa using h1
  conv=>whnf
  refine brI (fun h2=>?_) (fun h2=>?_)
  .have h2:sa<sb:=Z0 h2;rw[c1.1 h2];conv=>whnf
   exact⟨lr rfl,lh0⟩
  .have h2:¬sa<sb:=Z3 h2;rw[c1.2.1 O];conv=>whnf
   exact⟨lr rfl,lh0⟩
 have h1:sa=sb:=by
  have h1:(sa != sb)=false:=h1;simpa using h1
 conv=>whnf
 refine brI (fun h2=>?_) (fun h2=>?_)
 .have h2:sa=0:=by
   have h2:(sa==0)=true:=h2;simpa using h2
  rw[c1.2.2 h1 h2];conv=>whnf
  exact⟨lr rfl,lh0⟩
 have h2:sa≠0:=by
  have h2:(sa==0)=false:=h2;simpa using h2
 obtain⟨d1,d2,d3⟩:=c2 h1 h2;conv=>whnf
 refine gYn t1 ?_;refine gYn t2 ?_;refine gYd ?_;refine brI (fun h3=>?_) (fun h3=>?_)
 .have h3:ta≠tb:=by
   have h3:(ta != tb)=true:=h3;simpa using h3
  conv=>whnf
  refine gYn t1 ?_;refine gYn t2 ?_;refine gYd ?_;refine brI (fun h4=>?_) (fun h4=>?_)
  .have h4:(decide (ta<tb)==decide (sa>0))=true:=h4;have hC:C= -1:=by
    rcases hz with hz|hz|hz
    .exact absurd hz h2
    .have:ta<tb:=by simpa[hz]using h4
     rw[d1 this,hz]
    .have:¬ta<tb:=by simpa[hz]using h4
     rw[d2 O,hz]
   rw[hC];conv=>whnf
   exact⟨lr rfl,lh0⟩
  .have h4:(decide (ta<tb)==decide (sa>0))=false:=h4;have hC:C=1:=by
    rcases hz with hz|hz|hz
    .exact absurd hz h2
    .have:¬ta<tb:=by simpa[hz]using h4
     rw[d2 O,hz]
    .have:ta<tb:=by simpa[hz]using h4
     rw[d1 this,hz];rfl
   rw[hC];conv=>whnf
   exact⟨lr rfl,lh0⟩
 rw[d3];conv=>whnf
 refine gYn n1 ?_;refine gYn m1 ?_;refine gYn z1 ?_;refine gYd ?_;exact⟨lr rfl,lh0⟩
theorem r331t(l:List Int)(hl:l.length<=1000000):Fn 208 [] [.sl .u32 l] (.sl .u32 (trL l)) []:=by
 refine fY6 Tryz.func208 rfl ?_;refine⟨Nat,fun n=>n<=l.length/\trN l n=trN l l.length,fun n=> [(3,.int .i64 n)],fun _=> [],fun n=>n,l.length,⟨qJ _,rfl⟩,?_,fun n hn=>?_⟩
 .exact KZ0
 refine gYe ?_;obtain⟨hn1,hn2⟩:=hn;refine brI (fun h1=>?_) (fun h1=>?_)
 .have h1:0<n:=by simp only[Z4]at h1;omega
  obtain⟨m,rfl⟩:∃m,n=m+1:=⟨n-1,O⟩;have hw:vR.wrap (((m+1:Nat):Int)-1)=(m:Int):=by rw[wI O];omega
  conv=>whnf
  rw[hw];refine⟨⟨O,O⟩,fun x hx=>?_⟩;have hx:l[m]? =some x:=by simpa using hx
  simp only[trN,hx,qC]at hn2;conv=>whnf
  refine brI (fun h2=>?_) (fun h2=>?_)
  .have h2:x=0:=by simpa using h2
   rw[Z6 h2]at hn2;conv=>whnf
   refine⟨m,⟨O,hn2⟩,by show m<m+1;omega,?_⟩;exact KZ0
  .have h2:¬x=0:=by simpa using h2
   rw[Z7 h2]at hn2;conv=>whnf
   refine⟨⟨O,O,O⟩,?_⟩;conv=>whnf
   refine⟨OE,?_⟩;conv=>whnf
   exact⟨vp (by rw[trL,<-hn2];try simp),lh0⟩
 .have h1:n=0:=by simp only[Z5]at h1;omega
  subst h1;simp only[trN]at hn2;conv=>whnf
  refine⟨⟨O,O,O⟩,?_⟩;conv=>whnf
  refine⟨OC,?_⟩;conv=>whnf
  exact⟨vp (by rw[trL,<-hn2];try simp),lh0⟩
theorem zvd{l:List Int}(hb:LB l)(hl:l.length<=1000000):Fn 208 [] [.sl .u32 l] (.sl .u32 (toL (val l))) []:=by
 have:=r331t l hl
 rwa [yk hb]at this
theorem zvc{l:List Int}(hb:LB l)(_:l.length<=1000000)(i:Nat):Fn 260 [] [.sl .u32 l,.int .i64 i] (.int .u64 (l[i]?.getD 0)) []:=by
 have hat:=hb.at i;refine fY6 Tryz.func260 rfl ?_;refine brI (fun h=>?_) (fun h=>?_)
 .have h:i<l.length:=by have h:((i:Nat):Int)<l.length:=Z0 h;omega
  have hx:=q3 h;generalize l[i]=x at hx;rw[hx]at hat⊢;simp only[qC]at hat⊢;conv=>whnf
  refine⟨⟨O,O⟩,fun(z:Int)hz=>?_⟩;have hz:l[i]? =some z:=by simpa using hz
  rw[hx]at hz;cases hz
  conv=>whnf
  exact⟨ai0 (wU O),lh0⟩
 .have h:¬i<l.length:=by have h:¬((i:Nat):Int)<l.length:=Z3 h;omega
  rw[qH O];conv=>whnf
  exact⟨lr rfl,lh0⟩
theorem zjh{l:List Int}(h:LB l)(n:Nat):val (l.take n)<4294967296^n:=by
 by_cases hn:n<=l.length
 .exact kc h n hn
 .have:=kc h l.length (qJ _);rw[qV]at this;rw[qA O];exact Nat.lt_of_lt_of_le this (w8 OA O)
theorem zwd(P p q x y:Nat)(hp:p<P)(hq:q<P):kd (p+P*x) (q+P*y)=if x<y then-1 else if y<x then 1 else kd p q:=by
 by_cases h:x<y
 .rw[Z6 h];have:=wn P (show x+1<=y from h);rw[qO,wN]at this;exact zju O
 .rw[Z7 h];by_cases h2:y<x
  .rw[Z6 h2];have:=wn P (show y+1<=x from h2);rw[qO,wN]at this;exact zjv O
  .rw[Z7 h2,(O:x=y)];unfold kd;by_cases h3:p<q
   .rw[Z6 h3,Z6 O]
   .by_cases h4:q<p
    .rw[Z7 h3,Z6 h4,Z7 O,Z6 O]
    .rw[Z7 h3,Z7 h4,Z7 O,Z7 O]
theorem zhl{a b:List Int}(ha:LB a)(hb:LB b):∀n,zav a b n=kd (val (a.take n)) (val (b.take n))
 |0=>by simp[zav,val,kd]
 |n+1=>by
  rw[zav,zhl ha hb n,jo,jo,zwd _ _ _ _ _ (zjh ha n) (zjh hb n)];have h1:=ha.at n;have h2:=hb.at n;generalize a[n]?.getD 0=x at*;generalize b[n]?.getD 0=y at*;by_cases c:x<y
  .rw[Z6 c,Z6 (O:x.toNat<y.toNat)]
  .rw[Z7 c,Z7 (O:¬x.toNat<y.toNat)];by_cases c2:y<x
   .rw[Z6 c2,Z6 (O:y.toNat<x.toNat)]
   .rw[Z7 c2,Z7 (O:¬y.toNat<x.toNat)]
theorem r310{a b:List Int}(ha:LB a)(hb:LB b)(hal:a.length<=1000000)(hbl:b.length<=1000000):Fn 211 [] [.sl .u32 a,.sl .u32 b] (.int .i64 (kd (val a) (val b))) []:=by
 obtain⟨A,hA⟩:∃A,kd (val a) (val b)=A:=⟨_,rfl⟩;have hg:=zhl ha hb (max a.length b.length);rw[qA O,qA O,hA]at hg;rw[hA];clear hA;have hmx2:(if(a.length:Int)<(b.length:Int)then(b.length:Int)else(a.length:Int))=((max a.length b.length:Nat):Int):=by split<;>omega
 have ra:=fun i:Nat=>zvc ha hal i
 have rb:=fun i:Nat=>zvc hb hbl i
 have hM:max a.length b.length<=1000000:=O;generalize max a.length b.length=M at*;refine fY6 Tryz.func211 rfl ?_;rw[hmx2,wI (x:=((M:Nat):Int)-1) O];refine⟨Nat,fun n=>n<=M/\zav a b n=A,fun n=> [(5,.int .i64 ((n:Int)-1))],fun _=> [],fun n=>n,M,⟨qJ _,hg⟩,?_,fun n hn=>?_⟩
 .exact KZ0
 refine gYe ?_;obtain⟨hn1,hn2⟩:=hn;refine brI (fun h2=>?_) (fun h2=>?_)
 .have h2:0<n:=by simp only[Z4]at h2;omega
  obtain⟨m,rfl⟩:∃m,n=m+1:=⟨n-1,O⟩;have hm:(((m+1:Nat):Int)-1)=(m:Int):=O;rw[zav]at hn2;have ra:=ra m;have rb:=rb m;generalize a[m]?.getD 0=x at*;generalize b[m]?.getD 0=y at*;conv=>whnf
  rw[hm];refine gYn ra ?_;refine gYn rb ?_;refine brI (fun h3=>?_) (fun h3=>?_)
  .have h3:x<y:=Z0 h3;rw[Z6 h3]at hn2;conv=>whnf
   exact⟨ai0 hn2,lh0⟩
  have h3:¬x<y:=Z3 h3;rw[Z7 h3]at hn2;conv=>whnf
  refine gYn ra ?_;refine gYn rb ?_;refine brI (fun h4=>?_) (fun h4=>?_)
  .have h4:y<x:=Z0 h4;rw[Z6 h4]at hn2;conv=>whnf
   exact⟨ai0 hn2,lh0⟩
  have h4:¬y<x:=Z3 h4;rw[Z7 h4]at hn2;conv=>whnf
  refine⟨m,⟨O,hn2⟩,by show m<m+1;omega,?_⟩;exact KZ0
 .have h2:n=0:=by simp only[Z5]at h2;omega
  subst h2;simp only[zav]at hn2;conv=>whnf
  exact⟨ai0 hn2,lh0⟩
theorem qf1{p m x:Nat}(hp:p<2^(32*m))(hx:x≠0):bl (p+2^(32*m)*x)=32*m+bl x:=by
 have hP:=qD (32*m);have h1:2^(32*m)<=p+2^(32*m)*x:=w2 (wW _ O) (Nat.le_add_left _ _);have h2:=xg _ _ h1;rw[Nat.add_mul_div_left _ _ hP,vm hp,Nat.zero_add]at h2;have h3:=(xd (n:=p+2^(32*m)*x) (k:=32*m) O).2 h1;omega
theorem zye{l:List Int}(hb:LB l)(hl:l.length<=1000000):Fn 209 [] [.sl .u32 l] (.int .i64 (bl (val l):Nat)) []:=by
 refine fY6 Tryz.func209 rfl ?_;rw[wI (x:=((l.length:Nat):Int)-1) O];refine⟨Nat,fun n=>n<=l.length/\val (l.take n)=val l,fun n=> [(3,.int .i64 ((n:Int)-1))],fun _=> [],fun n=>n,l.length,⟨qJ _,by rw[qV]⟩,?_,fun n hn=>?_⟩
 .exact KZ0
 refine gYe ?_;obtain⟨hn1,hn2⟩:=hn;refine brI (fun h2=>?_) (fun h2=>?_)
 .have h2:0<n:=by simp only[Z4]at h2;omega
  obtain⟨m,rfl⟩:∃m,n=m+1:=⟨n-1,O⟩;have hm:(((m+1:Nat):Int)-1)=(m:Int):=O;have hxl:=q3 (l:=l) (i:=m) O;have hxb:=hb _ (qI (l:=l) (n:=m) O);generalize l[m]=x at hxl hxb;rw[jo,hxl]at hn2;simp only[qC]at hn2;have htl:=zjh hb m;conv=>whnf
  rw[hm];refine⟨⟨O,O⟩,fun(z:Int)hz=>?_⟩;have hz:l[m]? =some z:=by simpa using hz
  rw[hxl]at hz;cases hz
  conv=>whnf
  refine brI (fun h3=>?_) (fun h3=>?_)
  .have h3:x≠0:=by
    have h3:(x != 0)=true:=h3;simpa using h3
   have hbl:bl (val l)=32*m+bl x.toNat:=by
    rw[<-hn2];have e:(4294967296:Nat)^m=2^(32*m):=by rw[vv]
    rw[e]at htl⊢;exact qf1 htl O
   have hbx:bl x.toNat<=32:=vr.2 O;rw[hbl];conv=>whnf
   refine⟨⟨O,O⟩,fun(z:Int)hz=>?_⟩;have hz:l[m]? =some z:=by simpa using hz
   rw[hxl]at hz;cases hz
   conv=>whnf
   rw[wI (x:=32*((m:Nat):Int)) O];refine⟨Nat,fun y=>y<4294967296/\bl y<=bl x.toNat,fun y=> [(4,.int .i64 (((32*m+bl x.toNat:Nat):Int)-(bl y:Nat))),(5,.int .u32 y)],fun _=> [],fun y=>y,x.toNat,⟨O,qJ _⟩,?_,fun y hy=>?_⟩
   .exact KZ0
   obtain⟨hy1,hy2⟩:=hy;refine gYe ?_;refine brI (fun h2=>?_) (fun h2=>?_)
   .have h2:0<y:=by simp only[Z4]at h2;omega
    have hh:=zkn (n:=y) O;conv=>whnf
    refine⟨OA,?_⟩;conv=>whnf
    refine⟨y/2,⟨O,O⟩,by show y/2<y;omega,?_⟩
    ((conv=>whnf);refine qE ?_ ?_;repeat' first|refine lc ?_ ?_|refine lh1 ?_ ?_|refine bc0 ?_|exact KXZ|refine lg0 ?_|refine lt0 ?_)
    .exact ai0 (by rw[wI O];omega)
    .exact ai0 (by
      show((y:Int)).fdiv 2=_;rw[qB _ OA];omega)
   .have h2:y=0:=by simp only[Z5]at h2;omega
    subst h2;conv=>whnf
    exact⟨ai0 (by simp[qx]),lh0⟩
  .have h3:x=0:=by
    have h3:(x != 0)=false:=h3;simpa using h3
   subst h3;simp only[wC,vc,we]at hn2;conv=>whnf
   refine⟨m,⟨O,hn2⟩,by show m<m+1;omega,?_⟩;exact KZ0
 .have h2:n=0:=by simp only[Z5]at h2;omega
  subst h2;have hn2:val l=0:=by rw[<-hn2];rfl
  rw[hn2];conv=>whnf
  exact⟨lr rfl,lh0⟩
theorem zvp(l:List Int)(k:Nat)(v:Int):(l.set k v).take k=l.take k:=by
 rw[List.take_set_of_le (qJ k)]
theorem zem(l:List Int)(k:Nat)(v:Int):(l.set k v).drop (k+1)=l.drop (k+1):=by
 rw[List.drop_set_of_lt (wJ k)]
theorem zf2{l o:List Int}{k:Nat}(h:l.drop k=o.drop k):l[k]? =o[k]? :=by
 have:=congrArg (fun z:List Int=>z[0]?) h;simpa[w5]using this
theorem zcr{l o:List Int}{k:Nat}(h:l.drop k=o.drop k):l.drop (k+1)=o.drop (k+1):=by
 have:=congrArg (fun z:List Int=>z.drop 1) h;simpa[List.drop_drop]using this
theorem xy{l:List Int}{k:Nat}(h:k<l.length)(v:Nat):val ((l.set k (v:Int)).take (k+1))=val (l.take k)+4294967296^k*v:=by
 rw[jo,zvp,wD h];simp
structure DbI(o l:List Int)(k c c0:Nat):Prop where
 len:l.length=o.length
 lb:LB l
 c1:c<=1
 drop:l.drop k=o.drop k
 sum:val (l.take k)+4294967296^k*c=2*val (o.take k)+c0
theorem DbI.zero{o:List Int}(h:LB o){c:Nat}(hc:c<=1):DbI o o 0 c c:=⟨rfl,h,hc,rfl,by simp[val]⟩
theorem DbI.step{o l:List Int}{k c c0 x:Nat}(h:DbI o l k c c0)(hk:k<o.length)(hx:(l[k]?.getD 0).toNat =x)(hxl:x<4294967296):
 DbI o (l.set k (((2*x+c) % 4294967296:Nat):Int)) (k+1) (x/2147483648) c0:=by
 obtain⟨h1,h2,h3,h4,h5⟩:=h;refine⟨by simp[h1],h2.set O,O,by rw[zem];exact zcr h4,?_⟩;rw[xy O,jo,<-zf2 h4,hx,qS];generalize 4294967296^k=P at*;have e:=qM (2*x+c) 4294967296;have e2:(2*x+c)/4294967296=x/2147483648:=O;rw[e2]at e;have e3:=congrArg (fun z=>P*z) e;simp only[qO]at e3;rw[<-qL]at e3;rw[qO];have e4:P*(2*x)=2*(P*x):=wT P 2 x;omega
theorem DbI.fin{o l:List Int}{c c0:Nat}(h:DbI o l o.length c c0)(hv:2*val o+c0<4294967296^o.length):val l=2*val o+c0:=by
 obtain⟨h1,h2,h3,h4,h5⟩:=h;rw[qV,qA O]at h5;obtain rfl|rfl:c=0\/c=1:=O
 .omega
 .omega
structure SbI(o b l:List Int)(k w:Nat):Prop where
 len:l.length=o.length
 lb:LB l
 w1:w<=1
 drop:l.drop k=o.drop k
 sum:val (o.take k)+4294967296^k*w=val (l.take k)+val (b.take k)
theorem SbI.zero{o b:List Int}(h:LB o):SbI o b o 0 0:=⟨rfl,h,OC,rfl,by simp[val]⟩
theorem SbI.step{o b l:List Int}{k w x y:Nat}(h:SbI o b l k w)(hk:k<o.length)(hx:(l[k]?.getD 0).toNat =x)(hy:(b[k]?.getD 0).toNat =y)(hxl:x<4294967296)(hyl:y<4294967296):
 SbI o b (l.set k (((x+4294967296-(w+y)) % 4294967296:Nat):Int)) (k+1) (1-(x+4294967296-(w+y))/4294967296):=by
 obtain⟨h1,h2,h3,h4,h5⟩:=h;refine⟨by simp[h1],h2.set O,O,by rw[zem];exact zcr h4,?_⟩;rw[xy O,jo,jo,<-zf2 h4,hx,hy,qS];exact zlj 4294967296 (4294967296^k) _ w _ _ x y OA O hxl h3 h5
theorem SbI.fin{o b l:List Int}{w:Nat}(h:SbI o b l o.length w)(hl:b.length<=o.length)(hv:val b<=val o):val l=val o-val b:=by
 obtain⟨h1,h2,h3,h4,h5⟩:=h;rw[qV,qA (l:=l) O,qA (l:=b) hl]at h5;have h6:=kc h2 o.length O;rw[qA O]at h6;obtain rfl|rfl:w=0\/w=1:=O
 .omega
 .omega
theorem znv{l:List Int}(h:LB l)(j:Nat):val l/2^(32*j) % 4294967296=(l[j]?.getD 0).toNat :=by
 rw[<-zdp j l h]
 cases hd:l.drop j with
 |nil=>
  have:l[j]? =none:=by
   have:=congrArg (fun z:List Int=>z[0]?) hd;simpa[w5]using this
  rw[this];rfl
 |cons x t=>
  have hx:l[j]? =some x:=by
   have:=congrArg (fun z:List Int=>z[0]?) hd;simpa[w5]using this
  have hb:=h x (qG hx);rw[hx,qg,qC];omega
theorem zzp{l:List Int}(h:LB l)(i:Nat):(l[i/32]?.getD 0).toNat /2^(i % 32) % 2=val l/2^i % 2:=by
 rw[<-znv h (i/32)];have e:(2:Nat)^i=2^(32*(i/32))*2^(i % 32):=by rw[<-qN,qM]
 rw[e,<-wE];generalize val l/2^(32*(i/32))=z;have e2:(4294967296:Nat)=2^(i % 32)*(2*2^(31-i % 32)):=by
  rw[<-qL,<-qS,<-qN,(O:i % 32+1+(31-i % 32)=32)]
 rw[e2,Nat.mod_mul_right_div_self,Nat.mod_mul_right_mod]
theorem zt6(A b i:Nat)(hb:0<b):let R:=2*(A/2^(i+1) % b)+A/2^i % 2
 (R<b->A/2^i % b=R/\A/2^i/b=2*(A/2^(i+1)/b))/\(¬R<b->A/2^i % b=R-b/\A/2^i/b=2*(A/2^(i+1)/b)+1)/\R<2*b:=by
 intro R;have e:A/2^(i+1)=A/2^i/2:=by rw[qS,wE]
 have hR:R=2*(A/2^i/2 % b)+A/2^i % 2:=by rw[<-e]
 rw[e]
 clear_value R
 generalize A/2^i=z at*;have h1:=qM (z/2) b;have h2:=qM z 2;have h3:=w3 (z/2) hb;generalize z/2 % b=r at*;generalize z/2/b=q at*;have h4:z=b*(2*q)+R:=by rw[wT];omega
 refine⟨fun c=>?_,fun c=>?_,O⟩
 .have hq:=(v8 hb (a:=z) (c:=R) (d:=2*q)).2 ⟨O,c⟩;exact⟨hq.2,hq.1⟩
 .have hq:=(v8 hb (a:=z) (c:=R-b) (d:=2*q+1)).2 ⟨by rw[qO,wN];omega,O⟩;exact⟨hq.2,hq.1⟩
theorem zsx{v i:Nat}(h:v % 2^(i+1)=0):v|||2^i=v+2^i:=by
 have e:v=2^(i+1)*(v/2^(i+1)):=by have:=qM v (2^(i+1));omega
 rw[e,<-wO (v5 OA (wJ i))]
def T9s:Tab:= {T6 with of:=260::211::295::T6.of}
theorem xu:TabOK Tryz.prog T9s:=zfd Z Z
noncomputable def zxk:Code:=Tryz.f260.body.getD .skip
noncomputable def zxm:Code:=Tryz.f211.body.getD .skip
noncomputable def zxl:Code:=Tryz.f295.body.getD .skip
theorem r333o{l:List Int}(hb:LB l)(_:l.length<=1000000)(i:Nat):Fn 260 [(1000001,.buf 101 .u32 l)] [.own 1000001,.int .i64 i] (.int .u64 (l[i]?.getD 0)) [(1000001,.buf 101 .u32 l)]:=by
 have hat:=hb.at i;refine zcp rfl (zei (code:=zxk) xu Tryz.func260 rfl rfl [1000001] ?_);conv=>whnf
 refine zb9 xu hmx [] ?_;conv=>whnf
 refine brI (fun h=>?_) (fun h=>?_)
 .have h:i<l.length:=by have h:((i:Nat):Int)<l.length:=Z0 h;omega
  have hx:=q3 h;generalize l[i]=x at hx;rw[hx]at hat⊢;simp only[qC]at hat⊢;conv=>whnf
  refine⟨⟨O,O⟩,?_⟩;conv=>whnf
  refine⟨O,fun(z:Int)hz=>?_⟩;have hz:l[i]? =some z:=hz;rw[hx]at hz;cases hz
  conv=>whnf
  exact⟨ai0 (wU O),lh1 (bb0 rfl) lh0⟩
 .have h:¬i<l.length:=by have h:¬((i:Nat):Int)<l.length:=Z3 h;omega
  rw[qH O];conv=>whnf
  exact⟨lr rfl,lh1 (bb0 rfl) lh0⟩
theorem r310o{a b:List Int}(ha:LB a)(hb:LB b)(hal:a.length<=1000000)(hbl:b.length<=1000000):Fn 211 [(1000001,.buf 101 .u32 a)] [.own 1000001,.sl .u32 b] (.int .i64 (kd (val a) (val b))) [(1000001,.buf 101 .u32 a)]:=by
 obtain⟨A,hA⟩:∃A,kd (val a) (val b)=A:=⟨_,rfl⟩;have hg:=zhl ha hb (max a.length b.length);rw[qA O,qA O,hA]at hg;rw[hA];clear hA;have hmx2:(if(a.length:Int)<(b.length:Int)then(b.length:Int)else(a.length:Int))=((max a.length b.length:Nat):Int):=by split<;>omega
 have ra:=fun i:Nat=>r333o ha hal i
 have rb:=fun i:Nat=>zvc hb hbl i
 have hM:max a.length b.length<=1000000:=O;generalize max a.length b.length=M at*;refine zcp rfl (zei (code:=zxm) xu Tryz.func211 rfl rfl [1000001] ?_);conv=>whnf
 refine zb9 xu hmx [] ?_;conv=>whnf
 rw[hmx2,wI (x:=((M:Nat):Int)-1) O];refine⟨Nat,fun n=>n<=M/\zav a b n=A,fun n=> [(5,.int .i64 ((n:Int)-1))],fun _=> [],fun n=>n,M,⟨qJ _,hg⟩,?_,fun n hn=>?_⟩
 .exact KZ0
 refine gYe ?_;obtain⟨hn1,hn2⟩:=hn;refine brI (fun h2=>?_) (fun h2=>?_)
 .have h2:0<n:=by simp only[Z4]at h2;omega
  obtain⟨m,rfl⟩:∃m,n=m+1:=⟨n-1,O⟩;have hm:(((m+1:Nat):Int)-1)=(m:Int):=O;rw[zav]at hn2;have ra:=ra m;have rb:=rb m;generalize a[m]?.getD 0=x at*;generalize b[m]?.getD 0=y at*;conv=>whnf
  rw[hm];refine⟨[.buf 101 .u32 a],_,ra,?_⟩;conv=>whnf
  refine gYn rb ?_;refine brI (fun h3=>?_) (fun h3=>?_)
  .have h3:x<y:=Z0 h3;rw[Z6 h3]at hn2;conv=>whnf
   exact⟨ai0 hn2,lh1 (bb0 rfl) lh0⟩
  have h3:¬x<y:=Z3 h3;rw[Z7 h3]at hn2;conv=>whnf
  refine⟨[.buf 101 .u32 a],_,ra,?_⟩;conv=>whnf
  refine gYn rb ?_;refine brI (fun h4=>?_) (fun h4=>?_)
  .have h4:y<x:=Z0 h4;rw[Z6 h4]at hn2;conv=>whnf
   exact⟨ai0 hn2,lh1 (bb0 rfl) lh0⟩
  have h4:¬y<x:=Z3 h4;rw[Z7 h4]at hn2;conv=>whnf
  refine⟨m,⟨O,hn2⟩,by show m<m+1;omega,?_⟩;exact KZ0
 .have h2:n=0:=by simp only[Z5]at h2;omega
  subst h2;simp only[zav]at hn2;conv=>whnf
  exact⟨ai0 hn2,lh1 (bb0 rfl) lh0⟩
theorem r332o{a b:List Int}(ha:LB a)(hb:LB b)(hal:a.length<=1000000)(hbl:b.length<=1000000):Fn 295 [(1000001,.buf 101 .u32 a)] [.own 1000001,.sl .u32 b] (.bool (decide (val a<val b))) [(1000001,.buf 101 .u32 a)]:=by
 have h:=r310o ha hb hal hbl;have e:decide (kd (val a) (val b)<0)=decide (val a<val b):=by
  unfold kd;split
  .rename_i h;simp[h]
  .split
   .rename_i h1 h2;simp[h1]
   .rename_i h1 h2;simp[h1]
 generalize kd (val a) (val b)=Oq at*;refine zcp rfl (zei (code:=zxl) xu Tryz.func295 rfl rfl [1000001] ?_);conv=>whnf
 refine zb9 xu hmx [] ?_;conv=>whnf
 refine⟨[.buf 101 .u32 a],_,h,?_⟩;conv=>whnf
 exact⟨ab0 e,lh1 (bb0 rfl) lh0⟩
theorem fdB(s:Nat):((s:Nat):Int).fdiv 4294967296=((s/4294967296:Nat):Int):=by rw[qB _ OA];simp
theorem loB{s:Nat}(hs:s<18446744073709551616):vS.wrap (vQ.wrap ((q4 vQ.bits (s:Int)&&& q4 vQ.bits 4294967295).toNat :Int))=((s % 4294967296:Nat):Int):=by
 rw[zen _ O];simp[vU,vT,vV]
theorem r335{a b:List Int}(ha:LB a)(hb:LB b)(hal:a.length<=100000)(hbl:b.length<=100000):Fn 213 [] [.sl .u32 a,.sl .u32 b] (.sl .u32 (toL (val a+val b))) []:=by
 have ra:=fun i:Nat=>zvc ha O i
 have rb:=fun i:Nat=>zvc hb O i
 have hmx2:(if(a.length:Int)<(b.length:Int)then(b.length:Int)else(a.length:Int))=((max a.length b.length:Nat):Int):=by split<;>omega
 refine fY6 Tryz.func213 rfl ?_;refine⟨Nat×List Int×Nat,fun x=>x.1<=max a.length b.length+1/\(x.1=max a.length b.length+1->x.2.2=0)/\PlI a b x.1 x.2.1 x.2.2,fun x=> [(7,.int .i64 x.1),(5,.own 36),(6,.int .u64 x.2.2)],fun x=> [(36,.buf 101 .u32 x.2.1)],fun x=>max a.length b.length+1-x.1,(0,[],0),⟨OC,fun h=>rfl,⟨rfl,(fun x hx=>by cases hx),OC,by simp[val]⟩⟩,?_,fun x hx=>?_⟩
 .exact KZ0
 obtain⟨i,out,c⟩:=x;obtain⟨hi,hi2,hp⟩:=hx;simp only at hi hi2 hp;have hol:=hp.len;have hc:=hp.c1;have hst:=hp.step rfl rfl (zmj ha i) (zmj hb i);have ra:=ra i;have rb:=rb i;have hba:=ha.at i;have hbb:=hb.at i;have round:i<=max a.length b.length->(c+(a[i]?.getD 0).toNat +(b[i]?.getD 0).toNat <8589934592)/\(i+1=max a.length b.length+1->(c+(a[i]?.getD 0).toNat +(b[i]?.getD 0).toNat)/4294967296=0):=fun h=>by
  refine⟨O,fun h2=>?_⟩;rw[qH O,qH O];simp;omega
 have es:vQ.wrap (vQ.wrap (a[i]?.getD 0+b[i]?.getD 0)+(c:Int))=((c+(a[i]?.getD 0).toNat +(b[i]?.getD 0).toNat :Nat):Int):=by
  rw[wU (x:=a[i]?.getD 0+b[i]?.getD 0) O,wU O];omega
 have hfin:¬i<max a.length b.length->c=0->Fn 208 [] [.sl .u32 out] (.sl .u32 (toL (val a+val b))) []:=fun h1 h2=>by
  have hv:=hp.val;rw[h2,qA O,qA O]at hv;have h331:=zvd hp.lb O;rw[<-hv];simpa using h331
 generalize a[i]?.getD 0=x at*;generalize b[i]?.getD 0=y at*;refine gYe ?_;rw[hmx2];generalize max a.length b.length=M at*;refine brI (fun h1=>?_) (fun h1=>?_)
 .have h1:i<M:=by
   have h1:((i:Nat):Int)<((M:Nat):Int):=Z0 h1;omega
  obtain⟨d1,d2⟩:=round O;conv=>whnf
  refine gYn ra ?_;refine gYn rb ?_;refine⟨OE,?_⟩;conv=>whnf
  refine⟨OA,?_⟩;conv=>whnf
  refine⟨(i+1,out++ [(((c+x.toNat+y.toNat) % 4294967296:Nat):Int)],(c+x.toNat+y.toNat)/4294967296),⟨OD,d2,hst⟩,by show M+1-(i+1)<M+1-i;omega,?_⟩
  ((conv=>whnf);refine qE ?_ ?_;repeat' first|refine lc ?_ ?_|refine lh1 ?_ ?_|refine bc0 ?_|exact KXZ|refine lg0 ?_|refine lt0 ?_)
  .exact ai0 ((congrArg (fun z:Int=>z.fdiv 4294967296) es).trans (fdB _))
  .exact ai0 (by rw[wI OD];simp only;omega)
  .exact bb0 (by
    show out++ [_]=out++ [_];rw[<-loB O,<-es])
 .have h1:¬i<M:=by
   have h1:¬((i:Nat):Int)<((M:Nat):Int):=Z3 h1;omega
  conv=>whnf
  refine brI (fun h2=>?_) (fun h2=>?_)
  .have h2:c≠0:=by
    have h2:((c:Nat):Int)>0:=Z0 h2;omega
   have h3:i<=M:=by
    by_cases h:i=M+1
    .exact absurd (hi2 h) h2
    .omega
   obtain⟨d1,d2⟩:=round h3;conv=>whnf
   refine gYn ra ?_;refine gYn rb ?_;refine⟨OE,?_⟩;conv=>whnf
   refine⟨OA,?_⟩;conv=>whnf
   refine⟨(i+1,out++ [(((c+x.toNat+y.toNat) % 4294967296:Nat):Int)],(c+x.toNat+y.toNat)/4294967296),⟨OD,d2,hst⟩,by show M+1-(i+1)<M+1-i;omega,?_⟩
   ((conv=>whnf);refine qE ?_ ?_;repeat' first|refine lc ?_ ?_|refine lh1 ?_ ?_|refine bc0 ?_|exact KXZ|refine lg0 ?_|refine lt0 ?_)
   .exact ai0 ((congrArg (fun z:Int=>z.fdiv 4294967296) es).trans (fdB _))
   .exact ai0 (by rw[wI OD];simp only;omega)
   .exact bb0 (by
     show out++ [_]=out++ [_];rw[<-loB O,<-es])
  .have h2:c=0:=by
    have h2:¬((c:Nat):Int)>0:=Z3 h2;omega
   conv=>whnf
   refine gYn (hfin h1 h2) ?_;exact⟨lr rfl,lh0⟩
theorem r341{a b:List Int}(ha:LB a)(hb:LB b)(hal:a.length<=100000)(hbl:b.length<=100000)(hv:val b<=val a)(hl:b.length<=a.length):Fn 261 [] [.sl .u32 a,.sl .u32 b] (.sl .u32 (toL (val a-val b))) []:=by
 have ra:=fun i:Nat=>zvc ha O i
 have rb:=fun i:Nat=>zvc hb O i
 refine fY6 Tryz.func261 rfl ?_;refine⟨Nat×List Int×Nat,fun x=>x.1<=a.length/\MiI a b x.1 x.2.1 x.2.2,fun x=> [(7,.int .i64 x.1),(5,.own 30),(6,.int .u64 x.2.2)],fun x=> [(30,.buf 101 .u32 x.2.1)],fun x=>a.length-x.1,(0,[],0),⟨OC,⟨rfl,(fun x hx=>by cases hx),OC,by simp[val]⟩⟩,?_,fun x hx=>?_⟩
 .exact KZ0
 obtain⟨i,out,c⟩:=x;obtain⟨hi,hp⟩:=hx;simp only at hi hp;have hol:=hp.len;have hc:=hp.c1;have hst:=hp.step rfl rfl (zmj ha i) (zmj hb i);have ra:=ra i;have rb:=rb i;have hba:=ha.at i;have hbb:=hb.at i;have e4:∀s:Nat,s<8589934592->vQ.wrap (1-((s:Nat):Int).fdiv 4294967296)=((1-s/4294967296:Nat):Int):=fun s hs=>by
  rw[fdB,wU O];omega
 have es:vQ.wrap (vQ.wrap (vQ.wrap (a[i]?.getD 0+4294967296)-b[i]?.getD 0)-(c:Int))=(((a[i]?.getD 0).toNat +4294967296-(c+(b[i]?.getD 0).toNat):Nat):Int):=by
  rw[wU (x:=a[i]?.getD 0+4294967296) O,wU (x:=a[i]?.getD 0+4294967296-b[i]?.getD 0) O];by_cases hz:a[i]?.getD 0+4294967296-b[i]?.getD 0-c<0
  .omega
  .rw[wU O];omega
 generalize a[i]?.getD 0=x at*;generalize b[i]?.getD 0=y at*;refine gYe ?_;refine brI (fun h1=>?_) (fun h1=>?_)
 .have h1:i<a.length:=by simp only[Z4]at h1;omega
  conv=>whnf
  refine gYn ra ?_;refine gYn rb ?_;refine⟨OE,?_⟩;conv=>whnf
  refine⟨OA,?_⟩;conv=>whnf
  refine⟨(i+1,out++ [(((x.toNat+4294967296-(c+y.toNat)) % 4294967296:Nat):Int)],1-(x.toNat+4294967296-(c+y.toNat))/4294967296),⟨OD,hst⟩,by show a.length-(i+1)<a.length-i;omega,?_⟩
  ((conv=>whnf);refine qE ?_ ?_;repeat' first|refine lc ?_ ?_|refine lh1 ?_ ?_|refine bc0 ?_|exact KXZ|refine lg0 ?_|refine lt0 ?_)
  .exact ai0 ((congrArg (fun z:Int=>vQ.wrap (1-z.fdiv 4294967296)) es).trans (e4 _ O))
  .exact ai0 (by rw[wI OD];simp only;omega)
  .exact bb0 (by
    show out++ [_]=out++ [_];rw[<-loB O,<-es])
 .have h1:i=a.length:=by simp only[Z5]at h1;omega
  subst h1;have hf:=hp.fin hl hv;have h331:=zvd hp.lb O;rw[hf]at h331;conv=>whnf
  refine gYn h331 ?_;exact⟨lr rfl,lh0⟩
theorem r334{a:List Int}(ha:LB a)(hal:a.length<=100000)(n:Nat)(hn:n<=1000000000):Fn 210 [] [.sl .u32 a,.int .i64 n] (.sl .u32 (toL (val a/2^n))) []:=by
 have ra:=fun i:Nat=>zvc ha O i
 have hbu:LB (a.drop (n/32)):=fun z hz=>ha z (wM hz)
 have hsp:=zie (n % 32) O (a.drop (n/32)) hbu;rw[zdp _ _ ha,wE,<-qN,(O:32*(n/32)+n % 32=n)]at hsp;generalize val a/2^n=V at hsp⊢;obtain⟨A,hA⟩:∃A,zbi (a.drop (n/32)) (n % 32)=A:=⟨_,rfl⟩;rw[hA]at hsp;have hAl:A.length=a.length-n/32:=by rw[<-hA];simp[zbi]
 have hAt:∀j,j<A.length->A[j]? =some (((a[n/32+j]?.getD 0+a[n/32+(j+1)]?.getD 0*4294967296)/2^(n % 32)) % 4294967296):=fun j hj=>by
  rw[<-hA];have hj2:j<(a.drop (n/32)).length :=by rw[vd];omega
  rw[zbi,List.getElem?_map,List.getElem?_range hj2];simp only[Option.map_some,zeu,w5]
 have h331:=zvd hsp.2 O;rw[hsp.1]at h331;have hq:vR.wrap ((n:Int).tdiv 32)=((n/32:Nat):Int):=by
  rw[show(n:Int).tdiv 32=((n/32:Nat):Int)from w7 n 32,wI O]
 have h9:(n:Int).tmod 32=((n % 32:Nat):Int):=w4 n 32;have hfin:∀s:Int,0<=s/\s<18446744073709551616->vS.wrap (vQ.wrap ((q4 vQ.bits (s.fdiv (2^min ((n:Int).tmod 32).toNat vQ.bits))&&& q4 vQ.bits 4294967295).toNat :Int))=(s/2^(n % 32)) % 4294967296:=fun s hs=>by
  have hp:(0:Int)<2^(n % 32):=v3 OA;have hd:0<=s/2^(n % 32):=vx hs.1 O;have hd2:s/2^(n % 32)<=s:=vi _ hs.1;rw[h9,show min ((n % 32:Nat):Int).toNat vQ.bits=n % 32 by show min ((n % 32:Nat):Int).toNat 64=n % 32;omega,qB _ O,zen _ ⟨hd,O⟩];simp[vU,vT,vV]
 clear hA hsp;refine fY6 Tryz.func210 rfl ?_;refine⟨O,?_⟩;conv=>whnf
 rw[hq];refine⟨Nat,fun j=>j<=A.length,fun j=> [(6,.int .i64 ((n/32+j:Nat):Int)),(5,.own 33)],fun j=> [(33,.buf 101 .u32 (A.take j))],fun j=>A.length-j,0,Nat.zero_le _,?_,fun j hj=>?_⟩
 .exact KZ0
 have hj:j<=A.length:=hj;refine gYe ?_;refine brI (fun h1=>?_) (fun h1=>?_)
 .have h1:n/32+j<a.length:=by
   have h1:((n/32+j:Nat):Int)<(a.length:Int):=Z0 h1;omega
  have hF:=hAt j O;have hstep:A.take j++ [((a[n/32+j]?.getD 0+a[n/32+(j+1)]?.getD 0*4294967296)/2^(n % 32)) % 4294967296]=A.take (j+1):=by rw[v9,hF];rfl
  have r1:=ra (n/32+j);have r2:=ra (n/32+(j+1));have b1:=ha.at (n/32+j);have b2:=ha.at (n/32+(j+1));have hw:vR.wrap (((n/32+j:Nat):Int)+1)=((n/32+(j+1):Nat):Int):=by rw[wI O];omega
  generalize a[n/32+j]?.getD 0=x at*;generalize a[n/32+(j+1)]?.getD 0=y at*;have es:vQ.wrap (x+vQ.wrap (y*4294967296))=x+y*4294967296:=by
   rw[wU (x:=y*4294967296) O,wU O]
  have hlen:(A.take j).length =j:=by rw[vk];omega
  conv=>whnf
  refine gYn r1 ?_;rw[hw];refine gYn r2 ?_;refine⟨OA,?_⟩;conv=>whnf
  refine⟨O,?_⟩;conv=>whnf
  refine⟨by rw[h9];omega,?_⟩;conv=>whnf
  refine⟨by rw[hlen];simp;omega,?_⟩;conv=>whnf
  refine⟨j+1,O,by show A.length-(j+1)<A.length-j;omega,?_⟩
  ((conv=>whnf);refine qE ?_ ?_;repeat' first|refine lc ?_ ?_|refine lh1 ?_ ?_|refine bc0 ?_|exact KXZ|refine lg0 ?_|refine lt0 ?_)
  .exact ai0 hw
  .exact bb0 (by
    rw[<-hstep];show A.take j++ [_]=_
    congr 2
    rw[<-hfin _ O,<-es];rfl)
 .have h1:¬n/32+j<a.length:=by
   have h1:¬((n/32+j:Nat):Int)<(a.length:Int):=Z3 h1;omega
  rw[qA O];conv=>whnf
  refine gYn h331 ?_;exact⟨lr rfl,lh0⟩
theorem r311{a b:List Int}(ha:LB a)(hb:LB b)(hal:a.length<=100000)(hbl:b.length<=100000):Fn 259 [] [.sl .u32 a,.sl .u32 b] (.sl .u32 (toL (val a*val b))) []:=by
 have rb:=fun i:Nat=>zvc hb O i
 have hsp:=zdz b hb a 0 (qF (a.length+b.length+1) 0) ha (fun z hz=>by have:=qW hz;omega) OC (fun j _=>by
  rw[qQ];split<;>rfl)
 rw[zad]at hsp;have hml:=zfx b a 0 (qF (a.length+b.length+1) 0);obtain⟨A,hA⟩:∃A,zj2 b a 0 (qF (a.length+b.length+1) 0)=A:=⟨_,rfl⟩;rw[hA]at hsp hml;have hAv:val A=val a*val b:=by have:=hsp.1;simpa using this
 have h331:=zvd hsp.2 (by rw[hml];simp;omega);rw[hAv]at h331;clear hsp hAv hml;generalize toL (val a*val b)=R at h331⊢;refine fY6 Tryz.func259 rfl ?_;rw[wI (x:=(a.length:Int)+(b.length:Int)) O,wI (x:=(a.length:Int)+(b.length:Int)+1) O];refine⟨⟨O,O,O⟩,?_⟩;conv=>whnf
 refine⟨Nat×List Int,fun x=>x.1<=a.length/\LB x.2/\x.2.length=a.length+b.length+1/\zj2 b (a.drop x.1) x.1 x.2=A/\(∀j,x.1+b.length<=j->x.2[j]?.getD 0=0),fun x=> [(6,.int .i64 x.1)],fun x=> [(16,.buf 101 .u32 x.2)],fun x=>a.length-x.1,(0,qF (a.length+b.length+1) 0),⟨OC,(fun x hx=>by rw[qW hx];omega),OC,by simpa using hA,fun j _=>by
  rw[qQ];split<;>rfl⟩,?_,fun x hx=>?_⟩
 .exact KZ0
 refine gYe ?_;obtain⟨i,out⟩:=x;obtain⟨hi1,hi2,hi3,hi4,hi5⟩:=hx;simp only at hi1 hi2 hi3 hi4 hi5;refine brI (fun h1=>?_) (fun h1=>?_)
 .have hi:i<a.length:=by simp only[Z4]at h1;omega
  have hxa:a[i]? =some a[i]:=q3 hi;have hxb:=ha _ (qI hi);generalize a[i]=x at hxa hxb;rw[qh hxa]at hi4;simp only[zj2]at hi4;obtain⟨o1,d1,hm1,hm2,hm3,hm4,hm5,hm6⟩:=zgq x.toNat O b i out 0 hb hi2 O O;have hm1:zfn x b i out 0=(o1,(d1:Int)):=by
   have hm1:zfn ((x.toNat:Nat):Int) b i out 0=(o1,(d1:Int)):=hm1
   rwa [show((x.toNat:Nat):Int)=x by omega]at hm1
  clear hm5;rw[hm1]at hi4;simp only at hi4;have hz1:∀j,i+b.length<=j->o1[j]?.getD 0=0:=fun j hj=>by rw[hm6 j hj];exact hi5 j hj
  have hnx:∀j,i+1+b.length<=j->(o1.set (i+b.length) (d1:Int))[j]?.getD 0=0:=fun j hj=>by
   rw[qP O];exact hz1 j O
  conv=>whnf
  refine⟨Nat×List Int×Int,fun z=>z.1<=b.length+1/\LB z.2.1/\z.2.1.length=a.length+b.length+1/\(0<=z.2.2/\z.2.2<4294967296)/\((z.1<=b.length/\zfn x (b.drop z.1) (i+z.1) z.2.1 z.2.2=(o1,(d1:Int)))\/(z.1=b.length+1/\z.2.2=0/\z.2.1=o1.set (i+b.length) (d1:Int))),fun z=> [(8,.int .i64 z.1),(7,.int .u64 z.2.2)],fun z=> [(16,.buf 101 .u32 z.2.1)],fun z=>b.length+1-z.1,(0,out,0),⟨OC,hi2,hi3,OC,.inl ⟨OC,by simpa using hm1⟩⟩,?_,fun z hz=>?_⟩
  .exact KZ0
  obtain⟨k,o2,c⟩:=z;obtain⟨hk1,hk2,hk3,hk4,hk5⟩:=hz;simp only at hk1 hk2 hk3 hk4 hk5;have hob:=hk2.at (i+k);have rbk:=rb k;have hbk:=hb.at k;have hbd:=zs9 hxb hbk hob hk4;have hik:k<=b.length->vR.wrap ((i:Int)+(k:Int))=((i+k:Nat):Int):=fun h=>by rw[wI O];omega
  have hnext:k<=b.length->(k=b.length->c≠0)->∃(o3:List Int)(c3:Int),o3=o2.set (i+k) ((x*b[k]?.getD 0+o2[i+k]?.getD 0+c) % 4294967296)/\c3=(x*b[k]?.getD 0+o2[i+k]?.getD 0+c)/4294967296/\(k+1<=b.length+1/\LB o3/\o3.length=a.length+b.length+1/\(0<=c3/\c3<4294967296)/\((k+1<=b.length/\zfn x (b.drop (k+1)) (i+(k+1)) o3 c3=(o1,(d1:Int)))\/(k+1=b.length+1/\c3=0/\o3=o1.set (i+b.length) (d1:Int)))):=fun h hc=>by
   refine⟨_,_,rfl,rfl,O,hk2.set O,by rw[qT];exact hk3,O,?_⟩;by_cases hkb:k<b.length
   .rcases hk5 with ⟨_,hk5⟩|⟨h6,_⟩
    .left;have hy:b[k]? =some b[k]:=q3 hkb;rw[qh hy]at hk5;simp only[zfn]at hk5;rw[hy];exact⟨O,hk5⟩
    .omega
   .have hkl:k=b.length:=by omega
    subst hkl;rcases hk5 with ⟨_,hk5⟩|⟨h6,_⟩
    .right;rw[qR O]at hk5;simp only[zfn,Prod.mk.injEq]at hk5;obtain⟨rfl,rfl⟩:=hk5;rw[qH (qJ _),hz1 _ (qJ _)];simp only[wH,Int.mul_zero,Int.zero_add];refine⟨trivial,O,?_⟩
     congr 1
     omega
    .omega
  generalize b[k]?.getD 0=y at*;have hsum:vQ.wrap (vQ.wrap (vQ.wrap (vQ.wrap x*y)+vQ.wrap (o2[i+k]?.getD 0))+c)=x*y+o2[i+k]?.getD 0+c:=by
   rw[wU (x:=x) O,wU (x:=o2[i+k]?.getD 0) O,wU (x:=x*y) O,wU (x:=x*y+o2[i+k]?.getD 0) O,wU O]
  have hgo:k<=b.length->o2[i+k]? =some (o2[i+k]?.getD 0):=fun h=>by
   rw[q3 O];rfl
  generalize o2[i+k]?.getD 0=o at*;obtain⟨s,hs⟩:∃s,x*y+o+c=s:=⟨_,rfl⟩;rw[hs]at hbd hnext hsum;have e1:vS.wrap (s % 4294967296)=s % 4294967296:=by simp[vU,vT,vV]
  have e2:s.fdiv 4294967296=s/4294967296:=qB _ OA;have e3:=zen s O;have hend:¬k<b.length->c=0->o2=o1.set (i+b.length) (d1:Int):=fun h hc=>by
   rcases hk5 with ⟨h5,hk5⟩|⟨_,_,h6⟩
   .have hkl:k=b.length:=by omega
    subst hkl;rw[qR O]at hk5;simp only[zfn,Prod.mk.injEq]at hk5;obtain⟨rfl,h7⟩:=hk5;rw[<-h7,hc,zk3 O (hz1 _ (qJ _))]
   .exact h6
  have hkle:k<b.length\/c≠0->k<=b.length:=fun h=>by
   rcases hk5 with ⟨h5,_⟩|⟨h6,h7,_⟩
   .exact h5
   .rcases h with h|h
    .omega
    .exact absurd h7 h
  refine gYe ?_;refine brI (fun h2=>?_) (fun h2=>?_)
  .have h2:k<b.length:=by
    have h2:((k:Nat):Int)<(b.length:Int):=Z0 h2;omega
   have hikk:=hik O;obtain⟨o3,c3,ho3,hc3,hinv⟩:=hnext O O;conv=>whnf
   refine⟨⟨O,OD⟩,fun(z:Int)hz=>?_⟩;have hz:a[i]? =some z:=by simpa using hz
   rw[hxa]at hz;cases hz
   conv=>whnf
   refine gYn rbk ?_;refine⟨⟨by show 0<=vR.wrap ((i:Int)+(k:Int));rw[hikk];omega,by show vR.wrap ((i:Int)+(k:Int))<(o2.length:Int);rw[hikk];omega⟩,?_⟩;conv=>whnf
   refine⟨by show(vR.wrap ((i:Int)+(k:Int))).toNat <o2.length;rw[hikk];omega,fun(q:Int)ho=>?_⟩;have ho:o2[i+k]? =some q:=by
    have ho:o2[(vR.wrap ((i:Int)+(k:Int))).toNat]? =some q:=ho
    rwa [hikk,q0]at ho
   rw[hgo O]at ho;cases ho
   conv=>whnf
   refine gYd ?_;refine⟨⟨by show 0<=vR.wrap ((i:Int)+(k:Int));rw[hikk];omega,by show vR.wrap ((i:Int)+(k:Int))<(o2.length:Int);rw[hikk];omega⟩,?_⟩;conv=>whnf
   refine⟨by show(vR.wrap ((i:Int)+(k:Int))).toNat <o2.length;rw[hikk];omega,?_⟩;conv=>whnf
   refine⟨OA,?_⟩;conv=>whnf
   refine⟨(k+1,o3,c3),hinv,by show b.length+1-(k+1)<b.length+1-k;omega,?_⟩
   ((conv=>whnf);refine qE ?_ ?_;repeat' first|refine lc ?_ ?_|refine lh1 ?_ ?_|refine bc0 ?_|exact KXZ|refine lg0 ?_|refine lt0 ?_)
   .exact ai0 (((congrArg (fun z:Int=>z.fdiv 4294967296) hsum).trans e2).trans hc3.symm)
   .exact ai0 (by rw[wI OD];simp only;omega)
   .exact bb0 (by
     show qZ o2 (vR.wrap ((i:Int)+(k:Int))).toNat (vS.wrap _)=o3;rw[ho3,hikk,q0,<-e1,<-e3,<-hsum])
  have h2:¬k<b.length:=by
   have h2:¬((k:Nat):Int)<(b.length:Int):=Z3 h2;omega
  conv=>whnf
  refine brI (fun h3=>?_) (fun h3=>?_)
  .have h3:c≠0:=by
    have h3:c>0:=Z0 h3;omega
   have hkk:=hkle (.inr h3);have hikk:=hik hkk;obtain⟨o3,c3,ho3,hc3,hinv⟩:=hnext hkk (fun _=>h3);conv=>whnf
   refine⟨⟨O,OD⟩,fun(z:Int)hz=>?_⟩;have hz:a[i]? =some z:=by simpa using hz
   rw[hxa]at hz;cases hz
   conv=>whnf
   refine gYn rbk ?_;refine⟨⟨by show 0<=vR.wrap ((i:Int)+(k:Int));rw[hikk];omega,by show vR.wrap ((i:Int)+(k:Int))<(o2.length:Int);rw[hikk];omega⟩,?_⟩;conv=>whnf
   refine⟨by show(vR.wrap ((i:Int)+(k:Int))).toNat <o2.length;rw[hikk];omega,fun(q:Int)ho=>?_⟩;have ho:o2[i+k]? =some q:=by
    have ho:o2[(vR.wrap ((i:Int)+(k:Int))).toNat]? =some q:=ho
    rwa [hikk,q0]at ho
   rw[hgo O]at ho;cases ho
   conv=>whnf
   refine gYd ?_;refine⟨⟨by show 0<=vR.wrap ((i:Int)+(k:Int));rw[hikk];omega,by show vR.wrap ((i:Int)+(k:Int))<(o2.length:Int);rw[hikk];omega⟩,?_⟩;conv=>whnf
   refine⟨by show(vR.wrap ((i:Int)+(k:Int))).toNat <o2.length;rw[hikk];omega,?_⟩;conv=>whnf
   refine⟨OA,?_⟩;conv=>whnf
   refine⟨(k+1,o3,c3),hinv,by show b.length+1-(k+1)<b.length+1-k;omega,?_⟩
   ((conv=>whnf);refine qE ?_ ?_;repeat' first|refine lc ?_ ?_|refine lh1 ?_ ?_|refine bc0 ?_|exact KXZ|refine lg0 ?_|refine lt0 ?_)
   .exact ai0 (((congrArg (fun z:Int=>z.fdiv 4294967296) hsum).trans e2).trans hc3.symm)
   .exact ai0 (by rw[wI OD];simp only;omega)
   .exact bb0 (by
     show qZ o2 (vR.wrap ((i:Int)+(k:Int))).toNat (vS.wrap _)=o3;rw[ho3,hikk,q0,<-e1,<-e3,<-hsum])
  .have h3:c=0:=by
    have h3:¬c>0:=Z3 h3;omega
   have he:=hend h2 h3;rw[<-he]at hi4 hnx;conv=>whnf
   refine⟨(i+1,o2),⟨OD,hk2,hk3,hi4,hnx⟩,by show a.length-(i+1)<a.length-i;omega,?_⟩;exact KZ0
 .have hi:i=a.length:=by simp only[Z5]at h1;omega
  subst hi;rw[qR O]at hi4;simp only[zj2]at hi4;subst hi4;conv=>whnf
  refine gYn h331 ?_;exact⟨lr rfl,lh0⟩
theorem lo_or{x r o:Nat}(hr:r<32)(ho:o<2^r):o|||(x*2^r % 4294967296)=o+x*2^r % 4294967296/\o+x*2^r % 4294967296<4294967296:=by
 have e:(4294967296:Nat)=2^r*2^(32-r):=by rw[<-qN,(O:r+(32-r)=32)]
 have h1:x*2^r % 4294967296=2^r*(x % 2^(32-r)):=by rw[e,qY x,Nat.mul_mod_mul_left]
 have h2:x % 2^(32-r)+1<=2^(32-r):=w3 _ (qD _);have h3:=wn (2^r) h2;rw[<-e,qO,wN]at h3;rw[h1];constructor
 .rw[Nat.or_comm,<-wO ho,vK]
 .omega
theorem zv0{B KP IP P vo v1 v2 vt s o:Nat}(hP:P=KP*IP)(h0:vo=KP*vt)(h1:v1+P*o=vo+P*(o+s % B))(h2:v2=v1+P*B*(s/B)):v2=KP*vt+KP*(IP*s):=by
 have hmd:=qM s B;have q:P*(s % B)+P*B*(s/B)=P*s:=by
  conv=>rhs;rw[<-hmd]
  rw[qO,qL,vK]
 rw[<-qL,<-hP];rw[qO]at h1;omega
theorem qdw{x:Nat}(hx:x<4294967296)(r:Nat):x*2^r/4294967296<2^r:=by
 have hp:=qD r;generalize 2^r=p at*;exact(wZ OA).2 (by rw[qY p];exact wP hx hp)
theorem zr2{out t:List Int}{K i r x o:Nat}(_:LB out)(hi3:out.length=K+t.length+1)(hi:i<t.length)(hxa:t[i]? =some (x:Int))(hi4:val out=4294967296^K*(val (t.take i)*2^r))(ho:out[K+i]?.getD 0=(o:Int))(hz:out[K+i+1]?.getD 0=0):
 val ((out.set (K+i) ((o+x*2^r % 4294967296:Nat):Int)).set (K+i+1) ((x*2^r/4294967296:Nat):Int))=4294967296^K*(val (t.take (i+1))*2^r):=by
 have hvt:val (t.take (i+1))=val (t.take i)+4294967296^i*x:=by rw[jo,hxa,qC,q0]
 rw[hvt,vM,qO,qL (4294967296^i)];generalize x*2^r=s at*;have hv1:=kb out (K+i) ((o+s % 4294967296:Nat):Int) O;have hv2:=kb (out.set (K+i) ((o+s % 4294967296:Nat):Int)) (K+i+1) ((s/4294967296:Nat):Int) (by rw[qT];omega);rw[qP O,hz,q0,wC,vc,we,qS]at hv2;rw[ho,q0,q0]at hv1;exact zv0 (qN _ _ _) hi4 hv1 hv2
theorem qd6{a:List Int}(ha:LB a)(hal:a.length<=100000)(n:Nat)(hn:n<=100000):Fn 212 [] [.sl .u32 a,.int .i64 n] (.sl .u32 (toL (val a*2^n))) []:=by
 have h331:=zvd ha O;have hll:(toL (val a)).length <=100000:=w2 (zfq ha) hal;have hlb:=zk (val a);have htv:=zg (val a);generalize val a=X at*;generalize toL X=t at*;have hq:vR.wrap ((n:Int).tdiv 32)=((n/32:Nat):Int):=by
  rw[show(n:Int).tdiv 32=((n/32:Nat):Int)from w7 n 32,wI O]
 have h9:(n:Int).tmod 32=((n % 32:Nat):Int):=w4 n 32;have hr:n % 32<32:=w3 _ OA;have hkr:32*(n/32)+n % 32=n:=O;have hk:n/32<=3125:=O;have hpn:2^n=2^(32*(n/32))*2^(n % 32):=by rw[<-qN,hkr]
 rw[hpn];generalize hK:n/32=K at*;generalize hR:n % 32=r at*;have hp31:2^r<=2147483648:=w8 (n:=2) OA (O:r<=31);refine fY6 Tryz.func212 rfl ?_;refine gYn h331 ?_;refine⟨O,?_⟩;conv=>whnf
 rw[hq,wI (x:=((K:Nat):Int)+(t.length:Int)) O,wI (x:=((K:Nat):Int)+(t.length:Int)+1) O];refine⟨⟨O,O,O⟩,?_⟩;conv=>whnf
 refine⟨Nat×List Int,fun z=>z.1<=t.length/\LB z.2/\z.2.length=K+t.length+1/\val z.2=4294967296^K*(val (t.take z.1)*2^r)/\(z.2[K+z.1]?.getD 0).toNat <2^r/\(∀j,K+z.1<j->z.2[j]?.getD 0=0),fun z=> [(6,.int .i64 z.1)],fun z=> [(16,.buf 101 .u32 z.2)],fun z=>t.length-z.1,(0,qF (K+t.length+1) 0),⟨OC,(fun z hz=>by rw[qW hz];omega),OC,by rw[zad];simp[val],by simp only[qQ];split<;>simp[qD],fun j _=>by
  simp only[qQ];split<;>rfl⟩,?_,fun z hz=>?_⟩
 .exact KZ0
 obtain⟨i,out⟩:=z;obtain⟨hi1,hi2,hi3,hi4,hi5,hi6⟩:=hz;simp only at hi1 hi2 hi3 hi4 hi5 hi6;refine gYe ?_;refine brI (fun h1=>?_) (fun h1=>?_)
 .have hi:i<t.length:=by simp only[Z4]at h1;omega
  have hxa:t[i]? =some t[i]:=q3 hi;have hxb:=hlb _ (qI hi);generalize t[i]=x at hxa hxb;obtain⟨x,rfl⟩:=qX hxb.1;have hx:x<4294967296:=O;have hgo:out[K+i]? =some (out[K+i]?.getD 0):=by rw[q3 O];rfl
  have hob:=hi2.at (K+i);obtain⟨o,ho⟩:∃o:Nat,out[K+i]?.getD 0=(o:Int):=⟨_,(v7 hob.1).symm⟩;have ho2:o<2^r:=by rw[ho,q0]at hi5;exact hi5
  obtain⟨l1,l2⟩:=lo_or (x:=x) hr ho2;have hs2:x*2^r<4294967296*2^r:=wP hx (qD _);have es:vQ.wrap (((x:Nat):Int)*2^min ((n:Int).tmod 32).toNat vQ.bits)=((x*2^r:Nat):Int):=by
   have e1:min ((n:Int).tmod 32).toNat vQ.bits=r:=by rw[h9];show min ((r:Nat):Int).toNat 64=r;omega
   rw[e1,show((x:Nat):Int)*2^r=((x*2^r:Nat):Int) by simp,wU O]
  have hhi:=qdw hx r;have hor:vS.wrap ((q4 vS.bits (o:Int)|||q4 vS.bits (vS.wrap (vQ.wrap ((q4 vQ.bits (vQ.wrap (((x:Nat):Int)*2^min ((n:Int).tmod 32).toNat vQ.bits))&&& q4 vQ.bits 4294967295).toNat :Int)))).toNat :Int)=((o+x*2^r % 4294967296:Nat):Int):=by
   rw[es,loB O];have h:=qcu o (x*2^r % 4294967296) O (w3 _ OA);rw[l1]at h;exact h
  have hval:=zr2 hi2 hi3 hi hxa hi4 ho (hi6 _ (wJ _));have hik:vR.wrap ((i:Int)+((K:Nat):Int))=((K+i:Nat):Int):=by rw[wI O];omega
  have hik1:vR.wrap (((K+i:Nat):Int)+1)=((K+i+1:Nat):Int):=by rw[wI O];omega
  conv=>whnf
  refine⟨⟨O,OD⟩,fun(z:Int)hz=>?_⟩;have hz:t[i]? =some z:=by simpa using hz
  rw[hxa]at hz;cases hz
  conv=>whnf
  refine⟨O,?_⟩;conv=>whnf
  refine⟨by rw[h9];omega,?_⟩;conv=>whnf
  rw[hq,wU (x:=((x:Nat):Int)) O];refine⟨OA,?_⟩;conv=>whnf
  refine⟨OA,?_⟩;conv=>whnf
  refine⟨⟨by show 0<=vR.wrap ((i:Int)+vR.wrap ((n:Int).tdiv 32));rw[hq,hik];omega,by show vR.wrap ((i:Int)+vR.wrap ((n:Int).tdiv 32))<(out.length:Int);rw[hq,hik];omega⟩,?_⟩;conv=>whnf
  refine⟨by show(vR.wrap ((i:Int)+vR.wrap ((n:Int).tdiv 32))).toNat <out.length;rw[hq,hik];omega,fun(q:Int)hq2=>?_⟩;have hq2:out[K+i]? =some q:=by
   have hq2:out[(vR.wrap ((i:Int)+vR.wrap ((n:Int).tdiv 32))).toNat]? =some q:=hq2
   rwa [hq,hik,q0]at hq2
  rw[hgo,ho]at hq2;cases hq2
  conv=>whnf
  refine⟨⟨by show 0<=vR.wrap ((i:Int)+((K:Nat):Int));rw[hik];omega,by show vR.wrap ((i:Int)+((K:Nat):Int))<(out.length:Int);rw[hik];omega⟩,?_⟩;conv=>whnf
  refine⟨by show(vR.wrap ((i:Int)+((K:Nat):Int))).toNat <out.length;rw[hik];omega,?_⟩;conv=>whnf
  refine⟨OA,?_⟩;conv=>whnf
  refine⟨OA,?_⟩;conv=>whnf
  rw[hor];refine⟨⟨by show 0<=vR.wrap (vR.wrap ((i:Int)+vR.wrap ((n:Int).tdiv 32))+1);rw[hq,hik,hik1];omega,by show vR.wrap (vR.wrap ((i:Int)+vR.wrap ((n:Int).tdiv 32))+1)<((qZ out _ _).length :Int);rw[hq,hik,hik1,qT];omega⟩,?_⟩;conv=>whnf
  refine⟨by show(vR.wrap (vR.wrap ((i:Int)+vR.wrap ((n:Int).tdiv 32))+1)).toNat <(qZ out _ _).length;rw[hq,hik,hik1,qT];omega,?_⟩;conv=>whnf
  refine⟨(i+1,(out.set (K+i) ((o+x*2^r % 4294967296:Nat):Int)).set (K+i+1) ((x*2^r/4294967296:Nat):Int)),⟨OD,(hi2.set ⟨O,O⟩).set ⟨O,O⟩,by simp only[qT];exact hi3,hval,?_,fun j hj=>?_⟩,by show t.length-(i+1)<t.length-i;omega,?_⟩
  .simp only;rw[(O:K+(i+1)=K+i+1),wD (by rw[qT];omega),qC,q0];exact hhi
  .simp only at hj⊢;rw[qP O,qP O];exact hi6 j O
  ((conv=>whnf);refine qE ?_ ?_;repeat' first|refine lc ?_ ?_|refine lh1 ?_ ?_|refine bc0 ?_|exact KXZ|refine lg0 ?_|refine lt0 ?_)
  .exact ai0 (by rw[wI OD];simp only;omega)
  .exact bb0 (by
    show qZ (qZ out (vR.wrap ((i:Int)+((K:Nat):Int))).toNat ((o+x*2^r % 4294967296:Nat):Int)) (vR.wrap (vR.wrap ((i:Int)+vR.wrap ((n:Int).tdiv 32))+1)).toNat (vS.wrap ((vQ.wrap (((x:Nat):Int)*2^min ((n:Int).tmod 32).toNat vQ.bits)).fdiv 4294967296))=_;rw[hq,hik,hik1,q0,q0,es,fdB,zp7 O])
 .have hi:i=t.length:=by simp only[Z5]at h1;omega
  subst hi;rw[qV,htv]at hi4;have hB:(4294967296:Nat)^K=2^(32*K):=by rw[vv]
  have h2:=zvd hi2 O;rw[hi4,hB,show 2^(32*K)*(X*2^r)=X*(2^(32*K)*2^r) by rw[<-qL,qY (2^(32*K)) X,qL]]at h2;conv=>whnf
  refine gYn h2 ?_;exact⟨lr rfl,lh0⟩
theorem r329(p:Int):Fn 37 [] [.int .i64 p] (.bool (decide (8<=p/\p<=512))) []:=by
 refine fY6 Tryz.func37 rfl ?_;refine brI (fun h=>?_) (fun h=>?_)
 .have h:p≥8:=Z0 h;conv=>whnf
  exact⟨ab0 (decide_eq_decide.2 O),lh0⟩
 .have h:¬p≥8:=Z3 h;rw[Z9 (O:¬(8<=p/\p<=512))];conv=>whnf
  exact⟨lr rfl,lh0⟩
def ftR(a b:Dy)(p:Int):Int:=if vB a=true/\vB b=true then(if 8<=p/\p<=512 then 0 else 2)else 1
theorem qd7(a b:Dy)(ha:LB a.m)(hb:LB b.m)(hal:a.m.length<=1000000)(hbl:b.m.length<=1000000)(p:Int):Fn 80 [] [.agg (dyC a),.agg (dyC b),.int .i64 p] (.int .i64 (ftR a b p)) []:=by
 have h1:=qcs a ha O;have h2:=qcs b hb O;have h3:=r329 p;unfold ftR;generalize vB a=A at*;generalize vB b=B at*;by_cases hp:8<=p/\p<=512
 .rw[Z8 hp]at h3;rw[Z6 hp];cases A<;>cases B<;>
  .refine fY6 Tryz.func80 rfl ?_;refine gYn h1 ?_
   first
    |exact⟨lr rfl,lh0⟩
    |(refine gZn h2 ?_
      conv=>whnf
      first
       |exact⟨lr rfl,lh0⟩
       |(refine gZn h3 ?_
         conv=>whnf
         exact⟨lr rfl,lh0⟩))
 .rw[Z9 hp]at h3;rw[Z7 hp];cases A<;>cases B<;>
  .refine fY6 Tryz.func80 rfl ?_;refine gYn h1 ?_
   first
    |exact⟨lr rfl,lh0⟩
    |(refine gZn h2 ?_
      conv=>whnf
      first
       |exact⟨lr rfl,lh0⟩
       |(refine gZn h3 ?_
         conv=>whnf
         exact⟨lr rfl,lh0⟩))
theorem r336(neg:Bool)(p:Nat)(hp:8<=p/\p<=512):Fn 214 [] [.bool neg,.int .i64 p] (.agg (dyC (cnN neg (2^p-1) (16384-p)))) []:=by
 have lb1:LB [1]:=fun z hz=>by
  have:z=1:=by simpa using hz
  omega
 have hv1:val [1]=1:=rfl;have h1:=qd6 lb1 OC p O;rw[hv1,vO]at h1;have hl:(toL (2^p)).length <=100:=(zu _ 100).2 (by have:=vr.2 (v5 (a:=2) OA (wJ p));omega);have hpos:=qD p;have h2:=r341 (zk (2^p)) lb1 O OC (by rw[hv1,zg];omega) (by
  have:(toL (2^p)).length ≠0:=by rw[Ne,wv];omega
  simp;omega)
 rw[hv1,zg]at h2;have h3:=zyf neg (zk (2^p-1)) (w2 (jq (Nat.sub_le _ _) hl) O) (16384-p) O;rw[zg]at h3;generalize toL (2^p-1)=L2 at*;generalize toL (2^p)=L1 at*;generalize cnN neg (2^p-1) (16384-p)=R at*;refine fY6 Tryz.func214 rfl ?_;refine gYn h1 ?_;refine gYn h2 ?_;rw[wI O];refine gYn h3 ?_;exact⟨lr rfl,lh0⟩
def kR(m:Nat)(e p:Int):Nat:=(max (max ((bl m:Int)-p) (-16384-e)) 0).toNat
def moR(m:Nat)(e p:Int)(more:Bool):Bool:=more||decide (m % 2^kR m e p≠0)
def quR(neg:Bool)(m:Nat)(e p:Int)(more up:Bool):Nat:=if(moR m e p more&&(neg != up))=true then m/2^kR m e p+1 else m/2^kR m e p
def zhk(neg:Bool)(m:Nat)(e:Int)(more:Bool)(p:Nat)(up:Bool):Dy×Int:=
 if 0<bl (quR neg m e p more up)/\16384<(bl (quR neg m e p more up):Int)+e+kR m e p then(if(neg != up)=true then(d0,9)else(cnN neg (2^p-1) (16384-p),0))
 else(cnN neg (quR neg m e p more up) (e+kR m e p),0)
theorem qak(m k:Nat):(kd (m/2^k*2^k) m != 0)=decide (m % 2^k≠0):=by
 rw[zjt];refine decide_eq_decide.2 ?_;have:=qM m (2^k);rw[qY]at this;omega
noncomputable def qb1:Code:=Tryz.f153.body.getD .skip
theorem r305(neg:Bool){l:List Int}(hb:LB l)(hl:l.length<=3000)(e:Int)(he: -80000<=e/\e<=100000)(more:Bool)(p:Nat)(hp:8<=p/\p<=512)(up:Bool):
 Fn 153 [] [.bool neg,.sl .u32 l,.int .i64 e,.bool more,.int .i64 p,.bool up] (dyV (zhk neg (val l) e more p up)) []:=by
 have h331:=zvd hb O;have hll:(toL (val l)).length <=3000:=w2 (zfq hb) hl;generalize val l=m at*;have hbm:bl m<=32*3000:=(zu _ _).1 hll;have h302:=zye (zk m) O;rw[zg]at h302;have hkd:((kR m e p:Nat):Int)=max (max ((bl m:Int)-p) (-16384-e)) 0:=by unfold kR;omega
 have hkb:kR m e p<=96000:=O;have h334:=r334 (zk m) O (kR m e p) O;rw[zg]at h334;have hK:(if(0:Int)>(if vR.wrap (-16384-e)>vR.wrap ((bl m:Nat)-(p:Int))then vR.wrap (-16384-e)else vR.wrap ((bl m:Nat)-(p:Int)))then 0 else(if vR.wrap (-16384-e)>vR.wrap ((bl m:Nat)-(p:Int))then vR.wrap (-16384-e)else vR.wrap ((bl m:Nat)-(p:Int))))=((kR m e p:Nat):Int):=by
  rw[wI (x:= -16384-e) O,wI (x:=((bl m:Nat):Int)-(p:Int)) O,hkd];split<;>(try split)<;>omega
 have hql:(toL (m/2^kR m e p)).length <=3000:=jq (ws _ _) hll;have h304:=qd6 (zk (m/2^kR m e p)) O (kR m e p) O;rw[zg]at h304;have h310:=r310 (zk (m/2^kR m e p*2^kR m e p)) (zk m) (w2 (jq (Nat.div_mul_le_self _ _) hll) O) O;rw[zg,zg]at h310;have hord:=qak m (kR m e p);refine qr (code:=qb1) hT6 hmx Tryz.func153 rfl rfl (ex:= []) ?_;conv=>whnf
 refine jm hT6 hmx 6 (fun _:Unit=>⟨[.bool neg,.sl .u32 (toL m),.int .i64 e,.bool (moR m e p more),.int .i64 p,.bool up,.any,.any,.any,.any,.any,.any,.ptr 12 0,.int .i64 0,.any,.int .i64 ((kR m e p:Nat):Int),.sl .u32 (toL (m/2^kR m e p))]++uo 57,[(12,.cells [.bool false,.nilsl,.int .i64 0])]⟩) (fun _=>Z) ?_ (fun _=>?_)
 .unfold moR;generalize kd (m/2^kR m e p*2^kR m e p) m=Oq at*;have hk0:kR m e p=0->decide (m % 2^kR m e p≠0)=false:=fun h=>by rw[h];simp;omega
  generalize decide (m % 2^kR m e p≠0)=D at*;conv=>whnf
  refine gYn h331 ?_;refine gYn h302 ?_;rw[hK];refine gYn h334 ?_;refine brI (fun h=>?_) (fun h=>?_)
  .conv=>whnf
   refine gYn h304 ?_;refine gYn h310 ?_;refine brI (fun h2=>?_) (fun h2=>?_)
   .have h2:(Oq != 0)=true:=h2;rw[hord]at h2;conv=>whnf
    refine⟨(),?_⟩
    ((conv=>whnf);refine qE ?_ ?_;repeat' first|refine lc ?_ ?_|refine lh1 ?_ ?_|refine bc0 ?_|exact KXZ|refine lg0 ?_|refine lt0 ?_)
    all_goals exact ab0 (by rw[h2,Bool.or_true])
   .have h2:(Oq != 0)=false:=h2;rw[hord]at h2;conv=>whnf
    refine⟨(),?_⟩
    ((conv=>whnf);refine qE ?_ ?_;repeat' first|refine lc ?_ ?_|refine lh1 ?_ ?_|refine bc0 ?_|exact KXZ|refine lg0 ?_|refine lt0 ?_)
    all_goals exact ab0 (by rw[h2,vH])
  .have h:¬((kR m e p:Nat):Int)>0:=Z3 h;have h2:=hk0 O;conv=>whnf
   refine⟨(),?_⟩
   ((conv=>whnf);refine qE ?_ ?_;repeat' first|refine lc ?_ ?_|refine lh1 ?_ ?_|refine bc0 ?_|exact KXZ|refine lg0 ?_|refine lt0 ?_)
   all_goals exact ab0 (by rw[h2,vH])
 .have lb1:LB [1]:=fun z hz=>by
   have:z=1:=by simpa using hz
   omega
  have h335:=r335 (zk (m/2^kR m e p)) lb1 O OC;rw[zg,show val [1]=1 from rfl]at h335;have hqd:quR neg m e p more up=if(moR m e p more&&(neg != up))=true then m/2^kR m e p+1 else m/2^kR m e p:=rfl
  have hQl:(toL (quR neg m e p more up)).length <=4000:=by
   have hq0:bl (m/2^kR m e p)<=32*3000:=(zu _ _).1 hql;rw[zu];have:=zbz (m/2^kR m e p);rw[hqd];split<;>omega
  have h302':=zye (zk (quR neg m e p more up)) O;rw[zg]at h302';have hbQ:bl (quR neg m e p more up)<=32*4000:=(zu _ _).1 hQl;have h296:=zyf neg (zk (quR neg m e p more up)) O (e+kR m e p) O;rw[zg]at h296;have h336:=r336 neg p hp;have hcd:zhk neg m e more p up=if 0<bl (quR neg m e p more up)/\16384<(bl (quR neg m e p more up):Int)+e+kR m e p then(if(neg != up)=true then(d0,9)else(cnN neg (2^p-1) (16384-p),0))else(cnN neg (quR neg m e p more up) (e+kR m e p),0):=rfl
  rw[hcd];generalize moR m e p more=MO at*;refine jm hT6 hmx 2 (fun _:Unit=>⟨[.bool neg,.any,.int .i64 e,.any,.int .i64 p,.any,.any,.any,.any,.any,.any,.any,.ptr 12 0,.int .i64 0,.any,.int .i64 ((kR m e p:Nat):Int),.sl .u32 (toL (quR neg m e p more up)),.bool (neg != up)]++uo 56,[(12,.cells [.bool false,.nilsl,.int .i64 0])]⟩) (fun _=>Z) ?_ (fun _=>?_)
  .generalize quR neg m e p more up=QU at*
   cases MO with
   |false=>
    have hqd:QU=m/2^kR m e p:=by rw[hqd];rfl
    conv=>whnf
    refine⟨(),?_⟩
    ((conv=>whnf);refine qE ?_ ?_;repeat' first|refine lc ?_ ?_|refine lh1 ?_ ?_|refine bc0 ?_|exact KXZ|refine lg0 ?_|refine lt0 ?_)
    all_goals exact vp (by rw[hqd])
   |true=>
    conv=>whnf
    refine brI (fun h=>?_) (fun h=>?_)
    .have h:(neg != up)=true:=h;have hqd:QU=m/2^kR m e p+1:=by rw[hqd,h];rfl
     conv=>whnf
     refine gYn h335 ?_;refine⟨(),?_⟩
     ((conv=>whnf);refine qE ?_ ?_;repeat' first|refine lc ?_ ?_|refine lh1 ?_ ?_|refine bc0 ?_|exact KXZ|refine lg0 ?_|refine lt0 ?_)
     all_goals exact vp (by rw[hqd])
    .have h:(neg != up)=false:=h;have hqd:QU=m/2^kR m e p:=by rw[hqd,h];rfl
     conv=>whnf
     refine⟨(),?_⟩
     ((conv=>whnf);refine qE ?_ ?_;repeat' first|refine lc ?_ ?_|refine lh1 ?_ ?_|refine bc0 ?_|exact KXZ|refine lg0 ?_|refine lt0 ?_)
     all_goals exact vp (by rw[hqd])
  .clear hqd h335 h304 h310 hord h331 h334 h302;have hkk:kR m e p<=96000:=hkb;generalize quR neg m e p more up=QU at*;generalize kR m e p=k at*;generalize (neg != up)=OUT at*;generalize cnN neg (2^p-1) (16384-p)=GR at*;generalize cnN neg QU (e+k)=RR at*;generalize toL QU=LQ at*;generalize bl QU=B at*;have hk2:vR.wrap (e+(k:Int))=e+k:=wI O;refine ww hT6 hmx ?_;conv=>whnf
   refine gYn h302' ?_;refine brI (fun h1=>?_) (fun h1=>?_)
   .have h1:(B:Int)>0:=Z0 h1;conv=>whnf
    refine gYn h302' ?_;rw[wI (x:=(B:Int)+e) O,wI (x:=(B:Int)+e+(k:Int)) O];refine brI (fun h2=>?_) (fun h2=>?_)
    .have h2:(B:Int)+e+k>16384:=Z0 h2;rw[Z6 ⟨O,O⟩]
     cases OUT with
     |true=>
      conv=>whnf
      exact⟨lt0 (lc zyq (lc (lr rfl) ln0)),lh0⟩
     |false=>
      conv=>whnf
      refine gYn h336 ?_;exact⟨lr rfl,lh0⟩
    .have h2:¬(B:Int)+e+k>16384:=Z3 h2;rw[Z7 O];conv=>whnf
     rw[hk2];refine gYn h296 ?_;exact⟨lr rfl,lh0⟩
   .have h1:¬(B:Int)>0:=Z3 h1;rw[Z7 O];conv=>whnf
    rw[hk2];refine gYn h296 ?_;exact⟨lr rfl,lh0⟩
def zxz(d:Dy):Prop:=LB d.m/\d.m.length<=3000/\ -80000<=d.e/\d.e<=100000
theorem zkp{d:Dy}(h:VD d):zxz d:=⟨h.lb,by have:=h.len;omega,by have:=h.exp;omega,by have:=h.exp;omega⟩
theorem zb6(neg:Bool){n:Nat}{e:Int}(hn:bl n<=60000)(he: -40000<=e/\e<=40000):zxz (cnN neg n e):=by
 unfold cnN;split
 .exact⟨(fun x hx=>by cases hx),OA,OA,OA⟩
 .rename_i h;have h1:=zn3 h;refine⟨zk _,?_,OD,OD⟩;simp only;exact jq (ws _ _) ((zu _ _).2 O)
theorem zu5{a b:Dy}(ha:VD a)(hb:VD b):zxz (zc7 a b):=by
 unfold zc7;have ea:=ha.exp;have eb:=hb.exp;have ba:=ha.bits;have bb:=hb.bits;split
 .exact zkp hb
 rename_i h1;split
 .exact zkp ha
 rename_i h2;have q1:bl (nm a*2^(a.e-min a.e b.e).toNat)<=40000:=by rw[zq _ _ h1];omega
 have q2:bl (nm b*2^(b.e-min a.e b.e).toNat)<=40000:=by rw[zq _ _ h2];omega
 have hm: -40000<=min a.e b.e/\min a.e b.e<=40000:=O;generalize nm a*2^(a.e-min a.e b.e).toNat =X at*;generalize nm b*2^(b.e-min a.e b.e).toNat =Y at*;split
 .exact zb6 _ (by have:=zpw q1 q2;omega) hm
 split
 .exact zb6 _ (by have:=zz (O:X-Y<=X);omega) hm
 .exact zb6 _ (by have:=zz (O:Y-X<=Y);omega) hm
theorem r300{d:Dy}(h:zxz d)(p:Nat)(hp:8<=p/\p<=512)(up:Bool):Fn 81 [] [.agg (dyC d),.int .i64 p,.bool up] (dyV (zhk d.neg (nm d) d.e false p up)) []:=by
 have h305:=r305 d.neg h.1 h.2.1 d.e h.2.2 false p hp up;have h305:Fn 153 [] [.bool d.neg,.sl .u32 d.m,.int .i64 d.e,.bool false,.int .i64 p,.bool up] (dyV (zhk d.neg (nm d) d.e false p up)) []:=h305;generalize zhk d.neg (nm d) d.e false p up=R at*;obtain⟨s,m,e⟩:=d;obtain⟨⟨r1,r2,r3⟩,r4⟩:=R;refine fY6 Tryz.func81 rfl ?_;refine gYn h305 ?_;exact⟨lr rfl,lh0⟩
theorem r308{d:Dy}(h:VD d)(p:Nat)(hp:8<=p/\p<=512)(up:Bool):Fn 257 [] [.agg (dyC d),.int .i64 p,.bool up] (dyV (zhk d.neg (nm d) d.e false p up)) []:=by
 have hl:=h.len;have h299:=qd7 d d h.lb h.lb O O p;rw[show ftR d d p=0 by unfold ftR;rw[Z6 ⟨(jc h.lb).2 h,(jc h.lb).2 h⟩,Z6 O]]at h299;have h300:=r300 (zkp h) p hp up;generalize zhk d.neg (nm d) d.e false p up=R at*;obtain⟨s,m,e⟩:=d;obtain⟨⟨r1,r2,r3⟩,r4⟩:=R;refine fY6 Tryz.func257 rfl ?_;refine gYn h299 ?_;refine gYn h300 ?_;exact⟨lr rfl,lh0⟩
def zvi(a b:Dy)(p:Nat)(up:Bool):Dy×Int:=zhk (zc7 a b).neg (nm (zc7 a b)) (zc7 a b).e false p up
def zwn(a b:Dy)(p:Nat)(up:Bool):Dy×Int:=zhk (cnN (a.neg != b.neg) (nm a*nm b) (a.e+b.e)).neg (nm (cnN (a.neg != b.neg) (nm a*nm b) (a.e+b.e))) (cnN (a.neg != b.neg) (nm a*nm b) (a.e+b.e)).e false p up
theorem r255{a b:Dy}(ha:VD a)(hb:VD b)(p:Nat)(hp:8<=p/\p<=512)(up:Bool):Fn 46 [] [.agg (dyC a),.agg (dyC b),.int .i64 p,.bool up] (dyV (zvi a b p up)) []:=by
 have hla:=ha.len;have hlb:=hb.len;have h299:=qd7 a b ha.lb hb.lb O O p;rw[show ftR a b p=0 by unfold ftR;rw[Z6 ⟨(jc ha.lb).2 ha,(jc hb.lb).2 hb⟩,Z6 O]]at h299;have h253:=r253 ha hb;have h300:=r300 (zu5 ha hb) p hp up;unfold zvi;generalize zhk (zc7 a b).neg (nm (zc7 a b)) (zc7 a b).e false p up=R at*;generalize zc7 a b=S at*;obtain⟨⟨r1,r2,r3⟩,r4⟩:=R;refine fY6 Tryz.func46 rfl ?_;refine gYn h299 ?_;refine gYn h253 ?_;refine gYn h300 ?_;exact⟨lr rfl,lh0⟩
theorem r258{a b:Dy}(ha:VD a)(hb:VD b)(p:Nat)(hp:8<=p/\p<=512)(up:Bool):Fn 199 [] [.agg (dyC a),.agg (dyC b),.int .i64 p,.bool up] (dyV (zwn a b p up)) []:=by
 have hla:=ha.len;have hlb:=hb.len;have h299:=qd7 a b ha.lb hb.lb O O p;rw[show ftR a b p=0 by unfold ftR;rw[Z6 ⟨(jc ha.lb).2 ha,(jc hb.lb).2 hb⟩,Z6 O]]at h299;have h301:=r301 ha hb;have ea:=ha.exp;have eb:=hb.exp;have ba:=ha.bits;have bb:=hb.bits;have h300:=r300 (zb6 (a.neg != b.neg) (n:=nm a*nm b) (e:=a.e+b.e) (by have:=yi (nm a) (nm b);omega) O) p hp up;unfold zwn;generalize cnN (a.neg != b.neg) (nm a*nm b) (a.e+b.e)=S at*;generalize zhk S.neg (nm S) S.e false p up=R at*;obtain⟨⟨r1,r2,r3⟩,r4⟩:=R;refine fY6 Tryz.func199 rfl ?_;refine gYn h299 ?_;refine gYn h301 ?_;refine gYn h300 ?_;exact⟨lr rfl,lh0⟩
structure DvI(a b:List Int)(n:Nat)(out rest:List Int):Prop where
 ol:out.length=a.length
 ob:LB out
 ov:val out=val a/2^n/val b*2^n
 rl:rest.length=(toL (val b)).length +1
 rb:LB rest
 rv:val rest=val a/2^n % val b
theorem zzh(n:Nat):LB (qF n 0):=fun x hx=>by rw[(List.mem_replicate.1 hx).2];decide
theorem DvI.zero(a b:List Int):DvI a b (bl (val a)) (qF a.length 0) (qF ((toL (val b)).length +1) 0):=by
 have h:val a/2^bl (val a)=0:=vm (vr.1 (qJ _));exact⟨OC,zzh _,by rw[zad,h];simp,OC,zzh _,by rw[zad,h];simp⟩
def pI:Nat->Int
 |0=> -1
 |m+1=>m
theorem zst(n:Nat):pI n=(n:Int)-1:=by
 cases n with
 |zero=>rfl
 |succ m=>show(m:Int)=_;omega
theorem and_1(s:Int)(h:0<=s/\s<4294967296):vS.wrap ((q4 vS.bits s&&& q4 vS.bits 1).toNat :Int)=s % 2:=by
 obtain⟨n,rfl⟩:∃n:Nat,s=n:=⟨s.toNat,O⟩;have e1:(q4 32 (n:Int)).toNat =n:=by rw[w6,wA];exact w9 O
 have e2:(q4 32 1).toNat =2^1-1:=OA;have e3:(q4 32 (n:Int)&&& q4 32 1).toNat =n % 2:=by
  rw[wF,e1,e2,qU]
 show vS.wrap ((q4 32 (n:Int)&&& q4 32 1).toNat :Int)=_;rw[e3];have:n % 2<2:=w3 _ OA;have e4:∀t:Nat,t<2->vS.wrap (t:Int)=t:=fun t ht=>by
  obtain rfl|rfl:t=0\/t=1:=O
  .rfl
  .rfl
 rw[e4 _ this];omega
theorem zun{a:List Int}(ha:LB a){x:Int}(m:Nat){j:Nat}(hx:a[j]? =some x)(hj:j=m/32)(hxb:0<=x/\x<4294967296):
 vS.wrap ((q4 vS.bits (x.fdiv (2^min (m % 32) vS.bits))&&& q4 vS.bits 1).toNat :Int)=((val a/2^m % 2:Nat):Int):=by
 subst hj;have hv:=zzp ha m;rw[hx,qC]at hv;rw[<-hv];obtain⟨n,rfl⟩:∃n:Nat,x=n:=⟨x.toNat,O⟩;have h1:min (m % 32) vS.bits=m % 32:=vy (by show m % 32<=32;omega);have h2:(n:Int).fdiv (2^(m % 32))=((n/2^(m % 32):Nat):Int):=by
  rw[qB _ (v4 OA)];simp
 have h3:n/2^(m % 32)<=n:=ws _ _;rw[h1,h2,q0];generalize n/2^(m % 32)=q at*;rw[and_1 _ O];omega
theorem zks(n:Nat):vS.wrap (n:Int)=((n % 4294967296:Nat):Int):=by
 show(if(false&&decide ((n:Int) % 4294967296≥2147483648))=true then(n:Int) % 4294967296-4294967296 else(n:Int) % 4294967296)=_;simp only[w0,wQ,if_false];omega
theorem qdv(x:Nat):((x:Int)).fdiv (2^min (wK 31) vS.bits)=((x/2147483648:Nat):Int):=by
 show((x:Int)).fdiv 2147483648=_;rw[qB _ OA];omega
theorem qfm{x c:Nat}(hx:x<4294967296)(hc:c<=1):vS.wrap ((q4 vS.bits (vS.wrap ((x:Int)*2^min (wK 1) vS.bits))|||q4 vS.bits (c:Int)).toNat :Int)=(((2*x+c) % 4294967296:Nat):Int):=by
 have e1:vS.wrap ((x:Int)*2^min (wK 1) vS.bits)=((2*x % 4294967296:Nat):Int):=by
  rw[show(x:Int)*2^min (wK 1) vS.bits=((2*x:Nat):Int) by show(x:Int)*2^1=_;omega];exact zks _
 rw[e1];have h:=qcu (2*x % 4294967296) c (w3 _ OA) O;have e2:2*x % 4294967296|||c=(2*x+c) % 4294967296:=by
  obtain rfl|rfl:c=0\/c=1:=O
  .rw[Nat.or_zero,we]
  .have:=zsx (v:=2*x % 4294967296) (i:=0) O;rw[show(2:Nat)^0=1 from rfl]at this;rw[this];omega
 rw[e2]at h;exact h
theorem qb6{out:List Int}(hob:LB out){q m:Nat}(hov:val out=q*2^(m+1))(hj:m/32<out.length){o:Nat}(ho:(out[m/32]?.getD 0).toNat =o):
 o % 2^(m % 32+1)=0/\o+2^(m % 32)<4294967296/\val (out.set (m/32) ((o+2^(m % 32):Nat):Int))=(2*q+1)*2^m:=by
 have h1:=znv hob (m/32);rw[ho,hov]at h1;have hm:32*(m/32)+m % 32=m:=qM m 32;have hr:m % 32<32:=w3 _ OA;have h4:=kb out (m/32) ((o+2^(m % 32):Nat):Int) hj;rw[ho,q0,hov]at h4;have hP:(4294967296:Nat)^(m/32)=2^(32*(m/32)):=by rw[vv]
 rw[hP]at h4;have e1:2^(m+1)=2^(32*(m/32))*2^(m % 32+1):=by rw[<-qN];congr 1;omega
 have e2:2^m=2^(32*(m/32))*2^(m % 32):=by rw[<-qN,hm]
 rw[e1,show q*(2^(32*(m/32))*2^(m % 32+1))=2^(32*(m/32))*(q*2^(m % 32+1))from wT _ _ _,Nat.mul_div_cancel_left _ (qD _)]at h1;have e3:(4294967296:Nat)=2^(31-m % 32)*2^(m % 32+1):=by rw[<-qN,(O:31-m % 32+(m % 32+1)=32)]
 have h5:=w3 q (qD (31-m % 32));rw[e3,v0]at h1;rw[e2];generalize val (out.set (m/32) ((o+2^(m % 32):Nat):Int))=V at*;have hr2:2^(m % 32+1)=2*2^(m % 32):=by rw[qS,qY]
 have hz:=qD (m % 32);refine⟨by rw[<-h1];exact vn _ _,?_,?_⟩
 .rw[<-h1,e3];have h6:=Nat.mul_le_mul_right (2^(m % 32+1)) (O:q % 2^(31-m % 32)+1<=2^(31-m % 32));rw[vM,vO]at h6;omega
 .rw[e1,hr2]at h4;generalize 2^(32*(m/32))=P at*;generalize 2^(m % 32)=z at*;grind
theorem zwe{o r:Nat}(hr:r<32)(h0:o % 2^(r+1)=0)(h1:o+2^r<4294967296):vS.wrap ((q4 vS.bits (o:Int)|||q4 vS.bits (vS.wrap (1*2^min ((r:Nat):Int).toNat vS.bits))).toNat :Int)=((o+2^r:Nat):Int):=by
 have e1:min ((r:Nat):Int).toNat vS.bits=r:=by show min ((r:Nat):Int).toNat 32=r;omega
 have e2:vS.wrap (1*2^r)=((2^r:Nat):Int):=by
  rw[show(1:Int)*2^r=((2^r:Nat):Int) by simp,zks,w9 O]
 rw[e1,e2];have h:=qcu o (2^r) O O;rw[zsx h0]at h;exact h
theorem r303{a b:List Int}(ha:LB a)(hb:LB b)(hal:a.length<=50000)(hbl:b.length<=50000)(h0:0<val b):Fn 254 [] [.sl .u32 a,.sl .u32 b] (.tup [.sl .u32 (toL (val a/val b)),.sl .u32 (toL (val a % val b))]) []:=by
 have h331:=zvd hb O;have h302:=zye ha O;refine fnT xu hmx Tryz.func254 rfl rfl (ex:= []) ?_;conv=>whnf
 refine gYn h331 ?_;have hbn:bl (val a)<=32*a.length:=vr.2 (zc1 ha);have hw:vR.wrap (((toL (val b)).length :Int)+1)=(((toL (val b)).length +1:Nat):Int):=by
  have:=(qd (val b) b.length).2 (zc1 hb);rw[wI O];omega
 refine⟨⟨O,O,O⟩,?_⟩;conv=>whnf
 rw[hw];refine⟨⟨O,O,by have:=(qd (val b) b.length).2 (zc1 hb);omega⟩,?_⟩;conv=>whnf
 refine gYn h302 ?_;refine⟨Nat×List Int×List Int,fun x=>x.1<=bl (val a)/\DvI a b x.1 x.2.1 x.2.2,fun x=> [(8,.int .i64 (pI x.1))],fun x=> [(19,.buf 101 .u32 x.2.1),(23,.buf 101 .u32 x.2.2)],fun x=>x.1,(bl (val a),qF a.length 0,qF ((toL (val b)).length +1) 0),⟨qJ _,DvI.zero a b⟩,?_,fun x hx=>?_⟩
 ·((conv=>whnf);refine qE ?_ ?_;repeat' first|refine lc ?_ ?_|refine lh1 ?_ ?_|refine bc0 ?_|exact KXZ|refine lg0 ?_|refine lt0 ?_)
  .exact ai0 (by rw[wI O];exact(zst _).symm)
 obtain⟨n,out,rest⟩:=x;obtain⟨hn,hp⟩:=hx;simp only at hn hp
 cases n with
 |zero=>
  have h331o:=zvd hp.ob (by have:=hp.ol;omega);have h331r:=zvd hp.rb (by have:=hp.rl;have:=(qd (val b) b.length).2 (zc1 hb);omega);rw[show val out=val a/val b by have:=hp.ov;simpa using this]at h331o;rw[show val rest=val a % val b by have:=hp.rv;simpa using this]at h331r;refine gYe ?_;refine gYn h331o ?_;refine gYn h331r ?_;exact⟨lt0 (lc (lr rfl) (lc (lr rfl) ln0)),lh0⟩
 |succ m=>
  have hq:vR.wrap ((pI (m+1,out,rest).1).tdiv 32)=((m/32:Nat):Int):=by
   show vR.wrap ((m:Int).tdiv 32)=_;rw[show(m:Int).tdiv 32=((m/32:Nat):Int)from w7 m 32,wI O]
  have hm:(pI (m+1,out,rest).1).tmod 32=((m % 32:Nat):Int):=w4 m 32;obtain⟨c0,hc0⟩:∃c0,val a/2^m % 2=c0:=⟨_,rfl⟩;have hc1:c0<=1:=O;refine gYe ?_;refine⟨OA,?_⟩;conv=>whnf
  rw[hq];refine⟨⟨O,O⟩,fun(x:Int)hx=>?_⟩;have hx:a[((m/32:Nat):Int).toNat]? =some x:=hx;rw[q0]at hx;have hxb:=ha x (qG hx);conv=>whnf
  refine⟨OA,?_⟩;conv=>whnf
  refine⟨by rw[hm];omega,?_⟩;have hcar:=zun ha m hx rfl hxb;rw[hc0]at hcar;conv=>whnf
  refine⟨Nat×List Int×Nat,fun y=>y.1<=rest.length/\DbI rest y.2.1 y.1 y.2.2 c0,fun y=> [(10,.int .i64 y.1),(9,.int .u32 y.2.2)],fun y=> [(23,.buf 101 .u32 y.2.1)],fun y=>rest.length-y.1,(0,rest,c0),⟨OC,DbI.zero hp.rb hc1⟩,?_,fun y hy=>?_⟩
  ·((conv=>whnf);refine qE ?_ ?_;repeat' first|refine lc ?_ ?_|refine lh1 ?_ ?_|refine bc0 ?_|exact KXZ|refine lg0 ?_|refine lt0 ?_)
   .exact ai0 (by rw[hm,q0];exact hcar)
  obtain⟨k,l,c⟩:=y;obtain⟨hk,hd⟩:=hy;simp only at hk hd;have hll:=hd.len;have hrl:=hp.rl;have hlb:=(qd (val b) b.length).2 (zc1 hb);refine gYe ?_;refine brI (fun h1=>?_) (fun h1=>?_)
  .have h1:k<rest.length:=by have h1:((k:Nat):Int)<(l.length:Int):=Z0 h1;omega
   have hx1:l[k]? =some l[k]:=q3 O;have hxb:=hd.lb _ (qI (by omega:k<l.length));generalize l[k]=x1 at hx1 hxb;obtain⟨x1,rfl⟩:=qX hxb.1;have hst:=hd.step (x:=x1) h1 (by rw[hx1];rfl) O;conv=>whnf
   refine⟨⟨O,OD⟩,?_⟩;conv=>whnf
   refine⟨by simp only[q0];omega,fun(z:Int)hz=>?_⟩;have hz:l[k]? =some z:=by simpa using hz
   rw[hx1]at hz;cases hz
   conv=>whnf
   refine⟨OA,?_⟩;conv=>whnf
   refine⟨⟨O,OD⟩,?_⟩;conv=>whnf
   refine⟨by simp only[q0];omega,?_⟩;conv=>whnf
   refine⟨OA,?_⟩;conv=>whnf
   refine⟨(k+1,l.set k (((2*x1+c) % 4294967296:Nat):Int),x1/2147483648),⟨OD,hst⟩,by show rest.length-(k+1)<rest.length-k;omega,?_⟩
   ((conv=>whnf);refine qE ?_ ?_;repeat' first|refine lc ?_ ?_|refine lh1 ?_ ?_|refine bc0 ?_|exact KXZ|refine lg0 ?_|refine lt0 ?_)
   .exact ai0 (qdv x1)
   .exact ai0 (by rw[wI OD];simp only;omega)
   .exact bb0 (by
     show qZ l (wK (k:Int)) _=qZ l k _;rw[q0];exact congrArg (qZ l k) (qfm O hd.c1))
  .have h1:k=rest.length:=by have h1:¬((k:Nat):Int)<(l.length:Int):=Z3 h1;omega
   subst h1;have hB:val b<4294967296^(toL (val b)).length :=by
    have h:=kc (zk (val b)) (toL (val b)).length (qJ _)
    rwa [qV,zg]at h
   obtain⟨d1,d2,d3⟩:=zt6 (val a) (val b) m h0;have hvr:=hp.rv;have hR:2*val rest+c0<2*val b:=by rw[hvr,<-hc0];exact d3
   have hfin:=hd.fin (by rw[hrl,qS];omega);have c332:=r332o (a:=l) (b:=toL (val b)) hd.lb (zk _) O O;rw[zg,hfin]at c332;rw[<-hvr,hc0]at d1 d2;by_cases hlt:2*val rest+c0<val b
   .rw[Z8 hlt]at c332;obtain⟨q1,q2⟩:=d1 hlt;conv=>whnf
    refine⟨[.buf 101 .u32 l],_,(c332).sw [(1000001,23)] rfl,?_⟩;conv=>whnf
    refine⟨(m,out,l),⟨OD,⟨hp.ol,hp.ob,?_,OD,hd.lb,OD⟩⟩,OD,?_⟩
    .simp only;rw[hp.ov,q2,qS];grind
    ((conv=>whnf);refine qE ?_ ?_;repeat' first|refine lc ?_ ?_|refine lh1 ?_ ?_|refine bc0 ?_|exact KXZ|refine lg0 ?_|refine lt0 ?_)
    exact ai0 (by rw[zst,zst,wI OD];simp only;omega)
   .rw[Z9 hlt]at c332;obtain⟨q1,q2⟩:=d2 hlt;conv=>whnf
    refine⟨[.buf 101 .u32 l],_,(c332).sw [(1000001,23)] rfl,?_⟩;conv=>whnf
    refine⟨Nat×List Int×Nat,fun y=>y.1<=l.length/\SbI l (toL (val b)) y.2.1 y.1 y.2.2,fun y=> [(13,.int .i64 y.1),(12,.int .u64 y.2.2)],fun y=> [(23,.buf 101 .u32 y.2.1)],fun y=>l.length-y.1,(0,l,0),⟨OC,SbI.zero hd.lb⟩,?_,fun y hy=>?_⟩
    .exact KZ0
    obtain⟨k,l2,w⟩:=y;obtain⟨hk2,hs⟩:=hy;simp only at hk2 hs;have hl2:=hs.len;have hw1:=hs.w1;refine gYe ?_;refine brI (fun h3=>?_) (fun h3=>?_)
    .have h3:k<l.length:=by have h3:((k:Nat):Int)<(l2.length:Int):=Z0 h3;omega
     have hx2:l2[k]? =some l2[k]:=q3 O;have hxb2:=hs.lb _ (qI (by omega:k<l2.length));generalize l2[k]=x2 at hx2 hxb2;obtain⟨x2,rfl⟩:=qX hxb2.1;have hyb:=(zk (val b)).at k;have c333:=zvc (zk (val b)) O k;have hst2:=hs.step (x:=x2) (y:=((toL (val b))[k]?.getD 0).toNat) h3 (by rw[hx2];rfl) rfl O O;generalize (toL (val b))[k]?.getD 0=yy at*;obtain⟨y2,rfl⟩:=qX hyb.1;rw[q0]at hst2;conv=>whnf
     refine⟨⟨O,OD⟩,?_⟩;conv=>whnf
     refine⟨by simp only[q0];omega,fun(z:Int)hz=>?_⟩;have hz:l2[k]? =some z:=by simpa using hz
     rw[hx2]at hz;cases hz
     conv=>whnf
     refine gZn c333 ?_;have es:vQ.wrap (vQ.wrap (vQ.wrap (vQ.wrap (x2:Int)+4294967296)-(y2:Int))-(w:Int))=((x2+4294967296-(w+y2):Nat):Int):=by
      rw[wU (x:=(x2:Int)) O,wU (x:=(x2:Int)+4294967296) O,wU (x:=(x2:Int)+4294967296-y2) O,wU O];omega
     have e4:∀s:Nat,s<8589934592->vQ.wrap (1-((s:Nat):Int).fdiv 4294967296)=((1-s/4294967296:Nat):Int):=fun s hs=>by
      rw[fdB,wU O];omega
     refine gYd ?_;refine⟨⟨O,OD⟩,?_⟩;conv=>whnf
     refine⟨by simp only[q0];omega,?_⟩;conv=>whnf
     refine⟨OA,?_⟩;conv=>whnf
     refine⟨(k+1,l2.set k (((x2+4294967296-(w+y2)) % 4294967296:Nat):Int),1-(x2+4294967296-(w+y2))/4294967296),⟨OD,hst2⟩,by show l.length-(k+1)<l.length-k;omega,?_⟩
     ((conv=>whnf);refine qE ?_ ?_;repeat' first|refine lc ?_ ?_|refine lh1 ?_ ?_|refine bc0 ?_|exact KXZ|refine lg0 ?_|refine lt0 ?_)
     .exact ai0 ((congrArg (fun z:Int=>vQ.wrap (1-z.fdiv 4294967296)) es).trans (e4 _ O))
     .exact ai0 (by rw[wI OD];simp only;omega)
     .exact bb0 (by
       show qZ l2 (wK (k:Int)) _=qZ l2 k _;rw[q0,<-loB O,<-es])
    .have h3:k=l.length:=by have h3:¬((k:Nat):Int)<(l2.length:Int):=Z3 h3;omega
     subst h3;have hf2:=hs.fin O (by rw[zg,hfin];omega);rw[zg,hfin]at hf2;have hol:=hp.ol;have hj:m/32<out.length:=O;have hgo:out[m/32]? =some (out[m/32]?.getD 0):=by rw[q3 hj];rfl
     have hob:=hp.ob.at (m/32);obtain⟨o,ho⟩:∃o:Nat,out[m/32]?.getD 0=(o:Int):=⟨_,(v7 hob.1).symm⟩;obtain⟨f1,f2,f3⟩:=qb6 hp.ob hp.ov hj (by rw[ho,q0]);have hor:=zwe (w3 m (by decide:0<32)) f1 f2;conv=>whnf
     refine⟨OA,?_⟩;conv=>whnf
     refine⟨OA,?_⟩;conv=>whnf
     rw[hq];refine⟨⟨O,OD⟩,?_⟩;conv=>whnf
     refine⟨by simp only[q0];omega,fun(z:Int)hz=>?_⟩;have hz:out[((m/32:Nat):Int).toNat]? =some z:=hz;rw[q0,hgo,ho]at hz;cases hz
     conv=>whnf
     refine⟨OA,?_⟩;conv=>whnf
     refine⟨by rw[hm];omega,?_⟩;conv=>whnf
     refine⟨⟨O,OD⟩,?_⟩;conv=>whnf
     refine⟨by simp only[q0];omega,?_⟩;refine gYd ?_;refine⟨(m,out.set (m/32) ((o+2^(m % 32):Nat):Int),l2),⟨OD,⟨by simp only[qT];omega,hp.ob.set O,?_,OD,hs.lb,by simp only;rw[hf2,q1]⟩⟩,OD,?_⟩
     .simp only;rw[f3,q2]
     ((conv=>whnf);refine qE ?_ ?_;repeat' first|refine lc ?_ ?_|refine lh1 ?_ ?_|refine bc0 ?_|exact KXZ|refine lg0 ?_|refine lt0 ?_)
     .exact ai0 (by rw[zst,zst,wI OD];simp only;omega)
     .exact bb0 (by
       show qZ out (wK ((m/32:Nat):Int)) _=qZ out (m/32) _;rw[q0,hm];exact congrArg (qZ out (m/32)) hor)
def dvK(a b:Dy)(p:Nat):Nat:=p+2+bl (nm b)-bl (nm a)
def zdl(a b:Dy)(p:Nat)(up:Bool):Dy×Int:=
 if nm b=0 then(d0,10)else if nm a=0 then(d0,0)else
 zhk (a.neg != b.neg) (nm a*2^dvK a b p/nm b) (a.e-b.e-dvK a b p) (decide (nm a*2^dvK a b p % nm b≠0)) p up
theorem r260{a b:Dy}(ha:VD a)(hb:VD b)(p:Nat)(hp:8<=p/\p<=512)(up:Bool):Fn 203 [] [.agg (dyC a),.agg (dyC b),.int .i64 p,.bool up] (dyV (zdl a b p up)) []:=by
 have hla:=ha.len;have hlb:=hb.len;have h299:=qd7 a b ha.lb hb.lb O O p;rw[show ftR a b p=0 by unfold ftR;rw[Z6 ⟨(jc ha.lb).2 ha,(jc hb.lb).2 hb⟩,Z6 O]]at h299;have ea:=ha.exp;have eb:=hb.exp;have ba:=ha.bits;have bb:=hb.bits;have za:a.m.length=0<->nm a=0:=by rw[ha.eq];exact wv
 have zb:b.m.length=0<->nm b=0:=by rw[hb.eq];exact wv
 by_cases hb0:nm b=0
 .have hR:zdl a b p up=(d0,10):=by unfold zdl;rw[Z6 hb0]
  rw[hR];have hz:=zb.2 hb0;clear hR hb0 za zb ha hb;obtain⟨a1,a2,a3⟩:=a;obtain⟨b1,b2,b3⟩:=b;have hz:b2.length=0:=hz;refine fnT xu hmx Tryz.func203 rfl rfl (ex:= []) ?_;conv=>whnf
  refine gYn h299 ?_;refine brI (fun c=>?_) (fun c=>?_)
  .conv=>whnf
   exact⟨lt0 (lc (lg0 (lc (lr rfl) (lc (li0 rfl) (lc (lr rfl) ln0)))) (lc (lr rfl) ln0)),lh0⟩
  .exact absurd (beq_eq_false_iff_ne.1 c) O
 by_cases ha0:nm a=0
 .have hR:zdl a b p up=(d0,0):=by unfold zdl;rw[Z7 hb0,Z6 ha0]
  rw[hR];have hz:=za.2 ha0;have hz2:=mt zb.1 hb0;clear hR hb0 ha0 za zb ha hb;obtain⟨a1,a2,a3⟩:=a;obtain⟨b1,b2,b3⟩:=b;have hz:a2.length=0:=hz;have hz2:¬b2.length=0:=hz2;refine fnT xu hmx Tryz.func203 rfl rfl (ex:= []) ?_;conv=>whnf
  refine gYn h299 ?_;refine brI (fun c=>?_) (fun c=>?_)
  .exact absurd (beq_iff_eq.1 c) O
  conv=>whnf
  refine brI (fun c2=>?_) (fun c2=>?_)
  .conv=>whnf
   exact⟨lt0 (lc (lg0 (lc (lr rfl) (lc (li0 rfl) (lc (lr rfl) ln0)))) (lc (lr rfl) ln0)),lh0⟩
  .exact absurd (beq_eq_false_iff_ne.1 c2) O
 have hR:zdl a b p up=zhk (a.neg != b.neg) (nm a*2^dvK a b p/nm b) (a.e-b.e-dvK a b p) (decide (nm a*2^dvK a b p % nm b≠0)) p up:=by unfold zdl;rw[Z7 hb0,Z7 ha0]
 rw[hR];have hz:=mt za.1 ha0;have hz2:=mt zb.1 hb0;have hk:dvK a b p=p+2+bl (nm b)-bl (nm a):=rfl;have hk2:dvK a b p<=5000:=O;generalize dvK a b p=k at*;have c302a:Fn 209 [] [.sl .u32 a.m] (.int .i64 (bl (nm a):Nat)) []:=zye ha.lb O;have c302b:Fn 209 [] [.sl .u32 b.m] (.int .i64 (bl (nm b):Nat)) []:=zye hb.lb O;have c304:Fn 212 [] [.sl .u32 a.m,.int .i64 k] (.sl .u32 (toL (nm a*2^k))) []:=qd6 ha.lb O k O;have hxl:(toL (nm a*2^k)).length <=1000:=(zu _ _).2 (by rw[zq _ _ ha0];omega);have c303:Fn 254 [] [.sl .u32 (toL (val (toL (nm a*2^k)))),.sl .u32 b.m] (.tup [.sl .u32 (toL (val (toL (nm a*2^k))/nm b)),.sl .u32 (toL (val (toL (nm a*2^k)) % nm b))]) []:=by
  have h:=r303 (zk (nm a*2^k)) hb.lb O O (wR hb0);rw[zg]at h⊢;exact h
 rw[zg]at c303;have hql:(toL (nm a*2^k/nm b)).length <=1000:=jq (ws _ _) hxl;have hrl:(toL (nm a*2^k % nm b)).length <=1000:=jq (Nat.mod_le _ _) hxl;have c302r:=zye (zk (nm a*2^k % nm b)) O;have c305:=r305 (a.neg != b.neg) (zk (nm a*2^k/nm b)) O (a.e-b.e-k) O (decide (nm a*2^k % nm b≠0)) p hp up;rw[zg]at c302r c305;rw[<-ze7]at c305⊢;have hkI:(if vR.wrap (vR.wrap (vR.wrap ((p:Int)+2)+(bl (nm b):Nat))-(bl (nm a):Nat))>0 then vR.wrap (vR.wrap (vR.wrap ((p:Int)+2)+(bl (nm b):Nat))-(bl (nm a):Nat))else 0)=(k:Int):=by
  rw[wI (x:=(p:Int)+2) O,wI (x:=(p:Int)+2+(bl (nm b):Nat)) O,wI O];split<;>omega
 have hel:vR.wrap (vR.wrap (a.e-b.e)-(k:Int))=a.e-b.e-k:=by rw[wI (x:=a.e-b.e) O,wI O]
 clear hR ha hb za zb hb0 ha0 hk ea eb ba bb hxl hql hrl hla hlb;generalize nm a*2^k % nm b=r at*;generalize nm a*2^k/nm b=q at*;generalize nm a*2^k=x at*;generalize bl (nm a)=ta at*;generalize bl (nm b)=tb at*;generalize bl r=tr at*;generalize zhk (a.neg != b.neg) q (a.e-b.e-k) (decide ((tr:Int)>0)) p up=R at*;obtain⟨a1,a2,a3⟩:=a;obtain⟨b1,b2,b3⟩:=b;simp only at*;obtain⟨⟨r1,r2,r3⟩,r4⟩:=R;refine fnT xu hmx Tryz.func203 rfl rfl (ex:= []) ?_;conv=>whnf
 refine gYn h299 ?_;refine brI (fun c=>?_) (fun c=>?_)
 .exact absurd (beq_iff_eq.1 c) OD
 conv=>whnf
 refine brI (fun c2=>?_) (fun c2=>?_)
 .exact absurd (beq_iff_eq.1 c2) OD
 conv=>whnf
 refine gYn c302b ?_;refine gZn c302a ?_;refine gYd ?_;rw[hkI];refine gYn c304 ?_;refine gZn c303 ?_;refine gYd ?_;refine gYn c302r ?_;rw[hel];refine gZn c305 ?_;refine gYd ?_;exact⟨lr rfl,lh0⟩
theorem zow(n:Nat)(e:Int):jp (cnN false n e)=cnN true n e:=by
 unfold cnN;split
 .rfl
 .rename_i h;obtain⟨m,h1,h2⟩:=kq h;have h3:n/2^tz n=m:=qK (qD _) h1;unfold jp;rw[Z7 (by rw[yr,h3];omega)];rfl
theorem zbw(neg:Bool)(m:Nat)(e:Int)(more:Bool)(p:Nat)(up:Bool)(hm:more=true->p<bl m)(h0:m=0->e<=16384+p)(hp:8<=p/\p<=512):zhk neg m e more p up=xi neg m e more p up:=by
 have hx:(neg != up)=(up != neg):=by cases neg<;>cases up<;>rfl
 have key:∃(Q:Nat)(u:Int),za8 m e more p (up != neg)=(if 16384<(bl Q:Int)+u then(if(up != neg)=true then(d0,9)else(cnN false (2^p-1) (16384-p),0))else(cnN false Q u,0))/\
  zhk neg m e more p up=(if 16384<(bl Q:Int)+u then(if(up != neg)=true then(d0,9)else(cnN neg (2^p-1) (16384-p),0))else(cnN neg Q u,0)):=by
  refine⟨upN (wz m e more (unN m e p)) (up != neg),unN m e p,rfl,?_⟩;unfold zhk;rw[hx];by_cases hu:unN m e p<=e
  .have hb:bl m<=p:=by unfold unN at hu;omega
   have hmo:more=false:=by
    cases more with
    |false=>rfl
    |true=>have:=hm rfl;omega
   subst hmo;have hk:kR m e p=0:=by unfold kR;unfold unN at hu;omega
   have hq:quR neg m e p false up=m:=by
    have hmo:moR m e p false=false:=by unfold moR;rw[hk];simp;omega
    unfold quR;rw[hmo,w0,Z7 OC,hk];simp
   rw[hq,hk];have hF:upN (wz m e false (unN m e p)) (up != neg)=m*2^(e-unN m e p).toNat :=by
    unfold wz;rw[Z6 hu];unfold upN;simp
   rw[hF,zuh,(O:unN m e p+((e-unN m e p).toNat :Int)=e)];simp only[Int.natCast_zero,vJ];by_cases hm0:m=0
   .have:=h0 hm0;subst hm0;have hbu:unN 0 e p<=16384:=by unfold unN;rw[qx];omega
    rw[vL,qx,Z7 O,Z7 O]
   .have hbp:bl m≠0:=fun c=>hm0 (kj.1 c)
    rw[zq _ _ hm0];by_cases hc:16384<(bl m:Int)+e
    .rw[Z6 ⟨O,hc⟩,Z6 (show 16384<((bl m+(e-unN m e p).toNat :Nat):Int)+unN m e p by omega)]
    .rw[Z7 O,Z7 (show ¬16384<((bl m+(e-unN m e p).toNat :Nat):Int)+unN m e p by omega)]
  .have hk:kR m e p=(unN m e p-e).toNat :=by unfold kR;unfold unN at hu⊢;omega
   have hF:upN (wz m e more (unN m e p)) (up != neg)=quR neg m e p more up:=by
    unfold wz quR moR;rw[Z7 hu,hk,hx];unfold upN;simp only[Bool.and_comm]
   rw[hF,hk,(O:e+((unN m e p-e).toNat :Int)=unN m e p)];by_cases hc:16384<(bl (quR neg m e p more up):Int)+unN m e p
   .have hpos:0<bl (quR neg m e p more up):=by
     by_cases hz:bl (quR neg m e p more up)=0
     .exfalso;rw[hz]at hc;have hub:unN m e p=e+bl m-p:=by unfold unN at hc⊢;omega
      have hq0:quR neg m e p more up=0:=kj.1 hz;have hk2:kR m e p=bl m-p:=by rw[hk];omega
      have hle:m/2^kR m e p<=quR neg m e p more up:=by unfold quR;split<;>omega
      have hm1:2^kR m e p<=m:=by
       have hmz:m≠0:=fun c=>by
        have:bl m=0:=by rw[c];rfl
        omega
       exact(xd hmz).1 O
      have:=(Nat.div_pos_iff (a:=m) (b:=2^kR m e p)).2 ⟨qD _,hm1⟩;omega
     .omega
    rw[Z6 ⟨hpos,O⟩,Z6 hc]
   .rw[Z7 O,Z7 hc]
 obtain⟨Q,u,h1,h2⟩:=key;rw[h2];unfold xi;rw[h1];by_cases hc:16384<(bl Q:Int)+u
 .rw[Z6 hc,Z6 hc];cases hxx:(up != neg)with
  |true=>simp
  |false=>
   simp only[wQ,if_false]
   cases neg with
   |true=>simp[zow]
   |false=>simp
 .rw[Z7 hc,Z7 hc]
  cases neg with
  |true=>simp[zow]
  |false=>simp
theorem zqr(m t:Nat)(e u:Int):wz (m*2^t) e false u=wz m (e+t) false u:=by
 unfold wz;by_cases h1:u<=e
 .rw[Z6 h1,Z6 O,qL,<-qN,(O:t+(e-u).toNat =(e+t-u).toNat)]
 .rw[Z7 h1];by_cases h2:u<=e+t
  .rw[Z6 h2];have e1:2^t=2^(e+t-u).toNat *2^(u-e).toNat :=by rw[<-qN];congr 1;omega
   rw[e1,<-qL,Nat.mul_div_cancel _ (qD _),vn];rfl
  .rw[Z7 h2];have e1:2^(u-e).toNat =2^(u-(e+t)).toNat *2^t:=by rw[<-qN];congr 1;omega
   have hp:=qD t;rw[e1,Nat.mul_div_mul_right _ _ hp,v0]
   congr 2
   refine decide_eq_decide.2 ?_;constructor
   .intro h c;exact h (by rw[c,vL])
   .intro h c;rcases vA.1 c with c|c
    .exact h c
    .omega
theorem zij(neg:Bool){m:Nat}(hm:m≠0)(t:Nat)(e:Int)(p:Nat)(up:Bool):xi neg (m*2^t) e false p up=xi neg m (e+t) false p up:=by
 have hu:unN (m*2^t) e p=unN m (e+t) p:=by unfold unN;rw[zq _ _ hm];omega
 have hc:∀q,za8 (m*2^t) e false p q=za8 m (e+t) false p q:=fun q=>by
  unfold za8;rw[hu,zqr]
 unfold xi;rw[hc]
theorem zv6(neg:Bool)(n:Nat)(e:Int)(p:Nat)(up:Bool)(he:e<=16384+p):xi (cnN neg n e).neg (nm (cnN neg n e)) (cnN neg n e).e false p up=xi neg n e false p up:=by
 by_cases h:n=0
 .subst h;rw[zah neg e p up he];have:cnN neg 0 e=d0:=by unfold cnN;rw[Z6 rfl]
  rw[this];exact zah false 0 p up O
 .obtain⟨m,h1,h2⟩:=kq h;have h3:n/2^tz n=m:=qK (qD _) h1;have hcn:cnN neg n e=⟨neg,toL m,e+tz n⟩:=by unfold cnN;rw[Z7 h,h3]
  rw[hcn,yr];simp only;have hn:n=m*2^tz n:=by rw[qY];exact h1
  have:=zij neg (m:=m) O (tz n) e p up;rw[<-hn]at this;exact this.symm
theorem qdb{d:Dy}(h:VD d)(h0:nm d=0):d.m= []/\d.e=0:=by
 refine VD.cases (P:=fun d=>nm d=0->d.m= []/\d.e=0) h (fun _=>⟨rfl,rfl⟩) (fun s n e hd hn _ _ _ _ c=>?_) h0;rw[yr]at c;omega
theorem zta{a b:Dy}(ha:VD a)(hb:VD b)(p:Nat)(hp:8<=p/\p<=512)(up:Bool):zwn a b p up=ug a b p up:=by
 have ea:=ha.exp;have eb:=hb.exp;unfold zwn ug;by_cases hz:nm a*nm b=0
 .rw[hz];have:cnN (a.neg != b.neg) 0 (a.e+b.e)=d0:=by unfold cnN;rw[Z6 rfl]
  rw[this];have he:a.e+b.e<=16384+p:=by
   rcases vA.1 hz with h|h
   .have h1:=(qdb ha h).2;omega
   .have h1:=(qdb hb h).2;omega
  rw[zah _ _ p up he];rw[zbw _ _ _ _ _ _ OC (fun _=>by show(0:Int)<=_;omega) hp];exact zah false 0 p up O
 .have h:=zv6 (a.neg != b.neg) (nm a*nm b) (a.e+b.e) p up;have hb2:=yi (nm a) (nm b);have hnz:nm (cnN (a.neg != b.neg) (nm a*nm b) (a.e+b.e))≠0:=by
   rw[zld];obtain⟨m,h1,h2⟩:=kq hz;have h3:=qK (qD _) h1;rw[h3];omega
  rw[zbw _ _ _ _ _ _ OC (fun c=>absurd c hnz) hp];obtain⟨m,h1,h2⟩:=kq hz;have h3:=qK (qD _) h1;have hcn:cnN (a.neg != b.neg) (nm a*nm b) (a.e+b.e)=⟨a.neg != b.neg,toL m,a.e+b.e+tz (nm a*nm b)⟩:=by unfold cnN;rw[Z7 hz,h3]
  rw[hcn,yr];simp only;have hn:nm a*nm b=m*2^tz (nm a*nm b):=by rw[qY m];exact h1
  have:=zij (a.neg != b.neg) (m:=m) O (tz (nm a*nm b)) (a.e+b.e) p up;rw[<-hn]at this;exact this.symm
theorem r262(n:Int)(h: -4611686018427387904<=n/\n<=4611686018427387904):Fn 54 [] [.int .i64 n] (.agg (dyC (wg n))) []:=by
 have hv:val [((n.natAbs % 4294967296:Nat):Int),((n.natAbs/4294967296:Nat):Int)]=n.natAbs:=by
  rw[qg,qg,q0,q0];simp only[val];omega
 have hb:LB [((n.natAbs % 4294967296:Nat):Int),((n.natAbs/4294967296:Nat):Int)]:=fun z hz=>by
  simp only[vI,vq,or_false]at hz;rcases hz with rfl|rfl<;>omega
 have h296:=zyf (decide (n<0)) hb OC 0 O;rw[hv]at h296;have h296:Fn 85 [] [.bool (decide (n<0)),.sl .u32 [((n.natAbs % 4294967296:Nat):Int),((n.natAbs/4294967296:Nat):Int)],.int .i64 0] (.agg (dyC (wg n))) []:=h296;have e1:=loB (s:=n.natAbs) O;have e3:vS.wrap (((n.natAbs:Nat):Int).fdiv (2^min (wK 32) vQ.bits))=((n.natAbs/4294967296:Nat):Int):=by
  show vS.wrap (((n.natAbs:Nat):Int).fdiv 4294967296)=_;rw[fdB,zp7 O]
 generalize wg n=R at*;refine fY6 Tryz.func54 rfl ?_;refine brI (fun h1=>?_) (fun h1=>?_)
 .have h1:n<0:=Z0 h1;have ew:vQ.wrap (0-vQ.wrap n)=(n.natAbs:Int):=by
   rw[show vQ.wrap n=n+18446744073709551616 by simp[vU,vT,vV];omega];simp[vU,vT,vV];omega
  conv=>whnf
  rw[ew,e1];refine⟨OA,?_⟩;conv=>whnf
  rw[e3];refine gYn h296 ?_;exact⟨lr rfl,lh0⟩
 .have h1:¬n<0:=Z3 h1;have ew:vQ.wrap n=(n.natAbs:Int):=by
   rw[wU O];omega
  conv=>whnf
  rw[ew,e1];refine⟨OA,?_⟩;conv=>whnf
  rw[e3];refine gYn h296 ?_;exact⟨lr rfl,lh0⟩
theorem r173(d:Dy):Fn 71 [] [.agg (dyC d)] (.bool (zrB d)) []:=by
 obtain⟨R,hR⟩:∃R,zrB d=R:=⟨_,rfl⟩;rw[hR];unfold zrB at hR;obtain⟨d1,d2,d3⟩:=d;simp only at hR;show Fn 71 [] [.agg [.bool d1,.sl .u32 d2,.int .i64 d3]] _ [];refine fY6 Tryz.func71 rfl ?_
 cases d1 with
 |true=>
  conv=>whnf
  exact⟨ab0 hR,lh0⟩
 |false=>
  conv=>whnf
  refine brI (fun h1=>?_) (fun h1=>?_)
  .have h2:d2.length=0:=by have h1:((d2.length:Int)==0)=true:=h1;rw[beq_iff_eq]at h1;omega
   rw[Z8 h2]at hR;conv=>whnf
   exact⟨ab0 (by rw[<-hR];simp;rw[wY];simp),lh0⟩
  .have h2:¬d2.length=0:=by have h1:((d2.length:Int)==0)=false:=h1;rw[beq_eq_false_iff_ne]at h1;omega
   rw[Z9 h2]at hR;conv=>whnf
   exact⟨ab0 (by rw[<-hR];simp),lh0⟩
theorem r108(x:Iv)(h:RI x):Fn 38 [] [.agg (ivC x)] (.bool (viB x)) []:=by
 have hlo:=qcs x.lo h.lo h.l1;have hhi:=qcs x.hi h.hi h.l2;have zlo:=r173 x.lo;have zhi:=r173 x.hi;have hc:vB x.lo=true->vB x.hi=true->Fn 73 [] [.agg (dyC x.lo),.agg (dyC x.hi)] (.int .i64 (wa x.lo x.hi)) []:=fun h1 h2=>r175 ((jc h.lo).1 h1) ((jc h.hi).1 h2)
 obtain⟨R,hR⟩:∃R,viB x=R:=⟨_,rfl⟩;rw[hR];unfold viB at hR;generalize vB x.lo=a at*;generalize vB x.hi=b at*;generalize zrB x.lo=c at*;generalize zrB x.hi=d at*;generalize wa x.lo x.hi=C at*;clear h;obtain⟨⟨x1,x2,x3⟩,⟨x4,x5,x6⟩,x7⟩:=x;simp only at hR;have hlo:Fn 72 [] [.agg [.bool x1,.sl .u32 x2,.int .i64 x3]] (.bool a) []:=hlo;have hhi:Fn 72 [] [.agg [.bool x4,.sl .u32 x5,.int .i64 x6]] (.bool b) []:=hhi;have zlo:Fn 71 [] [.agg [.bool x1,.sl .u32 x2,.int .i64 x3]] (.bool c) []:=zlo;have zhi:Fn 71 [] [.agg [.bool x4,.sl .u32 x5,.int .i64 x6]] (.bool d) []:=zhi;have hc:a=true->b=true->Fn 73 [] [.agg [.bool x1,.sl .u32 x2,.int .i64 x3],.agg [.bool x4,.sl .u32 x5,.int .i64 x6]] (.int .i64 C) []:=hc;show Fn 38 [] [.agg [.bool x1,.sl .u32 x2,.int .i64 x3,.bool x4,.sl .u32 x5,.int .i64 x6,.bool x7]] _ [];refine fY6 Tryz.func38 rfl ?_
 cases x7 with
 |true=>
  rw[Z6 rfl]at hR
  cases c with
  |false=>
   conv=>whnf
   refine gYn zlo ?_;exact⟨ab0 hR,lh0⟩
  |true=>
   conv=>whnf
   refine gYn zlo ?_;refine gYn zhi ?_;exact⟨ab0 (by rw[<-hR,wV]),lh0⟩
 |false=>
  rw[Z7 OC]at hR
  cases a with
  |false=>
   conv=>whnf
   refine gYn hlo ?_;exact⟨ab0 (by rw[<-hR];rfl),lh0⟩
  |true=>
   cases b with
   |false=>
    conv=>whnf
    refine gYn hlo ?_;refine gYn hhi ?_;exact⟨ab0 (by rw[<-hR];rfl),lh0⟩
   |true=>
    conv=>whnf
    refine gYn hlo ?_;refine gYn hhi ?_;refine gYn (hc rfl rfl) ?_;exact⟨ab0 (by rw[<-hR];rfl),lh0⟩
theorem r61:Fn 149 [] [] (.agg (ivC wI0)) []:=by
 refine fY6 Tryz.func149 rfl ?_;exact⟨leW,lh0⟩
theorem r256(a b:Dy×Int):Fn 197 [] [.agg (dyC a.1),.int .i64 a.2,.agg (dyC b.1),.int .i64 b.2] (.agg (ivC (vl a b))) []:=by
 obtain⟨R,hR⟩:∃R,vl a b=R:=⟨_,rfl⟩;rw[hR];unfold vl at hR;have h25:=r61;have e25:ivC wI0= [.bool false,.sl .u32 [],.int .i64 0,.bool false,.sl .u32 [],.int .i64 0,.bool true]:=rfl;rw[e25]at h25;obtain⟨⟨a1,a2,a3⟩,e⟩:=a;obtain⟨⟨b1,b2,b3⟩,f⟩:=b;simp only at hR;show Fn 197 [] [.agg [.bool a1,.sl .u32 a2,.int .i64 a3],.int .i64 e,.agg [.bool b1,.sl .u32 b2,.int .i64 b3],.int .i64 f] _ [];refine fY6 Tryz.func197 rfl ?_;refine brI (fun h1=>?_) (fun h1=>?_)
 .have h1:e≠0:=by simpa using h1
  rw[Z6 (.inl h1)]at hR;subst hR;conv=>whnf
  refine gYn h25 ?_;exact⟨lr rfl,lh0⟩
 have h1:e=0:=by simpa using h1
 conv=>whnf
 refine brI (fun h2=>?_) (fun h2=>?_)
 .have h2:f≠0:=by simpa using h2
  rw[Z6 (.inr h2)]at hR;subst hR;conv=>whnf
  refine gYn h25 ?_;exact⟨lr rfl,lh0⟩
 have h2:f=0:=by simpa using h2
 rw[Z7 (by simp[h1,h2])]at hR;subst hR;conv=>whnf
 exact⟨lr rfl,lh0⟩
theorem zve(x:Iv)(h:RI x):Fn 45 [] [.agg (ivC x)] (.bool (kB x)) []:=by
 have h1:=r108 x h;obtain⟨R,hR⟩:∃R,kB x=R:=⟨_,rfl⟩;rw[hR];unfold kB at hR;generalize viB x=V at*;clear h;obtain⟨⟨x1,x2,x3⟩,⟨x4,x5,x6⟩,x7⟩:=x;simp only at hR;have h1:Fn 38 [] [.agg [.bool x1,.sl .u32 x2,.int .i64 x3,.bool x4,.sl .u32 x5,.int .i64 x6,.bool x7]] (.bool V) []:=h1;show Fn 45 [] [.agg [.bool x1,.sl .u32 x2,.int .i64 x3,.bool x4,.sl .u32 x5,.int .i64 x6,.bool x7]] _ [];refine fY6 Tryz.func45 rfl ?_
 cases V with
 |false=>
  refine gYn h1 ?_;exact⟨ab0 (by rw[<-hR,vC]),lh0⟩
 |true=>
  refine gYn h1 ?_;exact⟨ab0 (by rw[<-hR,vE]),lh0⟩
theorem r180(x:Iv)(h:RI x):Fn 146 [] [.agg (ivC x)] (.agg (ivC (zbm x))) []:=by
 have h161:=zve x h;have h61:=r61;by_cases hk:kB x=true
 .have k:=(zw h).1 hk;have hR:zbm x=⟨jp x.hi,jp x.lo,false⟩:=by unfold zbm;rw[Z6 hk]
  rw[hR];rw[hk]at h161;have n1:=zwa k.lo;have n2:=zwa k.hi;generalize jp x.lo=a at*;generalize jp x.hi=b at*;clear hR k hk h;refine fY6 Tryz.func146 rfl ?_;refine gYn h161 ?_;refine gYn n2 ?_;refine gYn n1 ?_;refine gYd ?_;exact⟨lr rfl,lh0⟩
 .have hR:zbm x=wI0:=by unfold zbm;rw[Z7 hk]
  rw[hR];rw[show kB x=false by simpa using hk]at h161;clear hR hk h;refine fY6 Tryz.func146 rfl ?_;refine gYn h161 ?_;refine gYn h61 ?_;exact⟨lr rfl,lh0⟩
theorem r259(x:Iv)(h:RI x):Fn 202 [] [.agg (ivC x)] (.int .i64 (zct x)) []:=by
 have h161:=zve x h;by_cases hk:kB x=true
 .have k:=(zw h).1 hk;rw[hk]at h161;have s1:=qad x.lo;have s2:=qad x.hi;rw[zig k.lo]at s1;rw[zig k.hi]at s2;obtain⟨S,hS⟩:∃S,zct x=S:=⟨_,rfl⟩;rw[hS];unfold zct at hS;rw[Z6 hk]at hS;generalize qs x.lo=a at*;generalize qs x.hi=b at*;clear k hk h;refine fY6 Tryz.func202 rfl ?_;refine gYn h161 ?_;refine gYn s1 ?_;refine brI (fun h1=>?_) (fun h1=>?_)
  .have h1:a>0:=Z0 h1;rw[Z6 h1]at hS;subst hS;conv=>whnf
   exact⟨lr rfl,lh0⟩
  .have h1:¬a>0:=Z3 h1;rw[Z7 h1]at hS;conv=>whnf
   refine gYn s2 ?_;refine brI (fun h2=>?_) (fun h2=>?_)
   .have h2:b<0:=Z0 h2;rw[Z6 h2]at hS;subst hS;conv=>whnf
    exact⟨lr rfl,lh0⟩
   .have h2:¬b<0:=Z3 h2;rw[Z7 h2]at hS;subst hS;conv=>whnf
    exact⟨lr rfl,lh0⟩
 .have hS:zct x=0:=by unfold zct;rw[Z7 hk]
  rw[hS];rw[show kB x=false by simpa using hk]at h161;clear hS hk h;refine fY6 Tryz.func202 rfl ?_;refine gYn h161 ?_;exact⟨lr rfl,lh0⟩
theorem r60(p:Int):Fn 44 [] [.int .i64 p] (.bool (pcB p)) []:=by
 refine fY6 Tryz.func44 rfl ?_;refine brI (fun h=>?_) (fun h=>?_)
 .have h:p≥8:=Z0 h;conv=>whnf
  exact⟨ab0 (by unfold pcB;rw[Z8 (O:8<=p),wV]),lh0⟩
 .have h:¬p≥8:=Z3 h;rw[show pcB p=false by unfold pcB;rw[Z9 (O:¬8<=p),w0]];conv=>whnf
  exact⟨lr rfl,lh0⟩
def znr(x y:Iv)(p:Int):Iv:=if pcB p=true/\kB x=true/\kB y=true then vl (zvi x.lo y.lo p.toNat false) (zvi x.hi y.hi p.toNat true)else wI0
theorem r176(x y:Iv)(hx:RI x)(hy:RI y)(p:Int):Fn 142 [] [.agg (ivC x),.agg (ivC y),.int .i64 p] (.agg (ivC (znr x y p))) []:=by
 have h60:=r60 p;have h1:=zve x hx;have h2:=zve y hy;have h61:=r61;obtain⟨R,hR⟩:∃R,znr x y p=R:=⟨_,rfl⟩;rw[hR];unfold znr at hR
 cases hp:pcB p with
 |false=>
  rw[hp]at h60;rw[Z7 (by rw[hp];simp)]at hR;subst hR;refine fY6 Tryz.func142 rfl ?_;refine gYn h60 ?_;refine gYn h61 ?_;exact⟨lr rfl,lh0⟩
 |true=>
 rw[hp]at h60
 cases hkx:kB x with
 |false=>
  rw[hkx]at h1;rw[Z7 (by rw[hkx];simp)]at hR;subst hR;refine fY6 Tryz.func142 rfl ?_;refine gYn h60 ?_;refine gYn h1 ?_;refine gYn h61 ?_;exact⟨lr rfl,lh0⟩
 |true=>
 rw[hkx]at h1
 cases hky:kB y with
 |false=>
  rw[hky]at h2;rw[Z7 (by rw[hky];simp)]at hR;subst hR;refine fY6 Tryz.func142 rfl ?_;refine gYn h60 ?_;refine gYn h1 ?_;refine gYn h2 ?_;refine gYn h61 ?_;exact⟨lr rfl,lh0⟩
 |true=>
 rw[hky]at h2;rw[Z6 ⟨hp,hkx,hky⟩]at hR;have kx:=(zw hx).1 hkx;have ky:=(zw hy).1 hky;have hpn:8<=p.toNat/\p.toNat<=512:=vj hp;have a1:=r255 kx.lo ky.lo p.toNat hpn false;have a2:=r255 kx.hi ky.hi p.toNat hpn true;rw[show((p.toNat:Nat):Int)=p by omega]at a1 a2;have h256:=r256 (zvi x.lo y.lo p.toNat false) (zvi x.hi y.hi p.toNat true);rw[hR]at h256;generalize zvi x.lo y.lo p.toNat false=A1 at*;generalize zvi x.hi y.hi p.toNat true=A2 at*;clear hR kx ky hx hy hpn;refine fY6 Tryz.func142 rfl ?_;refine gYn h60 ?_;refine gYn h1 ?_;refine gYn h2 ?_;refine gYn a1 ?_;refine gYn a2 ?_;refine gYn h256 ?_;exact⟨lr rfl,lh0⟩
theorem r177(x y:Iv)(hx:RI x)(hy:RI y)(p:Int):Fn 143 [] [.agg (ivC x),.agg (ivC y),.int .i64 p] (.agg (ivC (znr x (zbm y) p))) []:=by
 have h1:=r180 y hy;have h2:=r176 x (zbm y) hx (zp5 hy).ri p;generalize znr x (zbm y) p=R at*;generalize zbm y=N at*;refine fY6 Tryz.func143 rfl ?_;refine gYn h1 ?_;refine gYn h2 ?_;refine gYd ?_;exact⟨lr rfl,lh0⟩
def zm8(a b:Dy):Dy:=if wa a b<=0 then a else b
def zj1(a b:Dy):Dy:=if 0<=wa a b then a else b
theorem r162{a b:Dy}(ha:VD a)(hb:VD b):Fn 200 [] [.agg (dyC a),.agg (dyC b)] (.agg (dyC (zm8 a b))) []:=by
 have h:=r175 ha hb;unfold zm8;generalize wa a b=C at*;refine fY6 Tryz.func200 rfl ?_;refine gYn h ?_;refine brI (fun c=>?_) (fun c=>?_)
 .have c:C<=0:=Z0 c;rw[Z6 c];conv=>whnf
  exact⟨lr rfl,lh0⟩
 .have c:¬C<=0:=Z3 c;rw[Z7 c];conv=>whnf
  exact⟨lr rfl,lh0⟩
theorem qct{a b:Dy}(ha:VD a)(hb:VD b):Fn 201 [] [.agg (dyC a),.agg (dyC b)] (.agg (dyC (zj1 a b))) []:=by
 have h:=r175 ha hb;unfold zj1;generalize wa a b=C at*;refine fY6 Tryz.func201 rfl ?_;refine gYn h ?_;refine brI (fun c=>?_) (fun c=>?_)
 .have c:0<=C:=Z0 c;rw[Z6 c];conv=>whnf
  exact⟨lr rfl,lh0⟩
 .have c:¬0<=C:=Z3 c;rw[Z7 c];conv=>whnf
  exact⟨lr rfl,lh0⟩
def qc0(x:Iv):Dy:=zj1 (jp x.lo) x.hi
def qat(x:Iv):Dy:=if zct x=0 then d0 else zj1 x.lo (jp x.hi)
theorem r307{x:Iv}(h:KI x):Fn 256 [] [.agg (ivC x)] (.agg (dyC (qc0 x))) []:=by
 have n1:=zwa h.lo;have m1:=qct (yt h.lo) h.hi;unfold qc0;generalize zj1 (jp x.lo) x.hi=M at*;generalize jp x.lo=N at*;clear h;refine fY6 Tryz.func256 rfl ?_;refine gYn n1 ?_;refine gYn m1 ?_;refine gYd ?_;exact⟨lr rfl,lh0⟩
theorem r306{x:Iv}(h:KI x)(hr:RI x):Fn 255 [] [.agg (ivC x)] (.agg (dyC (qat x))) []:=by
 have n1:=zwa h.hi;have m1:=qct h.lo (yt h.hi);have s1:=r259 x hr;unfold qat;generalize zj1 x.lo (jp x.hi)=M at*;generalize jp x.hi=N at*;generalize zct x=S at*;clear h hr;refine fY6 Tryz.func255 rfl ?_;refine gYn s1 ?_;refine brI (fun c=>?_) (fun c=>?_)
 .have c:S=0:=by
   have c:(S==0)=true:=c;simpa using c
  rw[Z6 c];conv=>whnf
  exact⟨zyq,lh0⟩
 .have c:¬S=0:=by
   have c:(S==0)=false:=c;simpa using c
  rw[Z7 c];conv=>whnf
  refine gYn n1 ?_;refine gYn m1 ?_;refine gYd ?_;exact⟨lr rfl,lh0⟩
def zza(x:Iv):Iv:=if kB x=true then⟨qat x,qc0 x,false⟩else wI0
theorem r263(x:Iv)(h:RI x):Fn 204 [] [.agg (ivC x)] (.agg (ivC (zza x))) []:=by
 have h161:=zve x h;have h61:=r61;by_cases hk:kB x=true
 .have k:=(zw h).1 hk;have n1:=r306 k h;have n2:=r307 k;have hR:zza x=⟨qat x,qc0 x,false⟩:=by unfold zza;rw[Z6 hk]
  rw[hR];rw[hk]at h161;generalize qat x=a at*;generalize qc0 x=b at*;clear hR k hk h;refine fY6 Tryz.func204 rfl ?_;refine gYn h161 ?_;refine gYn n1 ?_;refine gYn n2 ?_;refine gYd ?_;exact⟨lr rfl,lh0⟩
 .have hR:zza x=wI0:=by unfold zza;rw[Z7 hk]
  rw[hR];rw[show kB x=false by simpa using hk]at h161;clear hR hk h;refine fY6 Tryz.func204 rfl ?_;refine gYn h161 ?_;refine gYn h61 ?_;exact⟨lr rfl,lh0⟩
theorem zzc{a:Dy}(h:VD a)(h0:nm a≠0):nm a % 2=1:=by
 rcases h.ok with ⟨c,_⟩|⟨c,_⟩
 .exact absurd c h0
 .exact c
theorem qfk{a:Dy}(h0:nm a≠0):dv a≠0:=fun c=>by
 have:=zia a.e h0;unfold dv at c;split at c<;>grind
theorem zze{a b:Dy}(ha:VD a)(hb:VD b)(h:dv a=dv b):a=b:=by
 by_cases za:nm a=0
 .have zb:nm b=0:=Decidable.byContradiction fun c=>qfk c (by rw[<-h];exact yp za)
  rw[ha.canon,hb.canon,za,zb];unfold cnN;rw[Z6 rfl,Z6 rfl]
 have zb:nm b≠0:=fun c=>qfk za (by rw[h];exact yp c)
 have pa:=zia a.e za;have pb:=zia b.e zb;have hs:a.neg=b.neg/\vN (nm a) a.e=vN (nm b) b.e:=by
  unfold dv at h;cases na:a.neg<;>cases nb:b.neg<;>rw[na,nb]at h<;>simp only[wQ,if_false,if_true]at h<;>refine⟨?_,?_⟩<;>first|rfl|grind
 obtain⟨hs,hv⟩:=hs;rw[ui _ _ (min a.e b.e) O,ui (nm b) _ (min a.e b.e) O]at hv;have e1:=Nat.le_antisymm (yj.1 (show vN (nm a*2^(a.e-min a.e b.e).toNat) (min a.e b.e)<=vN (nm b*2^(b.e-min a.e b.e).toNat) (min a.e b.e) by rw[hv];exact v6)) (yj.1 (by rw[hv];exact v6));rw[qY,qY (nm b)]at e1;obtain⟨t1,t2⟩:=zrc e1 (zzc ha za) (zzc hb zb);rw[ha.canon,hb.canon,hs,t2]
 congr 1
 omega
theorem qbn(a b:Dy):dv (zc7 a b)=dv a+dv b:=by
 unfold zc7;split
 .rename_i h;rw[yp h];grind
 split
 .rename_i h;rw[yp h];grind
 have da:dv a=if a.neg=true then-(vN (nm a*2^(a.e-min a.e b.e).toNat) (min a.e b.e))else vN (nm a*2^(a.e-min a.e b.e).toNat) (min a.e b.e):=by unfold dv;rw[ui (nm a) _ (min a.e b.e) O]
 have db:dv b=if b.neg=true then-(vN (nm b*2^(b.e-min a.e b.e).toNat) (min a.e b.e))else vN (nm b*2^(b.e-min a.e b.e).toNat) (min a.e b.e):=by unfold dv;rw[ui (nm b) _ (min a.e b.e) O]
 generalize nm a*2^(a.e-min a.e b.e).toNat =x at*;generalize nm b*2^(b.e-min a.e b.e).toNat =y at*;generalize min a.e b.e=u at*;split
 .rename_i h;rw[zel,da,db,<-h,<-znz];split<;>grind
 rename_i h;split
 .rename_i h2;have:=zh9 h2 u;rw[zel,da,db,<-this];cases ha:a.neg<;>cases hb:b.neg<;>rw[ha,hb]at h<;>first|exact absurd rfl h|(simp;grind)
 .rename_i h2;have:=zh9 (O:x<=y) u;rw[zel,da,db,<-this];cases ha:a.neg<;>cases hb:b.neg<;>rw[ha,hb]at h<;>first|exact absurd rfl h|(simp;grind)
def Eq0(r r':Dy×Int):Prop:=(r.2=0<->r'.2=0)/\(r.2=0->r.1=r'.1)
theorem qce{p:Nat}{y:Rat}{F G:Bool->Dy×Int}(hF:RT p y F)(hG:RT p y G)(up:Bool)(h:(F up).2=0):(G up).2=0:=by
 cases up
 .obtain⟨a,b⟩:=hF.1.1 h;exact(hG.1.2 _ b a).1
 .obtain⟨a,b⟩:=hF.2.1 h;exact(hG.2.2 _ b a).1
theorem qgf{p:Nat}{y:Rat}{F G:Bool->Dy×Int}(hF:RT p y F)(hG:RT p y G)(up:Bool)(h:(F up).2=0):if up=true then dv (G up).1<=dv (F up).1 else dv (F up).1<=dv (G up).1:=by
 cases up
 .obtain⟨a,b⟩:=hF.1.1 h;exact(hG.1.2 _ b a).2
 .obtain⟨a,b⟩:=hF.2.1 h;exact(hG.2.2 _ b a).2
theorem zqz{p:Nat}{y:Rat}{F G:Bool->Dy×Int}(hF:RT p y F)(hG:RT p y G)(up:Bool)(vF:VD (F up).1)(vG:VD (G up).1):Eq0 (F up) (G up):=by
 refine⟨⟨qce hF hG up,qce hG hF up⟩,fun h=>zze vF vG ?_⟩;have h1:=qgf hF hG up h;have h2:=qgf hG hF up (qce hF hG up h);cases up
 .exact zdv h1 h2
 .exact zdv h2 h1
theorem zm6{a a' b b':Dy×Int}(h:Eq0 a a')(g:Eq0 b b'):vl a b=vl a' b':=by
 unfold vl;by_cases c:a.2≠0\/b.2≠0
 .rw[Z6 c,Z6 (by rw[ne_eq,ne_eq,<-h.1,<-g.1];exact c)]
 .have c':¬(a'.2≠0\/b'.2≠0):=by rw[ne_eq,ne_eq,<-h.1,<-g.1];exact c
  rw[Z7 c,Z7 c'];simp only[not_or,Decidable.not_not,ne_eq]at c;rw[h.2 c.1,g.2 c.2]
theorem zz0{a a' b b':Dy×Int}(h:Eq0 a a')(g:Eq0 b b'){o:Iv}{K K':Iv->Iv}(hK:∀o,K o=K' o):stI a b o K=stI a' b' o K':=by
 unfold stI;by_cases c:a.2≠0\/b.2≠0
 .rw[Z6 c,Z6 (by rw[ne_eq,ne_eq,<-h.1,<-g.1];exact c)]
 .have c':¬(a'.2≠0\/b'.2≠0):=by rw[ne_eq,ne_eq,<-h.1,<-g.1];exact c
  rw[Z7 c,Z7 c'];simp only[not_or,Decidable.not_not,ne_eq]at c;rw[h.2 c.1,g.2 c.2,hK]
theorem s0_cg{a a' b b':Dy×Int}(h:Eq0 a a')(g:Eq0 b b'){K K':Iv->Iv}(hK:∀o,K o=K' o):s0I a b K=s0I a' b' K':=by
 unfold s0I;by_cases c:a.2≠0\/b.2≠0
 .rw[Z6 c,Z6 (by rw[ne_eq,ne_eq,<-h.1,<-g.1];exact c)]
 .have c':¬(a'.2≠0\/b'.2≠0):=by rw[ne_eq,ne_eq,<-h.1,<-g.1];exact c
  rw[Z7 c,Z7 c'];simp only[not_or,Decidable.not_not,ne_eq]at c;rw[h.2 c.1,g.2 c.2,hK]
theorem qbe{dn up dn' up':Dy->Dy->Dy×Int}{x y:Iv}(h:∀a b,(a=x.lo\/a=x.hi)->(b=y.lo\/b=y.hi)->Eq0 (dn a b) (dn' a b)/\Eq0 (up a b) (up' a b)):jt dn up x y=jt dn' up' x y:=by
 rw[zf5,zf5];have h1:=h x.lo y.lo (.inl rfl) (.inl rfl);have h2:=h x.lo y.hi (.inl rfl) (.inr rfl);have h3:=h x.hi y.lo (.inr rfl) (.inl rfl);have h4:=h x.hi y.hi (.inr rfl) (.inr rfl);exact s0_cg h1.1 h1.2 fun o=>zz0 h2.1 h2.2 fun o=>zz0 h3.1 h3.2 fun o=>zz0 h4.1 h4.2 fun o=>rfl
theorem qbx{d:Dy}(hc:d=cnN d.neg (nm d) d.e){p:Nat}(hp:8<=p/\p<=512):RT p (dv d) (fun up=>zhk d.neg (nm d) d.e false p up):=by
 have he:nm d=0->d.e=0:=fun h=>by
  rw[h]at hc;rw[hc];rfl
 have e:(fun up=>zhk d.neg (nm d) d.e false p up)=fun up=>xi d.neg (nm d) d.e false p up:=funext fun up=>zbw _ _ _ _ _ _ (fun h=>by cases h) (fun h=>by rw[he h];omega) hp
 rw[e];exact zbl hp d.neg fun h=>by rw[he h];omega
theorem qby{neg:Bool}{n:Nat}{e:Int}:cnN neg n e=cnN (cnN neg n e).neg (nm (cnN neg n e)) (cnN neg n e).e :=by
 by_cases h:n=0
 .subst h;rfl
 .obtain⟨m,_,hm1,hm2,_⟩:=zdh h;have hc:cnN neg n e=⟨neg,toL m,e+tz n⟩:=by unfold cnN;rw[Z7 h,hm2]
  rw[hc,yr];show _=cnN neg m (e+tz n);unfold cnN;rw[Z7 O,zx4 hm1,Nat.pow_zero,Nat.div_one];simp
theorem zro{a b:Dy}(ha:VD a)(hb:VD b):zc7 a b=cnN (zc7 a b).neg (nm (zc7 a b)) (zc7 a b).e :=by
 unfold zc7;split
 .exact hb.canon
 split
 .exact ha.canon
 split
 .exact qby
 split
 .exact qby
 .exact qby
theorem zuw{a b:Dy}(ha:VD a)(hb:VD b){p:Nat}(hp:8<=p/\p<=512):RT p (dv a+dv b) (fun up=>zvi a b p up):=by
 rw[<-qbn];exact qbx (zro ha hb) hp
theorem qcd{neg:Bool}{m:Nat}{e:Int}{more:Bool}{p:Nat}{up:Bool}(hm:more=true->p<bl m)(h0:m=0->e<=16384+p)(hp:8<=p/\p<=512):VD (zhk neg m e more p up).1:=by
 rw[zbw _ _ _ _ _ _ hm h0 hp];exact zhr _ _ _ _ _ _ hp
theorem zu2{a b:Dy}(ha:VD a)(hb:VD b){p:Nat}(hp:8<=p/\p<=512)(up:Bool):VD (zvi a b p up).1:=by
 refine qcd (fun h=>by cases h) (fun h=>?_) hp;have hc:=zro ha hb;rw[h]at hc;rw[hc];show(0:Int)<=_;omega
theorem zf9{x y:Iv}(hx:RI x)(hy:RI y)(p:Int):znr x y p=kp x y p:=by
 unfold znr kp;by_cases c:pcB p=true/\kB x=true/\kB y=true
 .rw[Z6 c,Z6 ⟨by rw[c.2.1,c.2.2];rfl,c.1⟩];have kx:=(zw hx).1 c.2.1;have ky:=(zw hy).1 c.2.2;have hp:=vj c.1;exact zm6 (zqz (zuw kx.lo ky.lo hp) (zja kx.lo ky.lo hp) false (zu2 kx.lo ky.lo hp _) (zjc _ _ _ _ hp)) (zqz (zuw kx.hi ky.hi hp) (zja kx.hi ky.hi hp) true (zu2 kx.hi ky.hi hp _) (zjc _ _ _ _ hp))
 .rw[Z7 c,Z7 fun d=>c ⟨d.2,by have:=d.1;rw[wi]at this;exact this⟩]
theorem zwb{x y p:Nat}(hx:x≠0)(hy:y≠0):p<bl (x*2^(p+2+bl y-bl x)/y):=by
 have hk:=zq x (p+2+bl y-bl x) hx;generalize x*2^(p+2+bl y-bl x)=X at*;have hX:X≠0:=fun c=>by rw[c,qx]at hk;have:bl x≠0:=fun c=>hx (kj.1 c);omega
 have h1:2^(p+1+bl y)<=X:=(xd hX).1 O;have h2:2^(p+1)<=X/y:=by
  rw[Nat.le_div_iff_mul_le (wR hy)];rw[qN]at h1;exact w2 (wn _ (Nat.le_of_lt (zaq y))) h1
 have h3:X/y≠0:=by have:=qD (p+1);omega
 have:=(xd h3).2 h2;omega
theorem zua{a b:Dy}(hb0:nm b≠0)(ha0:nm a≠0){p:Nat}(hp:8<=p/\p<=512):RT p (dv a/dv b) (fun up=>zdl a b p up)/\∀up,VD (zdl a b p up).1:=by
 have hb:0<vN (nm b) b.e:=zia _ hb0;have hv:dv a/dv b=if(a.neg != b.neg)=true then-(vN (nm a) a.e/vN (nm b) b.e)else vN (nm a) a.e/vN (nm b) b.e:=by
  unfold dv;cases a.neg<;>cases b.neg<;>simp<;>grind
 have hbit:p<bl (nm a*2^dvK a b p/nm b):=zwb ha0 hb0;have hq0:nm a*2^dvK a b p/nm b≠0:=fun c=>by rw[c,qx]at hbit;omega
 have hD:∀up,zdl a b p up=xi (a.neg != b.neg) (nm a*2^dvK a b p/nm b) (a.e-b.e-dvK a b p) (decide (nm a*2^dvK a b p % nm b≠0)) p up:=fun up=>by
  unfold zdl;rw[Z7 hb0,Z7 ha0,zbw _ _ _ _ _ _ (fun _=>hbit) (fun h=>absurd h hq0) hp]
 refine⟨?_,fun up=>by rw[hD];exact zhr _ _ _ _ _ _ hp⟩;rw[hv,show(fun up=>zdl a b p up)=_ from funext hD];have hx:vN (nm a) a.e=vN (nm a*2^dvK a b p) (a.e-dvK a b p):=by rw[zb8];congr 1;omega
 have hq:∀q,vN q (a.e-b.e-dvK a b p)*vN (nm b) b.e=vN (q*nm b) (a.e-dvK a b p):=fun q=>by rw[zny];congr 1;omega
 have hdm:=Nat.div_add_mod' (nm a*2^dvK a b p) (nm b);have hml:=w3 (nm a*2^dvK a b p) (wR hb0);have hnz:vN (nm b) b.e≠0:=fun c=>by rw[c]at hb;grind
 refine zcb hp _ ?_ ?_ ?_ ?_ ?_ ?_
 .rw[zpl hb,hq,hx,yj];omega
 .rw[zt9 hb,hq,hx,zkw,Nat.succ_mul];omega
 .intro h;have h:nm a*2^dvK a b p % nm b=0:=by simpa using h
  have e1:vN (nm a*2^dvK a b p/nm b) (a.e-b.e-dvK a b p)*vN (nm b) b.e=vN (nm a) a.e:=by
   rw[hq,hx];congr 1;omega
  rw[<-e1];grind
 .intro h;have h:nm a*2^dvK a b p % nm b≠0:=by simpa using h
  refine vD.1 fun c=>?_
  have h2:=vz c (Rat.le_of_lt hb);have e1:vN (nm a) a.e/vN (nm b) b.e*vN (nm b) b.e=vN (nm a) a.e:=by grind
  rw[e1,hq,hx,yj]at h2;omega
 .exact fun _=>hbit
 .exact fun h=>absurd h hq0
theorem znl{a b:Dy}(ha:VD a)(hb:VD b)(hb0:nm b≠0){p:Nat}(hp:8<=p/\p<=512)(up:Bool):Eq0 (zdl a b p up) (zbv a b p up):=by
 by_cases ha0:nm a=0
 .have e:zdl a b p up=(d0,0):=by unfold zdl;rw[Z7 hb0,Z6 ha0]
  have R:=zhj ha hb hb0 hp;have e0:dv a/dv b=0:=by rw[yp ha0];grind
  rw[e0]at R;have Zq:RT p 0 (fun _=>(d0,(0:Int))):=⟨⟨fun _=>⟨by show dv d0<=0;rw[ze4];exact v6,.inl (by show inF p (dv d0);rw[ze4];exact zcm p)⟩,fun z _ hz=>⟨rfl,by show z<=dv d0;rw[ze4];exact hz⟩⟩,⟨fun _=>⟨by show 0<=dv d0;rw[ze4];exact v6,.inl (by show inF p (dv d0);rw[ze4];exact zcm p)⟩,fun z _ hz=>⟨rfl,by show dv d0<=z;rw[ze4];exact hz⟩⟩⟩;rw[e];exact zqz Zq R up qv (zc5 _ _ _ _ hp)
 .obtain⟨R,v⟩:=zua hb0 ha0 hp;exact zqz R (zhj ha hb hb0 hp) up (v up) (zc5 _ _ _ _ hp)
def prL(x y:Iv):List (Dy×Dy):= [(x.lo,y.lo),(x.lo,y.hi),(x.hi,y.lo),(x.hi,y.hi)]
theorem r257(x y:Iv):Fn 198 [] [.agg (ivC x),.agg (ivC y)] (.sl .dd (prL x y)) []:=by
 obtain⟨⟨x1,x2,x3⟩,⟨x4,x5,x6⟩,x7⟩:=x;obtain⟨⟨y1,y2,y3⟩,⟨y4,y5,y6⟩,y7⟩:=y;refine fY6 Tryz.func198 rfl ?_;exact⟨lr rfl,lh0⟩
theorem zyh{x y:Iv}(kx:KI x)(ky:KI y){q:Dy×Dy}(h:q∈prL x y):VD q.1/\VD q.2:=by
 simp only[prL,vI,vq,or_false]at h;rcases h with rfl|rfl|rfl|rfl
 .exact⟨kx.lo,ky.lo⟩
 .exact⟨kx.lo,ky.hi⟩
 .exact⟨kx.hi,ky.lo⟩
 .exact⟨kx.hi,ky.hi⟩
theorem qav(a b:Dy):zm8 b a=if wa a b<0 then a else b:=by
 unfold zm8;by_cases h:dv b<=dv a
 .rw[Z6 (zbx.2 h),Z7 fun c=>absurd ((zaw a b).1.1 c) (vP.2 h)]
 .rw[Z7 fun c=>h (zbx.1 c),Z6 ((zaw a b).1.2 (vD.1 h))]
theorem qas(a b:Dy):zj1 b a=if 0<wa a b then a else b:=by
 unfold zj1;by_cases h:dv a<=dv b
 .rw[Z6 (zi6.2 h),Z7 fun c=>absurd ((zaw a b).2.1.1 c) (vP.2 h)]
 .rw[Z7 fun c=>h (zi6.1 c),Z6 ((zaw a b).2.1.2 (vD.1 h))]
theorem zwq(a:Dy):zm8 a a=a:=by unfold zm8;split<;>rfl
theorem zwp(a:Dy):zj1 a a=a:=by unfold zj1;split<;>rfl
def nxI(i:Nat)(o:Iv)(D U:Dy×Int):Iv:=⟨zm8 (if i=0 then D.1 else o.lo) D.1,zj1 (if i=0 then U.1 else o.hi) U.1,false⟩
theorem nx_0(o:Iv)(D U:Dy×Int):nxI 0 o D U=⟨D.1,U.1,false⟩:=by
 unfold nxI;rw[Z6 rfl,Z6 rfl,zwq,zwp]
theorem nx_s(i:Nat)(o:Iv)(D U:Dy×Int):nxI (i+1) o D U=⟨if wa D.1 o.lo<0 then D.1 else o.lo,if 0<wa U.1 o.hi then U.1 else o.hi,false⟩:=by
 unfold nxI;rw[Z7 (vs i),Z7 (vs i),qav,qas]
theorem zyv(dn up:Dy->Dy->Dy×Int)(x y:Iv)(i:Nat)(o:Iv)(hi:i<4){q:Dy×Dy}(hq:(prL x y)[i]? =some q):
 f4I dn up x y i o=if(dn q.1 q.2).2≠0\/(up q.1 q.2).2≠0 then wI0 else f4I dn up x y (i+1) (nxI i o (dn q.1 q.2) (up q.1 q.2)):=by
 obtain rfl|rfl|rfl|rfl:i=0\/i=1\/i=2\/i=3:=O
 .cases hq
  rw[nx_0];rfl
 .cases hq
  rw[nx_s 0];rfl
 .cases hq
  rw[nx_s 1];rfl
 .cases hq
  rw[nx_s 2];rfl
theorem qcc{a b:Dy}{p:Nat}(hp:8<=p/\p<=512)(up:Bool):VD (zdl a b p up).1:=by
 by_cases hb0:nm b=0
 .unfold zdl;rw[Z6 hb0];exact qv
 .by_cases ha0:nm a=0
  .unfold zdl;rw[Z7 hb0,Z6 ha0];exact qv
  .exact(zua hb0 ha0 hp).2 up
def ztc(x y:Iv)(p:Int):Iv:=if pcB p=true/\kB x=true/\kB y=true then jt (fun a b=>ug a b p.toNat false) (fun a b=>ug a b p.toNat true) x y else wI0
theorem r178(x y:Iv)(hx:RI x)(hy:RI y)(p:Int):Fn 144 [] [.agg (ivC x),.agg (ivC y),.int .i64 p] (.agg (ivC (ztc x y p))) []:=by
 have h60:=r60 p;have h1:=zve x hx;have h2:=zve y hy;have h61:=r61;obtain⟨R,hR⟩:∃R,ztc x y p=R:=⟨_,rfl⟩;rw[hR];unfold ztc at hR
 cases hp:pcB p with
 |false=>
  rw[hp]at h60;rw[Z7 (by rw[hp];simp)]at hR;subst hR;refine fY6 Tryz.func144 rfl ?_;refine gYn h60 ?_;refine gYn h61 ?_;exact⟨lr rfl,lh0⟩
 |true=>
 rw[hp]at h60
 cases hkx:kB x with
 |false=>
  rw[hkx]at h1;rw[Z7 (by rw[hkx];simp)]at hR;subst hR;refine fY6 Tryz.func144 rfl ?_;refine gYn h60 ?_;refine gYn h1 ?_;refine gYn h61 ?_;exact⟨lr rfl,lh0⟩
 |true=>
 rw[hkx]at h1
 cases hky:kB y with
 |false=>
  rw[hky]at h2;rw[Z7 (by rw[hky];simp)]at hR;subst hR;refine fY6 Tryz.func144 rfl ?_;refine gYn h60 ?_;refine gYn h1 ?_;refine gYn h2 ?_;refine gYn h61 ?_;exact⟨lr rfl,lh0⟩
 |true=>
 rw[hky]at h2;rw[Z6 ⟨hp,hkx,hky⟩]at hR;have kx:=(zw hx).1 hkx;have ky:=(zw hy).1 hky;have hpn:8<=p.toNat/\p.toNat<=512:=vj hp;have c257:=r257 x y;have cd:∀q:Dy×Dy,q∈prL x y->∀up,Fn 199 [] [.agg (dyC q.1),.agg (dyC q.2),.int .i64 p,.bool up] (dyV (ug q.1 q.2 p.toNat up)) []/\VD (ug q.1 q.2 p.toNat up).1:=fun q hq up=>by
  have ⟨va,vb⟩:=zyh kx ky hq;have h:=r258 va vb p.toNat hpn up;rw[zta va vb p.toNat hpn up]at h;rw[show((p.toNat:Nat):Int)=p by omega]at h;exact⟨h,zac _ _ _ _ hpn⟩
 have gs:=fun i o=>zyv (fun a b=>ug a b p.toNat false) (fun a b=>ug a b p.toNat true) x y i o
 unfold jt at hR;generalize hG:f4I (fun a b=>ug a b p.toNat false) (fun a b=>ug a b p.toNat true) x y=G at*;have hG4:∀o,G 4 o=o:=fun o=>by rw[<-hG];rfl
 have hG0:∀o o',G 0 o=G 0 o':=fun o o'=>by rw[<-hG];rfl
 generalize p.toNat=n at*;clear hG kx ky hx hy hpn hkx hky;have hpl:(prL x y).length =4:=rfl;generalize prL x y=l at*;refine fY6 Tryz.func144 rfl ?_;refine gYn h60 ?_;refine gYn h1 ?_;refine gYn h2 ?_;refine gYn c257 ?_;refine⟨Nat×Iv,fun s=>s.1<=4/\(s.1≠0->VD s.2.lo/\VD s.2.hi)/\s.2.all=false/\G s.1 s.2=R,fun s=> [(9,.int .i64 s.1)],fun s=> [(8,.cells (ivC s.2))],fun s=>4-s.1,(0,⟨d0,d0,false⟩),⟨OC,fun h=>absurd rfl h,rfl,by rw[<-hR];exact hG0 _ _⟩,?_,fun s hs=>?_⟩
 .exact KZ0
 obtain⟨i,o⟩:=s;obtain⟨g1,g2,g3,g4⟩:=hs;simp only at g1 g2 g3 g4;refine gYe ?_;refine brI (fun c=>?_) (fun c=>?_)
 .have c:i<4:=by have c:((i:Nat):Int)<4:=Z0 c;omega
  obtain⟨q,hq⟩:∃q,l[i]? =some q:=⟨_,q3 O⟩;obtain⟨cd1,vd1⟩:=cd q (qG hq) false;obtain⟨cd2,vd2⟩:=cd q (qG hq) true;have gs:=gs i o c hq;rw[g4]at gs;obtain⟨q1,q2⟩:=q;obtain⟨D,hD⟩:∃D,ug q1 q2 n false=D:=⟨_,rfl⟩;obtain⟨U,hU⟩:∃U,ug q1 q2 n true=U:=⟨_,rfl⟩;simp only at cd1 cd2 vd1 vd2 gs;rw[hD]at cd1 vd1 gs;rw[hU]at cd2 vd2 gs;have hix:∀z:Dy×Dy,l[((i:Nat):Int).toNat]? =some z->z=(q1,q2):=fun z hz=>by rw[q0,hq]at hz;cases hz;rfl
  conv=>whnf
  refine⟨⟨O,OD⟩,fun(zcd11:Dy×Dy)hzcd11=>?_⟩;obtain rfl:=hix zcd11 hzcd11;conv=>whnf
  refine⟨⟨OA,OA⟩,?_⟩;conv=>whnf
  refine⟨⟨O,OD⟩,fun(zcd12:Dy×Dy)hzcd12=>?_⟩;obtain rfl:=hix zcd12 hzcd12;conv=>whnf
  refine⟨⟨OA,OA⟩,?_⟩;conv=>whnf
  refine gZn cd1 ?_;refine gYd ?_;refine⟨⟨O,OD⟩,fun(zcd21:Dy×Dy)hzcd21=>?_⟩;obtain rfl:=hix zcd21 hzcd21;conv=>whnf
  refine⟨⟨OA,OA⟩,?_⟩;conv=>whnf
  refine⟨⟨O,OD⟩,fun(zcd22:Dy×Dy)hzcd22=>?_⟩;obtain rfl:=hix zcd22 hzcd22;conv=>whnf
  refine⟨⟨OA,OA⟩,?_⟩;conv=>whnf
  refine gZn cd2 ?_;refine gYd ?_;refine brI (fun k1=>?_) (fun k1=>?_)
  .have k1:D.2≠0:=by simpa using k1
   rw[Z6 (.inl k1)]at gs;subst gs;conv=>whnf
   refine gYn h61 ?_;exact⟨lr rfl,lh0⟩
  have k1:D.2=0:=by simpa using k1
  conv=>whnf
  refine brI (fun k2=>?_) (fun k2=>?_)
  .have k2:U.2≠0:=by simpa using k2
   rw[Z6 (.inr k2)]at gs;subst gs;conv=>whnf
   refine gYn h61 ?_;exact⟨lr rfl,lh0⟩
  have k2:U.2=0:=by simpa using k2
  rw[Z7 (by rw[k1,k2];simp)]at gs;have vo:VD (nxI i o D U).lo /\VD (nxI i o D U).hi :=by
   by_cases h0:i=0
   .subst h0;rw[nx_0];exact⟨vd1,vd2⟩
   .obtain⟨v1,v2⟩:=g2 h0;unfold nxI;rw[Z7 h0,Z7 h0];exact⟨zdi v1 vd1,zb2 v2 vd2⟩
  clear cd1 cd2 cd hix hq c257 h1 h2 h60 h61;conv=>whnf
  refine brI (fun c0=>?_) (fun c0=>?_)
  .have c0:i=0:=by have c0:(((i:Nat):Int)==0)=true:=c0;have:=beq_iff_eq.1 c0;omega
   subst c0;have cl:=r162 vd1 vd1;have ch:=qct vd2 vd2;have en:nxI 0 o D U=⟨zm8 D.1 D.1,zj1 U.1 U.1,false⟩:=rfl;rw[en]at gs vo;generalize zm8 D.1 D.1=L at*;generalize zj1 U.1 U.1=M at*;obtain⟨⟨a1,a2,a3⟩,a4⟩:=D;obtain⟨⟨b1,b2,b3⟩,b4⟩:=U;conv=>whnf
   refine gYn cl ?_;refine gZn ch ?_;refine gYd ?_;refine⟨(0+1,⟨L,M,false⟩),⟨OD,fun _=>vo,rfl,gs.symm⟩,by show 4-(0+1)<4-0;omega,?_⟩;exact KZ0
  .have c0:i≠0:=by have c0:(((i:Nat):Int)==0)=false:=c0;have:=beq_eq_false_iff_ne.1 c0;omega
   obtain⟨v1,v2⟩:=g2 c0;have cl:=r162 v1 vd1;have ch:=qct v2 vd2;have en:nxI i o D U=⟨zm8 o.lo D.1,zj1 o.hi U.1,false⟩:=by unfold nxI;rw[Z7 c0,Z7 c0]
   rw[en]at gs vo;generalize zm8 o.lo D.1=L at*;generalize zj1 o.hi U.1=M at*;obtain⟨⟨a1,a2,a3⟩,a4⟩:=D;obtain⟨⟨b1,b2,b3⟩,b4⟩:=U;obtain⟨⟨o1,o2,o3⟩,⟨o4,o5,o6⟩,o7⟩:=o;conv=>whnf
   refine gYn cl ?_;refine gZn ch ?_;refine gYd ?_;refine⟨(i+1,⟨L,M,false⟩),⟨OD,fun _=>vo,rfl,gs.symm⟩,by show 4-(i+1)<4-i;omega,?_⟩;exact KZ0
 .have c:i=4:=by have c:¬((i:Nat):Int)<4:=Z3 c;omega
  subst c;rw[hG4]at g4;subst g4;conv=>whnf
  exact⟨lr rfl,lh0⟩
theorem zoz{x y:Iv}(hx:RI x)(hy:RI y)(p:Int):ztc x y p=ja x y p:=by
 unfold ztc ja;by_cases c:pcB p=true/\kB x=true/\kB y=true
 .rw[Z6 c,Z6 ⟨by rw[c.2.1,c.2.2];rfl,c.1⟩]
 .rw[Z7 c,Z7 fun d=>c ⟨d.2,by have:=d.1;rw[wi]at this;exact this⟩]
def zuc(x y:Iv)(p:Int):Iv:=if pcB p=true/\kB x=true/\kB y=true/\zct y≠0 then jt (fun a b=>zdl a b p.toNat false) (fun a b=>zdl a b p.toNat true) x y else wI0
theorem r179(x y:Iv)(hx:RI x)(hy:RI y)(p:Int):Fn 145 [] [.agg (ivC x),.agg (ivC y),.int .i64 p] (.agg (ivC (zuc x y p))) []:=by
 have h60:=r60 p;have h1:=zve x hx;have h2:=zve y hy;have h61:=r61;obtain⟨R,hR⟩:∃R,zuc x y p=R:=⟨_,rfl⟩;rw[hR];unfold zuc at hR
 cases hp:pcB p with
 |false=>
  rw[hp]at h60;rw[Z7 (by rw[hp];simp)]at hR;subst hR;refine fY6 Tryz.func145 rfl ?_;refine gYn h60 ?_;refine gYn h61 ?_;exact⟨lr rfl,lh0⟩
 |true=>
 rw[hp]at h60
 cases hkx:kB x with
 |false=>
  rw[hkx]at h1;rw[Z7 (by rw[hkx];simp)]at hR;subst hR;refine fY6 Tryz.func145 rfl ?_;refine gYn h60 ?_;refine gYn h1 ?_;refine gYn h61 ?_;exact⟨lr rfl,lh0⟩
 |true=>
 rw[hkx]at h1
 cases hky:kB y with
 |false=>
  rw[hky]at h2;rw[Z7 (by rw[hky];simp)]at hR;subst hR;refine fY6 Tryz.func145 rfl ?_;refine gYn h60 ?_;refine gYn h1 ?_;refine gYn h2 ?_;refine gYn h61 ?_;exact⟨lr rfl,lh0⟩
 |true=>
 rw[hky]at h2;have h259:=r259 y hy;by_cases hsg:zct y=0
 .rw[Z7 fun c=>c.2.2.2 hsg]at hR;rw[hsg]at h259;subst hR;refine fY6 Tryz.func145 rfl ?_;refine gYn h60 ?_;refine gYn h1 ?_;refine gYn h2 ?_;refine gYn h259 ?_;refine gYn h61 ?_;exact⟨lr rfl,lh0⟩
 rw[Z6 ⟨hp,hkx,hky,hsg⟩]at hR;have kx:=(zw hx).1 hkx;have ky:=(zw hy).1 hky;have hpn:8<=p.toNat/\p.toNat<=512:=vj hp;have c257:=r257 x y;have cd:∀q:Dy×Dy,q∈prL x y->∀up,Fn 203 [] [.agg (dyC q.1),.agg (dyC q.2),.int .i64 p,.bool up] (dyV (zdl q.1 q.2 p.toNat up)) []/\VD (zdl q.1 q.2 p.toNat up).1:=fun q hq up=>by
  have ⟨va,vb⟩:=zyh kx ky hq;have h:=r260 va vb p.toNat hpn up;rw[show((p.toNat:Nat):Int)=p by omega]at h;exact⟨h,qcc hpn up⟩
 have gs:=fun i o=>zyv (fun a b=>zdl a b p.toNat false) (fun a b=>zdl a b p.toNat true) x y i o
 unfold jt at hR;generalize hG:f4I (fun a b=>zdl a b p.toNat false) (fun a b=>zdl a b p.toNat true) x y=G at*;have hG4:∀o,G 4 o=o:=fun o=>by rw[<-hG];rfl
 have hG0:∀o o',G 0 o=G 0 o':=fun o o'=>by rw[<-hG];rfl
 generalize p.toNat=n at*;clear hG kx ky hx hy hpn hkx hky;have hpl:(prL x y).length =4:=rfl;generalize prL x y=l at*;refine fY6 Tryz.func145 rfl ?_;refine gYn h60 ?_;refine gYn h1 ?_;refine gYn h2 ?_;refine gYn h259 ?_;refine brI (fun c=>absurd (beq_iff_eq.1 c) hsg) (fun _=>?_);conv=>whnf
 refine gYn c257 ?_;refine⟨Nat×Iv,fun s=>s.1<=4/\(s.1≠0->VD s.2.lo/\VD s.2.hi)/\s.2.all=false/\G s.1 s.2=R,fun s=> [(9,.int .i64 s.1)],fun s=> [(8,.cells (ivC s.2))],fun s=>4-s.1,(0,⟨d0,d0,false⟩),⟨OC,fun h=>absurd rfl h,rfl,by rw[<-hR];exact hG0 _ _⟩,?_,fun s hs=>?_⟩
 .exact KZ0
 obtain⟨i,o⟩:=s;obtain⟨g1,g2,g3,g4⟩:=hs;simp only at g1 g2 g3 g4;refine gYe ?_;refine brI (fun c=>?_) (fun c=>?_)
 .have c:i<4:=by have c:((i:Nat):Int)<4:=Z0 c;omega
  obtain⟨q,hq⟩:∃q,l[i]? =some q:=⟨_,q3 O⟩;obtain⟨cd1,vd1⟩:=cd q (qG hq) false;obtain⟨cd2,vd2⟩:=cd q (qG hq) true;have gs:=gs i o c hq;rw[g4]at gs;obtain⟨q1,q2⟩:=q;obtain⟨D,hD⟩:∃D,zdl q1 q2 n false=D:=⟨_,rfl⟩;obtain⟨U,hU⟩:∃U,zdl q1 q2 n true=U:=⟨_,rfl⟩;simp only at cd1 cd2 vd1 vd2 gs;rw[hD]at cd1 vd1 gs;rw[hU]at cd2 vd2 gs;have hix:∀z:Dy×Dy,l[((i:Nat):Int).toNat]? =some z->z=(q1,q2):=fun z hz=>by rw[q0,hq]at hz;cases hz;rfl
  conv=>whnf
  refine⟨⟨O,OD⟩,fun(zcd11:Dy×Dy)hzcd11=>?_⟩;obtain rfl:=hix zcd11 hzcd11;conv=>whnf
  refine⟨⟨OA,OA⟩,?_⟩;conv=>whnf
  refine⟨⟨O,OD⟩,fun(zcd12:Dy×Dy)hzcd12=>?_⟩;obtain rfl:=hix zcd12 hzcd12;conv=>whnf
  refine⟨⟨OA,OA⟩,?_⟩;conv=>whnf
  refine gZn cd1 ?_;refine gYd ?_;refine⟨⟨O,OD⟩,fun(zcd21:Dy×Dy)hzcd21=>?_⟩;obtain rfl:=hix zcd21 hzcd21;conv=>whnf
  refine⟨⟨OA,OA⟩,?_⟩;conv=>whnf
  refine⟨⟨O,OD⟩,fun(zcd22:Dy×Dy)hzcd22=>?_⟩;obtain rfl:=hix zcd22 hzcd22;conv=>whnf
  refine⟨⟨OA,OA⟩,?_⟩;conv=>whnf
  refine gZn cd2 ?_;refine gYd ?_;refine brI (fun k1=>?_) (fun k1=>?_)
  .have k1:D.2≠0:=by simpa using k1
   rw[Z6 (.inl k1)]at gs;subst gs;conv=>whnf
   refine gYn h61 ?_;exact⟨lr rfl,lh0⟩
  have k1:D.2=0:=by simpa using k1
  conv=>whnf
  refine brI (fun k2=>?_) (fun k2=>?_)
  .have k2:U.2≠0:=by simpa using k2
   rw[Z6 (.inr k2)]at gs;subst gs;conv=>whnf
   refine gYn h61 ?_;exact⟨lr rfl,lh0⟩
  have k2:U.2=0:=by simpa using k2
  rw[Z7 (by rw[k1,k2];simp)]at gs;have vo:VD (nxI i o D U).lo /\VD (nxI i o D U).hi :=by
   by_cases h0:i=0
   .subst h0;rw[nx_0];exact⟨vd1,vd2⟩
   .obtain⟨v1,v2⟩:=g2 h0;unfold nxI;rw[Z7 h0,Z7 h0];exact⟨zdi v1 vd1,zb2 v2 vd2⟩
  clear cd1 cd2 cd hix hq c257 h1 h2 h60 h61;conv=>whnf
  refine brI (fun c0=>?_) (fun c0=>?_)
  .have c0:i=0:=by have c0:(((i:Nat):Int)==0)=true:=c0;have:=beq_iff_eq.1 c0;omega
   subst c0;have cl:=r162 vd1 vd1;have ch:=qct vd2 vd2;have en:nxI 0 o D U=⟨zm8 D.1 D.1,zj1 U.1 U.1,false⟩:=rfl;rw[en]at gs vo;generalize zm8 D.1 D.1=L at*;generalize zj1 U.1 U.1=M at*;obtain⟨⟨a1,a2,a3⟩,a4⟩:=D;obtain⟨⟨b1,b2,b3⟩,b4⟩:=U;conv=>whnf
   refine gYn cl ?_;refine gZn ch ?_;refine gYd ?_;refine⟨(0+1,⟨L,M,false⟩),⟨OD,fun _=>vo,rfl,gs.symm⟩,by show 4-(0+1)<4-0;omega,?_⟩;exact KZ0
  .have c0:i≠0:=by have c0:(((i:Nat):Int)==0)=false:=c0;have:=beq_eq_false_iff_ne.1 c0;omega
   obtain⟨v1,v2⟩:=g2 c0;have cl:=r162 v1 vd1;have ch:=qct v2 vd2;have en:nxI i o D U=⟨zm8 o.lo D.1,zj1 o.hi U.1,false⟩:=by unfold nxI;rw[Z7 c0,Z7 c0]
   rw[en]at gs vo;generalize zm8 o.lo D.1=L at*;generalize zj1 o.hi U.1=M at*;obtain⟨⟨a1,a2,a3⟩,a4⟩:=D;obtain⟨⟨b1,b2,b3⟩,b4⟩:=U;obtain⟨⟨o1,o2,o3⟩,⟨o4,o5,o6⟩,o7⟩:=o;conv=>whnf
   refine gYn cl ?_;refine gZn ch ?_;refine gYd ?_;refine⟨(i+1,⟨L,M,false⟩),⟨OD,fun _=>vo,rfl,gs.symm⟩,by show 4-(i+1)<4-i;omega,?_⟩;exact KZ0
 .have c:i=4:=by have c:¬((i:Nat):Int)<4:=Z3 c;omega
  subst c;rw[hG4]at g4;subst g4;conv=>whnf
  exact⟨lr rfl,lh0⟩
theorem sg_nz{y:Iv}(k:KI y)(h:zct y≠0):nm y.lo≠0/\nm y.hi≠0:=by
 have hle:=k.dle;rcases(zds k).1 h with c|c
 .exact⟨fun e=>by rw[yp e]at c;grind,fun e=>by rw[yp e]at hle;grind⟩
 .exact⟨fun e=>by rw[yp e]at hle;grind,fun e=>by rw[yp e]at c;grind⟩
theorem zpq{x y:Iv}(hx:RI x)(hy:RI y)(p:Int):zuc x y p=uq x y p:=by
 unfold zuc uq;by_cases c:pcB p=true/\kB x=true/\kB y=true/\zct y≠0
 .rw[Z6 c,Z6 ⟨by rw[c.2.1,c.2.2.1];rfl,c.1,c.2.2.2⟩];have kx:=(zw hx).1 c.2.1;have ky:=(zw hy).1 c.2.2.1;have hp:=vj c.1;obtain⟨z1,z2⟩:=sg_nz ky c.2.2.2;refine qbe fun a b ha hb=>?_
  have va:VD a:=by rcases ha with rfl|rfl;exact kx.lo;exact kx.hi
  have vb:VD b/\nm b≠0:=by rcases hb with rfl|rfl;exact⟨ky.lo,z1⟩;exact⟨ky.hi,z2⟩
  exact⟨znl va vb.1 vb.2 hp false,znl va vb.1 vb.2 hp true⟩
 .rw[Z7 c,Z7 fun d=>c ⟨d.2.1,by have:=d.1;rw[wi]at this;exact this.1,by have:=d.1;rw[wi]at this;exact this.2,d.2.2⟩]
