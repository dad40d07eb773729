/- The reference's dyadic numbers (layer 2), at any values: bits, comparisons, signs. -/
import Derived.Test.YtbolipecnhlnnaaGreatDoorVYc
import Derived.Test.YtbolipecnhlnnaaGreatDoorVYu
import Derived.Test.YtbolipecnhlnnaaGreatDoorVYz
set_option linter.all false
open And renaming intro->q9
open BitVec renaming ofInt->q3,ofInt_natCast->w0,toNat_ofNat->w6,toNat_and->wm
open Bool renaming false_and->qM,true_and->we,eq_iff_iff->wC,and_false->wR,and_true->wS,or_false->wT
open Int renaming toNat_natCast->q4,fdiv_eq_ediv_of_nonneg->q5,ofNat_tmod->qP,ofNat_tdiv->qT,toNat_zero->qW,eq_ofNat_of_zero_le->ws,pow_pos->wE,ediv_le_self->wL,ediv_nonneg->wO,pow_nonneg->jA,add_zero->wV
open List renaming getElem?_eq_getElem->q0,take_of_length_le->q6,getElem?_eq_none->qd,getElem_mem->qn,replicate->qA,getElem?_set_ne->qD,getElem?_replicate->qE,drop_of_length_le->qF,eq_of_mem_replicate->qH,length_set->qI,mem_of_getElem?->qK,take_length->qR,length_cons->qX,eq_nil_of_length_eq_zero->qZ,mem_of_mem_drop->w1,set->w7,getLast?_eq_getElem?->w8,getElem?_set_self->wt,length_nil->wA,getElem?_drop->wF,take_add_one->wH,length_drop->wK,length_take->jB
open Nat renaming two_pow_pos->q8,div_eq_of_eq_mul_right->qB,le_refl->qC,mul_assoc->qG,mul_add->qJ,and_two_pow_sub_one_eq_mod->qL,le_trans->qN,pow_le_pow_right->qO,pow_add->qQ,mul_comm->qS,add_zero->qU,testBit_eq_decide_div_mod_eq->qV,div_add_mod->w2,mul_le_mul_left->w3,pow_succ->w4,mul_lt_mul_of_pos_right->w5,mul_one->w9,mod_eq_of_lt->wi,le_mul_of_pos_right->wn,div_le_self->wB,div_lt_iff_lt_mul->wD,mod_lt->wG,mul_zero->wJ,lt_succ_self->jC,mul_eq_zero->wP,add_comm->wW,zero_mul->wX,pow_mul->wY
open Option renaming getD_some->jD,getD_none->qY
open Go.IntKind renaming u64->wZ,i64->v0,u32->v3,signed->v4,wrap->v5,bits->v6
namespace Go.Proofs.YtbolipecnhlnnaaGreatDoor
open Go Go.Sx
set_option maxRecDepth 100000
set_option maxHeartbeats 8000000
theorem qhw{l:List Int}(hb:LB l)(hl:l.length<=1000000):Fn 199 [] [.sl .u32 l] (.sl .u32 (toL (val l))) []:=by
 have:=y247 l hl
 rwa [xm hb]at this
theorem r250(n:Nat)(hn:(toL n).length <=1000000):Fn 84 [] [.sl .u32 (toL n)] (.int .i64 (bl n:Nat)) []:=by
 have hb:=zm n;have hla:=zfi n;generalize bl n=B at hla⊢;generalize toL n=t at hn hb hla⊢;refine fY6 Tryz.func84 rfl ?_;refine brI (fun h1=>?_) (fun h1=>?_)
 .have h1:t= []:=by
   have h1:((t.length:Int)==0)=true:=h1;rw[beq_iff_eq]at h1;exact qZ O
  subst h1;simp only[List.getLast?_nil]at hla;conv=>whnf
  exact⟨ai0 hla,lh0⟩
 .have h1:0<t.length:=by
   have h1:((t.length:Int)==0)=false:=h1;rw[beq_eq_false_iff_ne]at h1;omega
  have hw:v0.wrap ((t.length:Int)-1)=((t.length-1:Nat):Int):=by rw[wI O];omega
  conv=>whnf
  rw[hw];refine⟨⟨O,O⟩,fun x hx=>?_⟩;have hx:t[t.length-1]? =some x:=by simpa using hx
  have hg:t.getLast?=some x:=by rw[w8];exact hx
  have hxb:=hb x (qK hx);rw[hg]at hla;simp only at hla;rw[zct O]at hla;have hbx:bl x.toNat<=32:=wv.2 O;conv=>whnf
  rw[wI (x:=32*((t.length-1:Nat):Int)) O];refine⟨Nat,fun y=>y<4294967296/\bl y<=bl x.toNat,fun y=> [(3,.int .i64 ((B:Int)-(bl y:Nat))),(4,.int .u32 y)],fun _=> [],fun y=>y,x.toNat,⟨O,qC _⟩,?_,fun y hy=>?_⟩
  .exact KZ0
  obtain⟨hy1,hy2⟩:=hy;refine gYe ?_;refine brI (fun h2=>?_) (fun h2=>?_)
  .have h2:0<y:=by simp only[Z2]at h2;omega
   have hh:=zmg (n:=y) O;conv=>whnf
   refine⟨OA,?_⟩;conv=>whnf
   refine⟨y/2,⟨O,O⟩,by show y/2<y;omega,?_⟩
   ((conv=>whnf);refine q9 ?_ ?_;repeat' first|refine lc ?_ ?_|refine lh1 ?_ ?_|refine bc0 ?_|exact KXZ|refine lg0 ?_|refine lt0 ?_)
   .exact ai0 (by rw[wI O];omega)
   .exact ai0 (by
     show((y:Int)).fdiv 2=_;rw[q5 _ OA];omega)
  .have h2:y=0:=by simp only[Z3]at h2;omega
   subst h2;conv=>whnf
   exact⟨ai0 (by simp[vl]),lh0⟩
theorem qe8(d:Dy):Fn 119 [] [.agg (dyC d)] (.int .i64 (sgR d)) []:=by
 obtain⟨s,m,e⟩:=d;refine fY6 Tryz.func119 rfl ?_;refine brI (fun h1=>?_) (fun h1=>?_)
 .have h1:((m.length:Int)==0)=true:=h1;rw[beq_iff_eq]at h1;conv=>whnf
  exact⟨ai0 (by unfold sgR;rw[Z4 (O:m.length=0)]),lh0⟩
 .have h1:((m.length:Int)==0)=false:=h1;rw[beq_eq_false_iff_ne]at h1;have e1:sgR ⟨s,m,e⟩=if s=true then-1 else 1:=by unfold sgR;rw[Z5 (O:¬m.length=0)]
  rw[e1];cases s
  .conv=>whnf
   exact⟨ai0 rfl,lh0⟩
  .conv=>whnf
   exact⟨ai0 rfl,lh0⟩
theorem r168(x y:Nat)(hal:(toL x).length <=1000000)(hbl:(toL y).length <=1000000):Fn 196 [] [.sl .u32 (toL x),.sl .u32 (toL y)] (.int .i64 (uf x y)) []:=by
 obtain⟨A,hA⟩:∃A,qgy (toL x) (toL y)=A:=⟨_,rfl⟩;rw[<-zdm,hA];unfold qgy at hA;rw[qm,qm]at hA;generalize toL x=s at hal hA⊢;generalize toL y=t at hbl hA⊢;refine fY6 Tryz.func196 rfl ?_;refine brI (fun h1=>?_) (fun h1=>?_)
 .have h1:((s.length:Int) != (t.length:Int))=true:=h1;have h1:(s.length:Int)≠t.length:=by simpa using h1
  conv=>whnf
  refine brI (fun h2=>?_) (fun h2=>?_)
  .have h2:s.length<t.length:=by simp only[Z2]at h2;omega
   rw[Z4 h2]at hA;subst hA;conv=>whnf
   exact⟨lr rfl,lh0⟩
  .have h2:¬s.length<t.length:=by simp only[Z3]at h2;omega
   rw[Z5 h2,Z4 O]at hA;subst hA;conv=>whnf
   exact⟨lr rfl,lh0⟩
 have h1:((s.length:Int) != (t.length:Int))=false:=h1;have h1:(s.length:Int)=t.length:=by simpa using h1
 rw[Z5 O,Z5 O]at hA;conv=>whnf
 rw[wI (x:=(s.length:Int)-1) O];refine⟨Nat,fun n=>n<=s.length/\zbe s t n=A,fun n=> [(5,.int .i64 ((n:Int)-1))],fun _=> [],fun n=>n,s.length,⟨qC _,hA⟩,?_,fun n hn=>?_⟩
 .exact KZ0
 refine gYe ?_;obtain⟨hn1,hn2⟩:=hn;refine brI (fun h2=>?_) (fun h2=>?_)
 .have h2:0<n:=by simp only[Z2]at h2;omega
  obtain⟨m,rfl⟩:∃m,n=m+1:=⟨n-1,O⟩;have hm:(((m+1:Nat):Int)-1)=(m:Int):=O;have hms:m<s.length:=O;have hmt:m<t.length:=O;have hxs:s[m]? =some s[m]:=q0 hms;have hxt:t[m]? =some t[m]:=q0 hmt;obtain⟨x,hx⟩:∃x:Int,s[m]=x:=⟨_,rfl⟩;obtain⟨y,hy⟩:∃y:Int,t[m]=y:=⟨_,rfl⟩;rw[hx]at hxs;rw[hy]at hxt;simp only[zbe,hxs,hxt,jD]at hn2;conv=>whnf
  rw[hm];refine⟨⟨O,O⟩,fun(z:Int)hz=>?_⟩;have hz:s[m]? =some z:=by simpa using hz
  rw[hxs]at hz;cases hz
  conv=>whnf
  refine⟨⟨O,O⟩,fun(z:Int)hz=>?_⟩;have hz:t[m]? =some z:=by simpa using hz
  rw[hxt]at hz;cases hz
  conv=>whnf
  refine gYd ?_;refine brI (fun h3=>?_) (fun h3=>?_)
  .have h3:x<y:=by simpa using h3
   rw[Z4 h3]at hn2;conv=>whnf
   exact⟨ai0 hn2,lh0⟩
  have h3:¬x<y:=by simpa using h3
  rw[Z5 h3]at hn2;conv=>whnf
  refine⟨⟨O,O⟩,fun(z:Int)hz=>?_⟩;have hz:s[m]? =some z:=by simpa using hz
  rw[hxs]at hz;cases hz
  conv=>whnf
  refine⟨⟨O,O⟩,fun(z:Int)hz=>?_⟩;have hz:t[m]? =some z:=by simpa using hz
  rw[hxt]at hz;cases hz
  conv=>whnf
  refine gYd ?_;refine brI (fun h4=>?_) (fun h4=>?_)
  .have h4:y<x:=by simpa using h4
   rw[Z4 h4]at hn2;conv=>whnf
   exact⟨ai0 hn2,lh0⟩
  have h4:¬y<x:=by simpa using h4
  rw[Z5 h4]at hn2;conv=>whnf
  refine⟨m,⟨O,hn2⟩,by show m<m+1;omega,?_⟩;exact KZ0
 .have h2:n=0:=by simp only[Z3]at h2;omega
  subst h2;simp only[zbe]at hn2;conv=>whnf
  exact⟨ai0 hn2,lh0⟩
theorem zfr(s:Int)(h:0<=s/\s<18446744073709551616):wZ.wrap ((q3 wZ.bits s&&& q3 wZ.bits 4294967295).toNat :Int)=s % 4294967296:=by
 obtain⟨n,rfl⟩:∃n:Nat,s=n:=⟨s.toNat,O⟩;have e1:(q3 64 (n:Int)).toNat =n:=by rw[w0,w6];exact wi O
 have e2:(q3 64 4294967295).toNat =2^32-1:=OA;have e3:(q3 64 (n:Int)&&& q3 64 4294967295).toNat =n % 4294967296:=by
  rw[wm,e1,e2,qL]
 show wZ.wrap ((q3 64 (n:Int)&&& q3 64 4294967295).toNat :Int)=_;rw[e3,wU O];omega
noncomputable def qg1:Code:=Tryz.f194.body.getD .skip
theorem r295(x n:Nat)(hx:(toL x).length <=100000)(hn:n<=100000):Fn 194 [] [.sl .u32 (toL x),.int .i64 n] (.sl .u32 (toL (x*2^n))) []:=by
 have hb2:=zm x;have hsp:=zb4 n x;unfold zhx at hsp;rw[qm]at hsp;generalize toL x=t at hx hb2 hsp⊢;refine jk (code:=qg1) hT6 hmx Tryz.func194 rfl rfl (ex:= []) ?_;conv=>whnf
 refine ym hT6 hmx 3 (fun _:Unit=>⟨[.sl .u32 t,.int .i64 n,.any,.any,.any,.own 11,.int .u64 0]++zhn 36,[(11,.buf 108 .u32 (qA (n/32) 0)),(34,.dead),(100034,.free),(1500034,.free),(41,.free),(100041,.free),(1500041,.free)]⟩) (fun _=>Z) ?_ (fun _=>?_)
 .have hq:v0.wrap ((n:Int).tdiv 32)=((n/32:Nat):Int):=by
   rw[show(n:Int).tdiv 32=((n/32:Nat):Int)from qT n 32,wI O]
  conv=>whnf
  refine⟨O,?_⟩;conv=>whnf
  rw[hq];refine⟨⟨O,O,O⟩,?_⟩;conv=>whnf
  refine⟨(),?_⟩;exact KZ0
 .refine zg8 34 11 Z ?_;conv=>whnf
  refine xn hT6 hmx ?_;conv=>whnf
  refine⟨Nat×List Int×Int,fun x=>x.1<=t.length/\x.2.1.length=n/32+x.1/\(0<=x.2.2/\x.2.2<2^(n % 32))/\x.2.1++zau (n % 32) (t.drop x.1) x.2.2=qA (n/32) 0++zau (n % 32) t 0,fun x=> [(7,.int .i64 x.1),(5,.own 34),(6,.int .u64 x.2.2)],fun x=> [(34,.buf 108 .u32 x.2.1)],fun x=>t.length-x.1,(0,qA (n/32) 0,0),⟨OC,OC,⟨OC,by exact wE OA⟩,OC⟩,?_,fun x hx=>?_⟩
  .exact KZ0
  refine gYe ?_;obtain⟨i,out,c⟩:=x;obtain⟨hi1,hi2,hi3,hi4⟩:=hx;simp only at hi1 hi2 hi3 hi4;have hp31:(2:Int)^(n % 32)<=2147483648:=by
   have h1:2^(n % 32)<=2^31:=qO OA O;have h2:(2:Int)^(n % 32)=((2^(n % 32):Nat):Int):=OC;rw[h2];omega
  refine brI (fun h1=>?_) (fun h1=>?_)
  .have hi:i<t.length:=by simp only[Z2]at h1;omega
   conv=>whnf
   refine⟨⟨O,OD⟩,fun(x:Int)hx=>?_⟩;have hx:t[i]? =some x:=by simpa using hx
   have hxb:=hb2 x (qK hx);have hst:=zoq (n:=n) hxb hi3;have h9:(n:Int).tmod 32=((n % 32:Nat):Int):=qP n 32;have hrem:wZ.wrap ((n:Int).tmod 32)=((n % 32:Nat):Int):=by rw[h9,wU O]
   rw[h9]at hst;rw[qe hx]at hi4;simp only[zau]at hi4;obtain⟨s,hs⟩:∃s,x*2^(n % 32)+c=s:=⟨_,rfl⟩;rw[hs]at hst hi4;have hs0:0<=s/\s<4294967296*2^(n % 32):=by
    have h1:0<=x*2^(n % 32):=Int.mul_nonneg hxb.1 (by exact jA OA);have h2:x*2^(n % 32)<=4294967295*2^(n % 32):=Int.mul_le_mul_of_nonneg_right O (by exact jA OA);omega
   conv=>whnf
   rw[wU (x:=x) O];refine⟨O,?_⟩;conv=>whnf
   rw[hrem];refine⟨O,?_⟩;conv=>whnf
   refine⟨by simp only[qX,wA];omega,?_⟩;conv=>whnf
   refine⟨O,?_⟩;conv=>whnf
   refine⟨(i+1,out++ [s % 4294967296],s/4294967296),⟨OD,by simp only[List.length_append,qX,wA];omega,⟨OD,OD⟩,by rw[List.append_assoc];exact hi4⟩,by show t.length-(i+1)<t.length-i;omega,?_⟩;have e1:v3.wrap (s % 4294967296)=s % 4294967296:=by simp[v5,v4,v6]
   have e2:s.fdiv 4294967296=s/4294967296:=q5 _ OA;have e3:=zfr s O
   ((conv=>whnf);refine q9 ?_ ?_;repeat' first|refine lc ?_ ?_|refine lh1 ?_ ?_|refine bc0 ?_|exact KXZ|refine lg0 ?_|refine lt0 ?_)
   .exact ai0 ((congrArg (fun z:Int=>z.fdiv 4294967296) hst).trans e2)
   .exact ai0 (by rw[wI OD];simp only;omega)
   .exact bb0 (by
     show out++ [_]=out++ [s % 4294967296];rw[<-e1,<-e3,<-hst];rfl)
   all_goals trace_state
  .have hi:¬i<t.length:=by simp only[Z3]at h1;omega
   rw[qF O]at hi4;simp only[zau]at hi4;have ec:v3.wrap c=c:=by simp[v5,v4,v6];omega
   have hv:val (out++ [c])=x*2^n/\LB (out++ [c]):=by rw[hi4];exact hsp
   have h326:=qhw hv.2 OE;rw[hv.1]at h326;conv=>whnf
   refine⟨by simp only[qX,wA];omega,?_⟩;conv=>whnf
   rw[ec];refine gYn h326 ?_;exact⟨lr rfl,lh0⟩
theorem r328(x n:Nat)(hl:(toL x).length <=100000)(hn:n<=1000000000):Fn 201 [] [.sl .u32 (toL x),.int .i64 n] (.sl .u32 (toL (x/2^n))) []:=by
 have hb2:=zm x;have hsp:=zez n x;unfold zhw at hsp;rw[qm]at hsp;generalize x/2^n=V at hsp⊢;generalize toL x=t at hl hb2 hsp⊢;have hq:v0.wrap ((n:Int).tdiv 32)=((n/32:Nat):Int):=by
  rw[show(n:Int).tdiv 32=((n/32:Nat):Int)from qT n 32,wI O]
 have h9:(n:Int).tmod 32=((n % 32:Nat):Int):=qP n 32;have hrem:wZ.wrap ((n:Int).tmod 32)=((n % 32:Nat):Int):=by rw[h9,wU O]
 refine fY6 Tryz.func201 rfl ?_;refine⟨O,?_⟩;conv=>whnf
 rw[hq];refine brI (fun h1=>?_) (fun h1=>?_)
 .have h1:t.length<=n/32:=by simp only[Z2]at h1;omega
  rw[Z4 h1]at hsp;have hV:V=0:=hsp.1.symm;subst hV;conv=>whnf
  exact⟨li0 rfl,lh0⟩
 have h1:¬t.length<=n/32:=by simp only[Z3]at h1;omega
 rw[Z5 h1]at hsp;conv=>whnf
 refine⟨O,?_⟩;conv=>whnf
 rw[hq];refine⟨⟨O,O,O⟩,?_⟩;have hb3:LB (t.drop (n/32)):=fun z hz=>hb2 z (w1 hz)
 have hul:(t.drop (n/32)).length <=100000:=by rw[wK];omega
 have hu:((t.take ((t.length:Int)).toNat).drop (((n/32:Nat):Int)).toNat)=t.drop (n/32):=by rw[show((t.length:Int)).toNat =t.length by omega,qR,show((((n/32:Nat):Int))).toNat =n/32 by omega]
 rw[hu];obtain⟨A,hA⟩:∃A,zb3 (t.drop (n/32)) (n % 32)=A:=⟨_,rfl⟩;rw[hA]at hsp;generalize t.drop (n/32)=u at hA hb3 hul⊢;have hAl:A.length=u.length:=by rw[<-hA];simp[zb3]
 have h326:=qhw hsp.2 O;rw[hsp.1]at h326;have hfin:∀s:Int,0<=s/\s<18446744073709551616->v3.wrap (wZ.wrap ((q3 wZ.bits (s.fdiv (2^min ((n % 32:Nat):Int).toNat 64))&&& q3 wZ.bits 4294967295).toNat :Int))=(s/2^(n % 32)) % 4294967296:=fun s hs=>by
  have hp:(0:Int)<2^(n % 32):=wE OA;have hd:0<=s/2^(n % 32):=wO hs.1 O;have hd2:s/2^(n % 32)<=s:=wL _ hs.1;rw[(O:min ((n % 32:Nat):Int).toNat 64=n % 32),q5 _ O,zfr _ ⟨hd,O⟩];simp[v5,v4,v6]
 conv=>whnf
 refine⟨Nat,fun i=>i<=u.length,fun i=> [(6,.int .i64 i),(5,.own 51)],fun i=> [(51,.buf 108 .u32 (A.take i))],fun i=>u.length-i,0,OC,?_,fun i hi=>?_⟩
 .exact KZ0
 refine gYe ?_;have hi:i<=u.length:=hi;refine brI (fun h2=>?_) (fun h2=>?_)
 .have hi:i<u.length:=by simp only[Z2]at h2;omega
  conv=>whnf
  refine⟨⟨O,O⟩,fun(x:Int)hx=>?_⟩;have hx:u[i]? =some x:=by simpa using hx
  have hxb:=hb3 x (qK hx);have hF:A[i]? =some (zfy u (n % 32) i):=by rw[<-hA];simp[zb3,hi]
  have hstep:A.take i++ [zfy u (n % 32) i]=A.take (i+1):=by rw[wH,hF];rfl
  have hlen:(A.take i).length =i:=by rw[jB];omega
  conv=>whnf
  refine brI (fun h3=>?_) (fun h3=>?_)
  .have h3:i+1<u.length:=by
    have h3:decide (v0.wrap ((i:Int)+1)<(u.length:Int))=true:=h3;rw[wI O]at h3;simp only[Z2]at h3;omega
   conv=>whnf
   rw[wI (x:=(i:Int)+1) O];refine⟨⟨O,O⟩,fun(y:Int)hy=>?_⟩;have hy:u[i+1]? =some y:=by
    have hy:u[((i:Int)+1).toNat]? =some y:=hy;rw[show((i:Int)+1).toNat =i+1 by omega]at hy;exact hy
   have hyb:=hb3 y (qK hy);have hor:=zvw hxb hyb;conv=>whnf
   rw[wU (x:=x) O,wU (x:=y) O];refine⟨O,?_⟩;conv=>whnf
   refine⟨O,?_⟩;conv=>whnf
   rw[hrem];refine⟨O,?_⟩;conv=>whnf
   refine⟨by rw[hlen];simp;omega,?_⟩;conv=>whnf
   refine⟨i+1,O,by show u.length-(i+1)<u.length-i;omega,?_⟩
   ((conv=>whnf);refine q9 ?_ ?_;repeat' first|refine lc ?_ ?_|refine lh1 ?_ ?_|refine bc0 ?_|exact KXZ|refine lg0 ?_|refine lt0 ?_)
   .exact ai0 (by rw[wI O];omega)
   .exact bb0 (by
     rw[<-hstep];show A.take i++ [_]=_
     congr 2
     rw[zfy,hx,hy];show _=(x+y*4294967296)/2^(n % 32) % 4294967296;rw[<-hfin _ O,<-hor];rfl)
  .have h3:¬i+1<u.length:=by
    have h3:decide (v0.wrap ((i:Int)+1)<(u.length:Int))=false:=h3;rw[wI O]at h3;simp only[Z3]at h3;omega
   have hy:u[i+1]? =none:=qd O;conv=>whnf
   rw[wU (x:=x) O];refine⟨O,?_⟩;conv=>whnf
   rw[hrem];refine⟨O,?_⟩;conv=>whnf
   refine⟨by rw[hlen];simp;omega,?_⟩;conv=>whnf
   refine⟨i+1,O,by show u.length-(i+1)<u.length-i;omega,?_⟩
   ((conv=>whnf);refine q9 ?_ ?_;repeat' first|refine lc ?_ ?_|refine lh1 ?_ ?_|refine bc0 ?_|exact KXZ|refine lg0 ?_|refine lt0 ?_)
   .exact ai0 (by rw[wI O];omega)
   .exact bb0 (by
     rw[<-hstep];show A.take i++ [_]=_
     congr 2
     rw[zfy,hx,hy];show _=(x+0*4294967296)/2^(n % 32) % 4294967296;rw[Int.zero_mul,wV,<-hfin _ O];rfl)
 .have hi:i=u.length:=by simp only[Z3]at h2;omega
  subst hi;rw[q6 O];conv=>whnf
  refine gYn h326 ?_;exact⟨lr rfl,lh0⟩
theorem bitR{y r:Nat}(hy:y<4294967296)(hr:r<32):v3.wrap ((q3 v3.bits ((y:Int).fdiv (2^min ((r:Nat):Int).toNat v3.bits))&&& q3 v3.bits 1).toNat :Int)=((y/2^r % 2:Nat):Int):=by
 have e0:(y:Int).fdiv (2^min ((r:Nat):Int).toNat 32)=((y/2^r:Nat):Int):=by
  rw[q4,Nat.min_eq_left O,q5 _ (Int.le_of_lt (wE OA))];simp
 have hd:y/2^r<4294967296:=Nat.lt_of_le_of_lt (wB _ _) hy;have e1:(q3 32 ((y/2^r:Nat):Int)).toNat =y/2^r:=by rw[w0,w6];exact wi hd
 have e2:(q3 32 1).toNat =2^1-1:=OA;show v3.wrap ((q3 32 ((y:Int).fdiv (2^min ((r:Nat):Int).toNat 32))&&& q3 32 1).toNat :Int)=_;rw[e0,wm,e1,e2,qL,zsp O]
theorem zgc(x k:Nat)(hk:k<(toL x).length):(toL x)[k]? =some ((x/2^(32*k) % 4294967296:Nat):Int):=by
 have h1:=zex k (toL x) (zm x);rw[zk]at h1;have hb:LB ((toL x).drop k):=fun z hz=>zm x z (w1 hz)
 obtain⟨z,w,h2,h3,h4⟩:=zrn _ hb;rw[wF,qU]at h3;rw[h1]at h4;have h5:(toL x)[k]? =some (toL x)[k]:=q0 hk;rw[h5]at h3⊢;simp only[jD]at h3;rw[h3]
 congr 2
 omega
theorem qdg(x n:Nat):(x/2^(32*(n/32)) % 4294967296)/2^(n % 32) % 2=x/2^n % 2:=by
 have h1:(x/2^(32*(n/32)) % 2^32).testBit (n % 32)=x.testBit n:=by
  rw[Nat.testBit_mod_two_pow,Nat.testBit_div_two_pow];rw[(O:n % 32+32*(n/32)=n)];simp[wG]
 rw[qV,qV]at h1;have h2:=decide_eq_decide.1 h1;have e:(2:Nat)^32=4294967296:=OA;rw[e]at h2;omega
theorem qb9{x n:Nat}(hx:x≠0)(hn:n<=tz x):x/2^n % 2=0<->n<tz x:=by
 obtain⟨m,h1,h2⟩:=um hx;have e:x/2^n=2^(tz x-n)*m:=by
  have h3:x=2^n*(2^(tz x-n)*m):=by rw[<-qG,<-qQ,Nat.add_sub_cancel' hn];exact h1
  exact qB (q8 n) h3
 rw[e];constructor
 .intro h;by_cases h4:n<tz x
  .exact h4
  .rw[(O:tz x-n=0)]at h;simp at h;omega
 .intro h;obtain⟨d,hd⟩:∃d,tz x-n=d+1:=⟨tz x-n-1,O⟩;rw[hd,w4,qS (2^d),qG];omega
theorem zt4{x:Nat}(hx:x≠0):tz x/32<(toL x).length :=by
 obtain⟨m,h1,h2⟩:=um hx;have h3:2^tz x<=x:=by
  conv=>rhs;rw[h1]
  exact wn _ O
 have h4:¬(toL x).length <=tz x/32:=by
  rw[qf];intro h;have h5:2^(32*(tz x/32))<=2^tz x:=qO OA O;omega
 omega
theorem r327(x:Nat)(hx:x≠0)(hl:(toL x).length <=100000):Fn 200 [] [.sl .u32 (toL x)] (.int .i64 (tz x:Nat)) []:=by
 have htl:=zt4 hx;refine fY6 Tryz.func200 rfl ?_;refine⟨Nat,fun n=>n<=tz x,fun n=> [(3,.int .i64 n)],fun _=> [],fun n=>tz x-n,0,OC,?_,fun n hn=>?_⟩
 .exact KZ0
 have hn:n<=tz x:=hn;have hnl:n/32<(toL x).length :=O;have hq:v0.wrap ((n:Int).tdiv 32)=((n/32:Nat):Int):=by
  rw[show(n:Int).tdiv 32=((n/32:Nat):Int)from qT n 32,wI O]
 have h9:(n:Int).tmod 32=((n % 32:Nat):Int):=qP n 32;have hrem:wZ.wrap ((n:Int).tmod 32)=((n % 32:Nat):Int):=by rw[h9,wU O]
 have hat:=zgc x _ hnl;have hbt:=qdg x n;have htz:=qb9 hx hn;obtain⟨Y,hY⟩:∃Y,x/2^(32*(n/32)) % 4294967296=Y:=⟨_,rfl⟩;rw[hY]at hat hbt;have hYl:Y<4294967296:=O;have hbr:=bitR hYl (r:=n % 32) O;rw[hbt]at hbr;generalize toL x=t at*;refine⟨Z,?_⟩;conv=>whnf
 refine⟨O,?_⟩;conv=>whnf
 rw[hq];refine⟨⟨O,O⟩,fun(y:Int)hy=>?_⟩;have hy:t[n/32]? =some y:=by
  have hy:t[((n/32:Nat):Int).toNat]? =some y:=hy
  rwa [q4]at hy
 rw[hat]at hy;cases hy
 conv=>whnf
 refine⟨O,?_⟩;conv=>whnf
 rw[hrem];refine⟨O,?_⟩;conv=>whnf
 rw[hbr];refine brI (fun h=>?_) (fun h=>?_)
 .have h:x/2^n % 2=0:=by
   have h:(((x/2^n % 2:Nat):Int)==0)=true:=h;rw[beq_iff_eq]at h;omega
  have h:=htz.1 h;conv=>whnf
  refine⟨n+1,h,by show tz x-(n+1)<tz x-n;omega,?_⟩;exact KZ0
 .have h:¬x/2^n % 2=0:=by
   have h:(((x/2^n % 2:Nat):Int)==0)=false:=h;rw[beq_eq_false_iff_ne]at h;omega
  have hne:n=tz x:=by
   have:=mt htz.2 h;omega
  conv=>whnf
  exact⟨ai0 (by rw[hne]),lh0⟩
theorem zg6{l:List Int}(hb:LB l):(toL (val l)).length <=l.length:=(qf _ _).2 (zdz hb)
theorem qe7(neg:Bool){l:List Int}(hb:LB l)(hl:l.length<=100000)(e:Int)(he: -1000000000<=e/\e<=1000000000):Fn 124 [] [.bool neg,.sl .u32 l,.int .i64 e] (.agg (dyC (cnN neg (val l) e))) []:=by
 have h326:=qhw hb O;have hll:(toL (val l)).length <=100000:=qN (zg6 hb) hl;generalize val l=x at h326 hll⊢;by_cases hx:x=0
 .subst hx;refine fY6 Tryz.func124 rfl ?_;refine gYn h326 ?_;exact⟨lg0 (lc (lr rfl) (lc (li0 rfl) (lc (lr rfl) ln0))),lh0⟩
 have h327:=r327 x hx hll;have h328:=r328 x (tz x) hll (by have:=zt4 hx;omega);have htl:=zt4 hx;have hne:(toL x).length ≠0:=by rw[Ne,jf];exact hx
 have hc:cnN neg x e=⟨neg,toL (x/2^tz x),e+tz x⟩:=by unfold cnN;rw[Z5 hx]
 rw[hc];generalize toL (x/2^tz x)=R at*;generalize tz x=z at*;generalize toL x=t at*;refine fY6 Tryz.func124 rfl ?_;refine gYn h326 ?_;refine brI (fun h=>?_) (fun h=>?_)
 .have h:((t.length:Int)==0)=true:=h;rw[beq_iff_eq]at h;omega
 conv=>whnf
 refine gYn h327 ?_;refine gYn h328 ?_;exact⟨lg0 (lc (lr rfl) (lc (lr rfl) (lc (ai0 (by rw[wI O])) ln0))),lh0⟩
theorem zz6(B p vo c va vb x y:Nat)(h:vo+p*c=va+vb):vo+p*((c+x+y) % B)+p*B*((c+x+y)/B)=va+p*x+(vb+p*y):=by
 have h1:=w2 (c+x+y) B;have h2:p*((c+x+y) % B)+p*B*((c+x+y)/B)=p*(c+x+y):=by
  conv=>rhs;rw[<-h1]
  rw[qJ,qG];omega
 rw[qJ,qJ]at h2;omega
theorem zng(B p vo br va vb x y:Nat)(hB:0<B)(hy:br+y<=x+B)(h1:x<B)(hbr:br<=1)(h:va+p*br=vo+vb):
 va+p*x+p*B*(1-(x+B-(br+y))/B)=vo+p*((x+B-(br+y)) % B)+(vb+p*y):=by
 have e:=w2 (x+B-(br+y)) B;have hq:(x+B-(br+y))/B<=1:=by
  have:(x+B-(br+y))/B<2:=(wD hB).2 O;omega
 generalize (x+B-(br+y))/B=q at*;generalize hm:(x+B-(br+y)) % B=m at*;have k:p*x+p*B*(1-q)+p*br=p*m+p*y+(p*br+p*br):=by
  obtain rfl|rfl:q=0\/q=1:=O
  .have:x+B=m+y+br:=by simp at e;omega
   have:=congrArg (fun z=>p*z) this;simp only[qJ]at this;simp only[Nat.sub_zero,w9];omega
  .have:x=m+y+br:=by simp at e;omega
   have:=congrArg (fun z=>p*z) this;simp only[qJ]at this;simp only[Nat.sub_self,wJ];omega
 omega
theorem kb{l:List Int}{i:Nat}:val (l.take (i+1))=val (l.take i)+4294967296^i*(l[i]?.getD 0).toNat :=by
 by_cases h:i<l.length
 .exact jn l h
 .rw[q6 O,q6 O,qd O];simp
theorem LB.snoc{l:List Int}(h:LB l){x:Int}(hx:0<=x/\x<4294967296):LB (l++ [x]):=fun y hy=>by
 rcases List.mem_append.1 hy with hy|hy
 .exact h y hy
 .have:y=x:=by simpa using hy
  rw[this];exact hx
theorem zkx(l:List Int)(x:Int):val (l++ [x])=val l+4294967296^l.length*x.toNat:=by rw[zd7];simp[val]
structure PlI(a b:List Int)(i:Nat)(out:List Int)(c:Nat):Prop where
 len:out.length=i
 lb:LB out
 c1:c<=1
 val:val out+4294967296^i*c=val (a.take i)+val (b.take i)
theorem PlI.step{a b:List Int}{i:Nat}{out:List Int}{c:Nat}(h:PlI a b i out c){x y:Nat}(hx:(a[i]?.getD 0).toNat =x)(hy:(b[i]?.getD 0).toNat =y)(hxl:x<4294967296)(hyl:y<4294967296):
 PlI a b (i+1) (out++ [(((c+x+y) % 4294967296:Nat):Int)]) ((c+x+y)/4294967296):=by
 obtain⟨h1,h2,h3,h4⟩:=h;refine⟨by simp[h1],h2.snoc O,O,?_⟩;rw[zkx,kb,kb,hx,hy,h1,q4,w4];exact zz6 4294967296 (4294967296^i) _ c _ _ x y h4
theorem zog{a:List Int}(h:LB a)(i:Nat):(a[i]?.getD 0).toNat <4294967296:=by
 have:=h.at i;omega
theorem r297{a b:List Int}(ha:LB a)(hb:LB b)(hal:a.length<=100000)(hbl:b.length<=100000):Fn 195 [] [.sl .u32 a,.sl .u32 b] (.sl .u32 (toL (val a+val b))) []:=by
 refine fY6 Tryz.func195 rfl ?_;refine⟨Nat×List Int×Nat,fun x=>x.1<=max a.length b.length/\PlI a b x.1 x.2.1 x.2.2,fun x=> [(7,.int .i64 x.1),(5,.own 49),(6,.int .u64 x.2.2)],fun x=> [(49,.buf 108 .u32 x.2.1)],fun x=>max a.length b.length-x.1,(0,[],0),⟨OC,⟨rfl,(fun x hx=>by cases hx),OC,by simp[val]⟩⟩,?_,fun x hx=>?_⟩
 .exact KZ0
 obtain⟨i,out,c⟩:=x;obtain⟨hi,hp⟩:=hx;simp only at hi hp;have hol:=hp.len;have hc:=hp.c1;have hst:=hp.step rfl rfl (zog ha i) (zog hb i);have e2:∀s:Nat,((s:Nat):Int).fdiv 4294967296=((s/4294967296:Nat):Int):=fun s=>by rw[q5 _ OA];simp
 have e3:∀s:Nat,s<18446744073709551616->v3.wrap (wZ.wrap ((q3 wZ.bits (s:Int)&&& q3 wZ.bits 4294967295).toNat :Int))=((s % 4294967296:Nat):Int):=fun s hs=>by
  rw[zfr _ O];simp[v5,v4,v6]
 refine gYe ?_;refine brI (fun h1=>?_) (fun h1=>?_)
 .have h1:i<a.length:=by simp only[Z2]at h1;omega
  have hxa:a[i]? =some a[i]:=q0 h1;have hba:=ha _ (qn h1);generalize a[i]=xa at hxa hba;rw[hxa]at hst;simp only[jD]at hst;conv=>whnf
  refine brI (fun h2=>?_) (fun h2=>?_)
  rotate_left
  .have h2:=Z1 h2;omega
  conv=>whnf
  refine⟨⟨O,O⟩,fun(z:Int)hz=>?_⟩;have hz:a[i]? =some z:=by simpa using hz
  rw[hxa]at hz;cases hz
  conv=>whnf
  refine brI (fun h3=>?_) (fun h3=>?_)
  .have h3:i<b.length:=by simp only[Z2]at h3;omega
   have hxb:b[i]? =some b[i]:=q0 h3;have hbb:=hb _ (qn h3);generalize b[i]=xb at hxb hbb;rw[hxb]at hst;simp only[jD]at hst;have es:wZ.wrap (wZ.wrap ((c:Int)+wZ.wrap xa)+wZ.wrap xb)=((c+xa.toNat+xb.toNat:Nat):Int):=by
    rw[wU (x:=xa) O,wU (x:=xb) O,wU (x:=(c:Int)+xa) O,wU O];omega
   conv=>whnf
   refine⟨⟨O,O⟩,fun(z:Int)hz=>?_⟩;have hz:b[i]? =some z:=by simpa using hz
   rw[hxb]at hz;cases hz
   conv=>whnf
   refine⟨OE,?_⟩;conv=>whnf
   refine⟨OA,?_⟩;conv=>whnf
   refine⟨(i+1,out++ [(((c+xa.toNat+xb.toNat) % 4294967296:Nat):Int)],(c+xa.toNat+xb.toNat)/4294967296),⟨OD,hst⟩,by show max a.length b.length-(i+1)<max a.length b.length-i;omega,?_⟩
   ((conv=>whnf);refine q9 ?_ ?_;repeat' first|refine lc ?_ ?_|refine lh1 ?_ ?_|refine bc0 ?_|exact KXZ|refine lg0 ?_|refine lt0 ?_)
   .exact ai0 ((congrArg (fun z:Int=>z.fdiv 4294967296) es).trans (e2 _))
   .exact ai0 (by rw[wI OD];simp only;omega)
   .exact bb0 (by
     show out++ [_]=out++ [_];rw[<-e3 _ O,<-es])
  .have h3:¬i<b.length:=by simp only[Z3]at h3;omega
   have hxb:b[i]? =none:=qd O;rw[hxb]at hst;simp only[qY,qW,qU]at hst;have es:wZ.wrap ((c:Int)+wZ.wrap xa)=((c+xa.toNat:Nat):Int):=by
    rw[wU (x:=xa) O,wU O];omega
   conv=>whnf
   refine⟨OE,?_⟩;conv=>whnf
   refine⟨OA,?_⟩;conv=>whnf
   refine⟨(i+1,out++ [(((c+xa.toNat) % 4294967296:Nat):Int)],(c+xa.toNat)/4294967296),⟨OD,hst⟩,by show max a.length b.length-(i+1)<max a.length b.length-i;omega,?_⟩
   ((conv=>whnf);refine q9 ?_ ?_;repeat' first|refine lc ?_ ?_|refine lh1 ?_ ?_|refine bc0 ?_|exact KXZ|refine lg0 ?_|refine lt0 ?_)
   .exact ai0 ((congrArg (fun z:Int=>z.fdiv 4294967296) es).trans (e2 _))
   .exact ai0 (by rw[wI OD];simp only;omega)
   .exact bb0 (by
     show out++ [_]=out++ [_];rw[<-e3 _ O,<-es])
 .have h1:¬i<a.length:=by simp only[Z3]at h1;omega
  have hxa:a[i]? =none:=qd O;rw[hxa]at hst;simp only[qY,qW,qU]at hst;conv=>whnf
  refine brI (fun h3=>?_) (fun h3=>?_)
  .have h3:i<b.length:=by simp only[Z2]at h3;omega
   have hxb:b[i]? =some b[i]:=q0 h3;have hbb:=hb _ (qn h3);generalize b[i]=xb at hxb hbb;rw[hxb]at hst;simp only[jD]at hst;have es:wZ.wrap ((c:Int)+wZ.wrap xb)=((c+xb.toNat:Nat):Int):=by
    rw[wU (x:=xb) O,wU O];omega
   conv=>whnf
   refine brI (fun h2=>?_) (fun h2=>?_)
   .have h2:=Z0 h2;omega
   conv=>whnf
   refine brI (fun h2=>?_) (fun h2=>?_)
   rotate_left
   .have h2:=Z1 h2;omega
   conv=>whnf
   refine⟨⟨O,O⟩,fun(z:Int)hz=>?_⟩;have hz:b[i]? =some z:=by simpa using hz
   rw[hxb]at hz;cases hz
   conv=>whnf
   refine⟨OE,?_⟩;conv=>whnf
   refine⟨OA,?_⟩;conv=>whnf
   refine⟨(i+1,out++ [(((c+xb.toNat) % 4294967296:Nat):Int)],(c+xb.toNat)/4294967296),⟨OD,hst⟩,by show max a.length b.length-(i+1)<max a.length b.length-i;omega,?_⟩
   ((conv=>whnf);refine q9 ?_ ?_;repeat' first|refine lc ?_ ?_|refine lh1 ?_ ?_|refine bc0 ?_|exact KXZ|refine lg0 ?_|refine lt0 ?_)
   .exact ai0 ((congrArg (fun z:Int=>z.fdiv 4294967296) es).trans (e2 _))
   .exact ai0 (by rw[wI OD];simp only;omega)
   .exact bb0 (by
     show out++ [_]=out++ [_];rw[<-e3 _ O,<-es])
  .have h3:¬i<b.length:=by simp only[Z3]at h3;omega
   have hv:=hp.val;rw[q6 O,q6 O]at hv;have hv:val (out++ [(c:Int)])=val a+val b:=by rw[zkx,hol,q4];exact hv
   have h326:=qhw (hp.lb.snoc (x:=(c:Int)) O) OE;rw[hv]at h326;have ec:v3.wrap (c:Int)=c:=zsp O;conv=>whnf
   refine⟨OE,?_⟩;conv=>whnf
   rw[ec];refine gYn h326 ?_;exact⟨lr rfl,lh0⟩
structure MiI(a b:List Int)(i:Nat)(out:List Int)(c:Nat):Prop where
 len:out.length=i
 lb:LB out
 c1:c<=1
 sum:val (a.take i)+4294967296^i*c=val out+val (b.take i)
theorem MiI.step{a b:List Int}{i:Nat}{out:List Int}{c:Nat}(h:MiI a b i out c){x y:Nat}(hx:(a[i]?.getD 0).toNat =x)(hy:(b[i]?.getD 0).toNat =y)(hxl:x<4294967296)(hyl:y<4294967296):
 MiI a b (i+1) (out++ [(((x+4294967296-(c+y)) % 4294967296:Nat):Int)]) (1-(x+4294967296-(c+y))/4294967296):=by
 obtain⟨h1,h2,h3,h4⟩:=h;refine⟨by simp[h1],h2.snoc O,O,?_⟩;rw[zkx,kb,kb,hx,hy,h1,q4,w4];exact zng 4294967296 (4294967296^i) _ c _ _ x y OA O hxl h3 h4
theorem MiI.fin{a b:List Int}{out:List Int}{c:Nat}(h:MiI a b a.length out c)(hl:b.length<=a.length)(hv:val b<=val a):val out=val a-val b:=by
 obtain⟨h1,h2,h3,h4⟩:=h;rw[qR,q6 hl]at h4;have h5:=ud h2 a.length O;rw[q6 O]at h5;obtain rfl|rfl:c=0\/c=1:=O
 .simp at h4;omega
 .rw[w9]at h4;omega
theorem r298{a b:List Int}(ha:LB a)(hb:LB b)(hal:a.length<=100000)(hl:b.length<=a.length)(hv:val b<=val a):Fn 197 [] [.sl .u32 a,.sl .u32 b] (.sl .u32 (toL (val a-val b))) []:=by
 refine fY6 Tryz.func197 rfl ?_;refine⟨Nat×List Int×Nat,fun x=>x.1<=a.length/\MiI a b x.1 x.2.1 x.2.2,fun x=> [(7,.int .i64 x.1),(5,.own 41),(6,.int .u64 x.2.2)],fun x=> [(41,.buf 108 .u32 x.2.1)],fun x=>a.length-x.1,(0,[],0),⟨OC,⟨rfl,(fun x hx=>by cases hx),OC,by simp[val]⟩⟩,?_,fun x hx=>?_⟩
 .exact KZ0
 obtain⟨i,out,c⟩:=x;obtain⟨hi,hp⟩:=hx;simp only at hi hp;have hol:=hp.len;have hc:=hp.c1;have hst:=hp.step rfl rfl (zog ha i) (zog hb i);have e2:∀s:Nat,((s:Nat):Int).fdiv 4294967296=((s/4294967296:Nat):Int):=fun s=>by rw[q5 _ OA];simp
 have e3:∀s:Nat,s<18446744073709551616->v3.wrap (wZ.wrap ((q3 wZ.bits (s:Int)&&& q3 wZ.bits 4294967295).toNat :Int))=((s % 4294967296:Nat):Int):=fun s hs=>by
  rw[zfr _ O];simp[v5,v4,v6]
 have e4:∀s:Nat,s<8589934592->wZ.wrap (1-((s:Nat):Int).fdiv 4294967296)=((1-s/4294967296:Nat):Int):=fun s hs=>by
  rw[e2,wU O];omega
 refine gYe ?_;refine brI (fun h1=>?_) (fun h1=>?_)
 .have h1:i<a.length:=by simp only[Z2]at h1;omega
  have hxa:a[i]? =some a[i]:=q0 h1;have hba:=ha _ (qn h1);generalize a[i]=xa at hxa hba;rw[hxa]at hst;simp only[jD]at hst;conv=>whnf
  refine brI (fun h3=>?_) (fun h3=>?_)
  .have h3:i<b.length:=by simp only[Z2]at h3;omega
   have hxb:b[i]? =some b[i]:=q0 h3;have hbb:=hb _ (qn h3);generalize b[i]=xb at hxb hbb;rw[hxb]at hst;simp only[jD]at hst;have es:wZ.wrap (wZ.wrap (wZ.wrap xa+4294967296)-wZ.wrap ((c:Int)+wZ.wrap xb))=((xa.toNat+4294967296-(c+xb.toNat):Nat):Int):=by
    rw[wU (x:=xa) O,wU (x:=xb) O,wU (x:=(c:Int)+xb) O,wU (x:=xa+4294967296) O,wU O];omega
   conv=>whnf
   refine⟨⟨O,O⟩,fun(z:Int)hz=>?_⟩;have hz:b[i]? =some z:=by simpa using hz
   rw[hxb]at hz;cases hz
   conv=>whnf
   refine⟨⟨O,O⟩,fun(z:Int)hz=>?_⟩;have hz:a[i]? =some z:=by simpa using hz
   rw[hxa]at hz;cases hz
   conv=>whnf
   refine⟨OE,?_⟩;conv=>whnf
   refine⟨OA,?_⟩;conv=>whnf
   refine⟨(i+1,out++ [(((xa.toNat+4294967296-(c+xb.toNat)) % 4294967296:Nat):Int)],1-(xa.toNat+4294967296-(c+xb.toNat))/4294967296),⟨OD,hst⟩,by show a.length-(i+1)<a.length-i;omega,?_⟩
   ((conv=>whnf);refine q9 ?_ ?_;repeat' first|refine lc ?_ ?_|refine lh1 ?_ ?_|refine bc0 ?_|exact KXZ|refine lg0 ?_|refine lt0 ?_)
   .exact ai0 ((congrArg (fun z:Int=>wZ.wrap (1-z.fdiv 4294967296)) es).trans (e4 _ O))
   .exact ai0 (by rw[wI OD];simp only;omega)
   .exact bb0 (by
     show out++ [_]=out++ [_];rw[<-e3 _ O,<-es])
  .have h3:¬i<b.length:=by simp only[Z3]at h3;omega
   have hxb:b[i]? =none:=qd O;rw[hxb]at hst;simp only[qY,qW,qU]at hst;have es:wZ.wrap (wZ.wrap (wZ.wrap xa+4294967296)-(c:Int))=((xa.toNat+4294967296-c:Nat):Int):=by
    rw[wU (x:=xa) O,wU (x:=xa+4294967296) O,wU O];omega
   conv=>whnf
   refine⟨⟨O,O⟩,fun(z:Int)hz=>?_⟩;have hz:a[i]? =some z:=by simpa using hz
   rw[hxa]at hz;cases hz
   conv=>whnf
   refine⟨OE,?_⟩;conv=>whnf
   refine⟨OA,?_⟩;conv=>whnf
   refine⟨(i+1,out++ [(((xa.toNat+4294967296-c) % 4294967296:Nat):Int)],1-(xa.toNat+4294967296-c)/4294967296),⟨OD,hst⟩,by show a.length-(i+1)<a.length-i;omega,?_⟩
   ((conv=>whnf);refine q9 ?_ ?_;repeat' first|refine lc ?_ ?_|refine lh1 ?_ ?_|refine bc0 ?_|exact KXZ|refine lg0 ?_|refine lt0 ?_)
   .exact ai0 ((congrArg (fun z:Int=>wZ.wrap (1-z.fdiv 4294967296)) es).trans (e4 _ O))
   .exact ai0 (by rw[wI OD];simp only;omega)
   .exact bb0 (by
     show out++ [_]=out++ [_];rw[<-e3 _ O,<-es])
 .have h1:i=a.length:=by simp only[Z3]at h1;omega
  subst h1;have hf:=hp.fin hl hv;have h326:=qhw hp.lb O;rw[hf]at h326;conv=>whnf
  refine gYn h326 ?_;exact⟨lr rfl,lh0⟩
theorem zmw{l:List Int}{i:Nat}(hi:i<l.length)(h:l[i]?.getD 0=0):l.set i 0=l:=by
 apply List.ext_getElem?;intro j;by_cases e:i=j
 .subst e;rw[wt hi,q0 hi];rw[q0 hi]at h;simp only[jD]at h;rw[h]
 .rw[qD e]
theorem znf(x:Int):∀(b:List Int)(p:Nat)(out:List Int)(c:Int)(j:Nat),p+b.length<=j->(zgy x b p out c).1[j]? =out[j]?
 | [],_,_,_,_,_=>rfl
 |y::b,p,out,c,j,h=>by
  rw[qX]at h;rw[zgy,znf x b _ _ _ j O,qD O]
theorem r330(x y:Nat)(hal:(toL x).length <=100000)(hbl:(toL y).length <=100000):Fn 198 [] [.sl .u32 (toL x),.sl .u32 (toL y)] (.sl .u32 (toL (x*y))) []:=by
 have ha:=zm x;have hb:=zm y;have hsp:=zfc (toL y) hb (toL x) 0 (qA ((toL x).length +(toL y).length +1) 0) ha (fun z hz=>by have:=qH hz;omega) OC (fun j _=>by
  rw[qE];split<;>rfl)
 rw[za1,zk,zk]at hsp;have hml:=zg9 (toL y) (toL x) 0 (qA ((toL x).length +(toL y).length +1) 0);generalize toL x=a at*;generalize toL y=b at*;obtain⟨A,hA⟩:∃A,zlu b a 0 (qA (a.length+b.length+1) 0)=A:=⟨_,rfl⟩;rw[hA]at hsp hml;have hAv:val A=x*y:=by have:=hsp.1;simpa using this
 have h326:=qhw hsp.2 (by rw[hml];simp;omega);rw[hAv]at h326;clear hsp hAv hml;generalize toL (x*y)=R at h326⊢;refine fY6 Tryz.func198 rfl ?_;rw[wI (x:=(a.length:Int)+(b.length:Int)) O,wI (x:=(a.length:Int)+(b.length:Int)+1) O];refine⟨⟨O,O,O⟩,?_⟩;conv=>whnf
 refine⟨Nat×List Int,fun x=>x.1<=a.length/\LB x.2/\x.2.length=a.length+b.length+1/\zlu b (a.drop x.1) x.1 x.2=A/\(∀j,x.1+b.length<=j->x.2[j]?.getD 0=0),fun x=> [(6,.int .i64 x.1)],fun x=> [(18,.buf 108 .u32 x.2)],fun x=>a.length-x.1,(0,qA (a.length+b.length+1) 0),⟨OC,(fun x hx=>by rw[qH hx];omega),OC,by simpa using hA,fun j _=>by
  rw[qE];split<;>rfl⟩,?_,fun x hx=>?_⟩
 .exact KZ0
 refine gYe ?_;obtain⟨i,out⟩:=x;obtain⟨hi1,hi2,hi3,hi4,hi5⟩:=hx;simp only at hi1 hi2 hi3 hi4 hi5;refine brI (fun h1=>?_) (fun h1=>?_)
 .have hi:i<a.length:=by simp only[Z2]at h1;omega
  have hxa:a[i]? =some a[i]:=q0 hi;have hxb:=ha _ (qn hi);generalize a[i]=x at hxa hxb;rw[qe hxa]at hi4;simp only[zlu]at hi4;conv=>whnf
  refine⟨Nat×List Int×Int,fun z=>z.1<=b.length/\LB z.2.1/\z.2.1.length=a.length+b.length+1/\(0<=z.2.2/\z.2.2<4294967296)/\zgy x (b.drop z.1) (i+z.1) z.2.1 z.2.2=zgy x b i out 0,fun z=> [(8,.int .i64 z.1),(7,.int .u64 z.2.2)],fun z=> [(18,.buf 108 .u32 z.2.1)],fun z=>b.length-z.1,(0,out,0),⟨OC,hi2,hi3,OC,OC⟩,?_,fun z hz=>?_⟩
  .exact KZ0
  refine gYe ?_;obtain⟨k,o2,c⟩:=z;obtain⟨hk1,hk2,hk3,hk4,hk5⟩:=hz;simp only at hk1 hk2 hk3 hk4 hk5;refine brI (fun h2=>?_) (fun h2=>?_)
  .have hk:k<b.length:=by simp only[Z2]at h2;omega
   conv=>whnf
   refine⟨⟨O,OD⟩,fun(z:Int)hz=>?_⟩;have hz:a[i]? =some z:=by simpa using hz
   rw[hxa]at hz;cases hz
   conv=>whnf
   refine⟨⟨O,OD⟩,fun(y:Int)hy=>?_⟩;have hy:b[k]? =some y:=by simpa using hy
   have hyb:=hb y (qK hy);rw[qe hy]at hk5;simp only[zgy]at hk5;have hob:=hk2.at (i+k);have hbd:=zwc hxb hyb hob hk4;have hik:v0.wrap ((i:Int)+(k:Int))=((i+k:Nat):Int):=by rw[wI O];omega
   conv=>whnf
   refine⟨⟨by show 0<=v0.wrap ((i:Int)+(k:Int));rw[hik];omega,by show v0.wrap ((i:Int)+(k:Int))<(o2.length:Int);rw[hik];omega⟩,?_⟩;conv=>whnf
   refine⟨by show(v0.wrap ((i:Int)+(k:Int))).toNat <o2.length;rw[hik];omega,fun(o:Int)ho=>?_⟩;have ho:o2[i+k]? =some o:=by
    have ho:o2[(v0.wrap ((i:Int)+(k:Int))).toNat]? =some o:=ho;rw[hik,show(((i+k:Nat):Int)).toNat =i+k by omega]at ho;exact ho
   rw[ho]at hob hbd hk5;simp only[jD]at hob hbd hk5;have hsum:wZ.wrap (wZ.wrap (wZ.wrap (wZ.wrap x*wZ.wrap y)+wZ.wrap o)+c)=x*y+o+c:=by
    rw[wU (x:=x) O,wU (x:=y) O,wU (x:=o) O,wU (x:=x*y) O,wU (x:=x*y+o) O,wU O]
   obtain⟨s,hs⟩:∃s,x*y+o+c=s:=⟨_,rfl⟩;rw[hs]at hbd hk5 hsum;conv=>whnf
   refine gYd ?_;refine⟨⟨by show 0<=v0.wrap ((i:Int)+(k:Int));rw[hik];omega,by show v0.wrap ((i:Int)+(k:Int))<(o2.length:Int);rw[hik];omega⟩,?_⟩;conv=>whnf
   refine⟨by show(v0.wrap ((i:Int)+(k:Int))).toNat <o2.length;rw[hik];omega,?_⟩;conv=>whnf
   refine⟨O,?_⟩;conv=>whnf
   have e1:v3.wrap (s % 4294967296)=s % 4294967296:=by simp[v5,v4,v6]
   have e2:s.fdiv 4294967296=s/4294967296:=q5 _ OA;have e3:=zfr s O;refine⟨(k+1,o2.set (i+k) (s % 4294967296),s/4294967296),⟨OD,hk2.set O,by simp only[qI];exact hk3,⟨OD,OD⟩,hk5⟩,by show b.length-(k+1)<b.length-k;omega,?_⟩
   ((conv=>whnf);refine q9 ?_ ?_;repeat' first|refine lc ?_ ?_|refine lh1 ?_ ?_|refine bc0 ?_|exact KXZ|refine lg0 ?_|refine lt0 ?_)
   .exact ai0 ((congrArg (fun z:Int=>z.fdiv 4294967296) hsum).trans e2)
   .exact ai0 (by rw[wI OD];simp only;omega)
   .exact bb0 (by
     show w7 o2 (v0.wrap ((i:Int)+(k:Int))).toNat (v3.wrap _)=o2.set (i+k) (s % 4294967296);rw[hik,show(((i+k:Nat):Int)).toNat =i+k by omega,<-e1,<-e3,<-hsum])
  .have hk:k=b.length:=by simp only[Z3]at h2;omega
   subst hk;rw[qF O]at hk5;simp only[zgy]at hk5;have hkp:∀j,i+b.length<=j->o2[j]?.getD 0=0:=fun j hj=>by
    have:=znf x b i out 0 j hj;rw[<-hk5]at this;simp only at this;rw[this];exact hi5 j hj
   rw[<-hk5]at hi4;simp only at hi4;have hik:v0.wrap ((i:Int)+(b.length:Int))=((i+b.length:Nat):Int):=by rw[wI O];omega
   have hnx:∀j,i+1+b.length<=j->(o2.set (i+b.length) c)[j]?.getD 0=0:=fun j hj=>by
    rw[qD O];exact hkp j O
   conv=>whnf
   rw[hik];refine⟨Bool,fun _=>True,fun z=> [(10,.int .i64 (bif z then((i+b.length:Nat):Int)+1 else((i+b.length:Nat):Int))),(7,.int .u64 (bif z then 0 else c))],fun z=> [(18,.buf 108 .u32 (bif z then o2.set (i+b.length) c else o2))],fun z=>bif z then 0 else 1,false,trivial,?_,fun z _=>?_⟩
   .exact KZ0
   cases z with
   |true=>
    refine gYe ?_;refine⟨(i+1,o2.set (i+b.length) c),⟨OD,hk2.set hk4,by simp only[qI];exact hk3,hi4,hnx⟩,by show a.length-(i+1)<a.length-i;omega,?_⟩;exact KZ0
   |false=>
    refine gYe ?_;refine brI (fun h3=>?_) (fun h3=>?_)
    .have h3:0<c:=by
      have h3:=Z0 h3;exact h3
     have hz:=hkp (i+b.length) (qC _);have ho:o2[i+b.length]? =some 0:=by
      rw[q0 O]at hz⊢;simpa using hz
     conv=>whnf
     refine⟨⟨by show(0:Int)<=((i+b.length:Nat):Int);omega,by show((i+b.length:Nat):Int)<(o2.length:Int);omega⟩,?_⟩;conv=>whnf
     refine⟨by show(((i+b.length:Nat):Int)).toNat <o2.length;omega,fun(o:Int)ho2=>?_⟩;have ho2:o2[i+b.length]? =some o:=by
      have ho2:o2[(((i+b.length:Nat):Int)).toNat]? =some o:=ho2
      rwa [q4]at ho2
     rw[ho]at ho2;cases ho2
     have hsum:wZ.wrap (wZ.wrap 0+c)=c:=by rw[wU (x:=0) O,wU O];omega
     have e1:v3.wrap (c % 4294967296)=c:=by simp[v5,v4,v6];omega
     have e3:=zfr c O;conv=>whnf
     refine⟨⟨by show(0:Int)<=((i+b.length:Nat):Int);omega,by show((i+b.length:Nat):Int)<(o2.length:Int);omega⟩,?_⟩;conv=>whnf
     refine⟨by show(((i+b.length:Nat):Int)).toNat <o2.length;omega,?_⟩;conv=>whnf
     refine⟨OA,?_⟩;conv=>whnf
     refine⟨true,trivial,OA,?_⟩
     ((conv=>whnf);refine q9 ?_ ?_;repeat' first|refine lc ?_ ?_|refine lh1 ?_ ?_|refine bc0 ?_|exact KXZ|refine lg0 ?_|refine lt0 ?_)
     .exact ai0 (by
       show(wZ.wrap (wZ.wrap 0+c)).fdiv 4294967296=0;rw[hsum,q5 _ OA];omega)
     .exact ai0 (by show v0.wrap (((i+b.length:Nat):Int)+1)=_;rw[wI O];rfl)
     .exact bb0 (by
       show w7 o2 (((i+b.length:Nat):Int)).toNat (v3.wrap (wZ.wrap ((q3 wZ.bits (wZ.wrap (wZ.wrap 0+c))&&& q3 wZ.bits 4294967295).toNat :Int)))=o2.set (i+b.length) c;rw[hsum,e3,e1,q4])
    .have h3:c=0:=by
      have h3:¬(c>0):=Z1 h3;omega
     subst h3;have hss:=zmw O (hkp (i+b.length) (qC _));rw[hss]at hi4 hnx;conv=>whnf
     refine⟨(i+1,o2),⟨OD,hk2,hk3,hi4,hnx⟩,by show a.length-(i+1)<a.length-i;omega,?_⟩;exact KZ0
 .have hi:i=a.length:=by simp only[Z3]at h1;omega
  subst hi;rw[qF O]at hi4;simp only[zlu]at hi4;subst hi4;conv=>whnf
  refine gYn h326 ?_;exact⟨lr rfl,lh0⟩
theorem zz4{d:Dy}(h:VD d):Fn 122 [] [.agg (dyC d)] (.agg (dyC (jm d))) []:=by
 refine VD.cases (P:=fun d=>Fn 122 [] [.agg (dyC d)] (.agg (dyC (jm d))) []) h ?_ (fun s n e hd hn _ _ _ _=>?_)
 .refine fY6 Tryz.func122 rfl ?_;exact⟨lr rfl,lh0⟩
 .have hne:jm ⟨s,toL n,e⟩=⟨!s,toL n,e⟩:=by unfold jm;rw[Z5 (by rw[xu];omega)]
  have hl:=zhu hn;rw[hne];have hl2:decide (((toL n).length :Int)>0)=true:=by
   rw[beq_eq_false_iff_ne]at hl;exact Z6 O
  generalize toL n=t at*;cases s
  .refine fY6 Tryz.func122 rfl ?_;exact⟨lg0 (lc (ab0 hl2) (lc (lr rfl) (lc (lr rfl) ln0))),lh0⟩
  .refine fY6 Tryz.func122 rfl ?_;exact⟨lr rfl,lh0⟩
theorem r252{d:Dy}(h:VD d):Fn 120 [] [.agg (dyC d)] (.int .i64 (zn d)) []:=by
 refine VD.cases (P:=fun d=>Fn 120 [] [.agg (dyC d)] (.int .i64 (zn d)) []) h ?_ (fun s n e hd hn hb h1 h2 h3=>?_)
 .refine fY6 Tryz.func120 rfl ?_;exact⟨lr rfl,lh0⟩
 .have ht:zn ⟨s,toL n,e⟩=bl n+e:=by unfold zn;rw[Z5 (by rw[xu];omega),xu]
  have hl:=zhu hn;have h250:=r250 n (by have:=(zx n 128).2 O;omega);clear hd;rw[ht];clear ht;generalize toL n=t at*;show Fn 120 [] [.agg [.bool s,.sl .u32 t,.int .i64 e]] _ [];refine fY6 Tryz.func120 rfl ?_;rw[hl];conv=>whnf
  refine gYn h250 ?_;refine gYd ?_;exact⟨ai0 (by rw[wI O]),lh0⟩
def zd8(a b:Dy):Dy:=
 if nm a=0 then b else if nm b=0 then a else
 if a.neg=b.neg then cnN a.neg (nm a*2^(a.e-min a.e b.e).toNat +nm b*2^(b.e-min a.e b.e).toNat) (min a.e b.e)
 else if nm b*2^(b.e-min a.e b.e).toNat <=nm a*2^(a.e-min a.e b.e).toNat then cnN a.neg (nm a*2^(a.e-min a.e b.e).toNat -nm b*2^(b.e-min a.e b.e).toNat) (min a.e b.e)
 else cnN b.neg (nm b*2^(b.e-min a.e b.e).toNat -nm a*2^(a.e-min a.e b.e).toNat) (min a.e b.e)
theorem zr9{x y k:Nat}(h1:bl x<=k)(h2:bl y<=k):bl (x+y)<=k+1:=by
 have c1:=wv.1 h1;have c2:=wv.1 h2;exact wv.2 (by rw[w4];omega)
theorem kf{x y k:Nat}(h:x<=y)(hy:(toL y).length <=k):(toL x).length <=k:=by
 rw[qf]at hy⊢;omega
theorem r253{a b:Dy}(ha:VD a)(hb:VD b):Fn 121 [] [.agg (dyC a),.agg (dyC b)] (.agg (dyC (zd8 a b))) []:=by
 refine VD.cases (P:=fun a=>Fn 121 [] [.agg (dyC a),.agg (dyC b)] (.agg (dyC (zd8 a b))) []) ha ?_ (fun s x e _ hx hxb h1 h2 h3=>?_)
 .rw[show zd8 d0 b=b by unfold zd8;rw[Z4 zv5]];obtain⟨t,m,f⟩:=b;refine fY6 Tryz.func121 rfl ?_;exact⟨lr rfl,lh0⟩
 refine VD.cases (P:=fun b=>Fn 121 [] [.agg (dyC ⟨s,toL x,e⟩),.agg (dyC b)] (.agg (dyC (zd8 ⟨s,toL x,e⟩ b))) []) hb ?_ (fun t y f _ hy hyb g1 g2 g3=>?_)
 .rw[show zd8 ⟨s,toL x,e⟩ d0=⟨s,toL x,e⟩ by unfold zd8;rw[Z5 (by rw[xu];omega),Z4 zv5]];have hl:=zhu hx;generalize toL x=m at*;refine fY6 Tryz.func121 rfl ?_;rw[hl];conv=>whnf
  exact⟨lr rfl,lh0⟩
 have es:zd8 ⟨s,toL x,e⟩ ⟨t,toL y,f⟩=if s=t then cnN s (x*2^(e-min e f).toNat +y*2^(f-min e f).toNat) (min e f)
  else if y*2^(f-min e f).toNat <=x*2^(e-min e f).toNat then cnN s (x*2^(e-min e f).toNat -y*2^(f-min e f).toNat) (min e f)
  else cnN t (y*2^(f-min e f).toNat -x*2^(e-min e f).toNat) (min e f):=by
  unfold zd8;rw[Z5 (by rw[xu];omega),Z5 (by rw[xu];omega),xu,xu]
 rw[es];have hlx:=zhu hx;have hly:=zhu hy;have hmin:(if f<e then f else e)=min e f:=by split<;>omega
 have k1:v0.wrap (e-min e f)=((e-min e f).toNat :Int):=by rw[wI O];omega
 have k2:v0.wrap (f-min e f)=((f-min e f).toNat :Int):=by rw[wI O];omega
 have hK1:(e-min e f).toNat <=32768:=O;have hK2:(f-min e f).toNat <=32768:=O;have q1:=r295 x (e-min e f).toNat (by have:=(zx x 128).2 O;omega) O;have q2:=r295 y (f-min e f).toNat (by have:=(zx y 128).2 O;omega) O;have b1:(toL (x*2^(e-min e f).toNat)).length <=2000:=by rw[zx,zq _ _ O];omega
 have b2:(toL (y*2^(f-min e f).toNat)).length <=2000:=by rw[zx,zq _ _ O];omega
 have hm: -16384<=min e f/\min e f<=16384:=O;generalize (e-min e f).toNat =K1 at*;generalize (f-min e f).toNat =K2 at*;generalize x*2^K1=X at*;generalize y*2^K2=Y at*;have r168':=r168 X Y O O;have p1:=r297 (zm X) (zm Y) O O;rw[zk,zk]at p1;have o1:=qe7 s (zm (X+Y)) (by
  have:(toL (X+Y)).length <=2001:=by
   rw[zx]at b1 b2⊢;have:=zr9 b1 b2;omega
  omega) (min e f) O
 rw[zk]at o1;have o2:=fun(h:Y<=X)=>qe7 s (zm (X-Y)) (kf (O:X-Y<=X) (qN b1 O)) (min e f) O
 have o3:=fun(h:X<=Y)=>qe7 t (zm (Y-X)) (kf (O:Y-X<=Y) (qN b2 O)) (min e f) O
 have m1:=fun(h:Y<=X)=>r298 (zm X) (zm Y) O (kf h (qC _)) (by rw[zk,zk];exact h)
 have m2:=fun(h:X<=Y)=>r298 (zm Y) (zm X) O (kf h (qC _)) (by rw[zk,zk];exact h)
 simp only[zk]at o2 o3 m1 m2;generalize toL (X+Y)=XP at*;generalize toL (X-Y)=XM at*;generalize toL (Y-X)=YM at*;generalize toL X=LX at*;generalize toL Y=LY at*;generalize toL x=lx at*;generalize toL y=ly at*;by_cases hst:s=t
 .subst hst;rw[Z4 rfl];generalize cnN s (X+Y) (min e f)=R at*;have hbb:(s==s)=true:=OC;show Fn 121 [] [.agg [.bool s,.sl .u32 lx,.int .i64 e],.agg [.bool s,.sl .u32 ly,.int .i64 f]] _ [];refine fY6 Tryz.func121 rfl ?_;rw[hlx];conv=>whnf
  rw[hly];conv=>whnf
  rw[hmin,k1];refine gYn q1 ?_;rw[k2];refine gYn q2 ?_;refine gYd ?_;refine brI (fun h=>?_) (fun h=>?_)
  .conv=>whnf
   refine gYn p1 ?_;refine gYn o1 ?_;refine gYd ?_;exact⟨lr rfl,lh0⟩
  .have h:(s==s)=false:=h;rw[hbb]at h;cases h
 .rw[Z5 hst];have hor:(0<=uf X Y)<->Y<=X:=by
   unfold uf;split
   .constructor
    .intro h;omega
    .intro h;omega
   .split
    .constructor
     .intro h;omega
     .intro h;omega
    .constructor
     .intro h;omega
     .intro h;omega
  have hres:∀Q:Dy,(Y<=X->Q=cnN s (X-Y) (min e f))->(¬Y<=X->Q=cnN t (Y-X) (min e f))->Fn 121 [] [.agg [.bool s,.sl .u32 lx,.int .i64 e],.agg [.bool t,.sl .u32 ly,.int .i64 f]] (.agg (dyC Q)) []:=fun Q hQ1 hQ2=>by
   generalize uf X Y=Oq at*;generalize cnN s (X-Y) (min e f)=R1 at*;generalize cnN t (Y-X) (min e f)=R2 at*;refine fY6 Tryz.func121 rfl ?_;rw[hlx];conv=>whnf
   rw[hly];conv=>whnf
   rw[hmin,k1];refine gYn q1 ?_;rw[k2];refine gYn q2 ?_;refine gYd ?_;refine brI (fun h=>?_) (fun h=>?_)
   .have h:(s==t)=true:=h;exact absurd (by simpa using h) hst
   conv=>whnf
   refine gYn r168' ?_;refine brI (fun h=>?_) (fun h=>?_)
   .have h:0<=Oq:=Z0 h;have h:=hor.1 h;rw[hQ1 h];conv=>whnf
    refine gYn (m1 h) ?_;refine gYn (o2 h) ?_;refine gYd ?_;exact⟨lr rfl,lh0⟩
   .have h:¬0<=Oq:=Z1 h;have h:=fun c=>h (hor.2 c)
    rw[hQ2 h];conv=>whnf
    refine gYn (m2 O) ?_;refine gYn (o3 O) ?_;refine gYd ?_;exact⟨lr rfl,lh0⟩
  exact hres _ (fun h=>by rw[Z4 h]) (fun h=>by rw[Z5 h])
theorem r301{a b:Dy}(ha:VD a)(hb:VD b):Fn 123 [] [.agg (dyC a),.agg (dyC b)] (.agg (dyC (cnN (a.neg != b.neg) (nm a*nm b) (a.e+b.e)))) []:=by
 have ea:=ha.exp;have eb:=hb.exp;have h1:(toL (nm a)).length <=128:=(zx _ _).2 ha.bits;have h2:(toL (nm b)).length <=128:=(zx _ _).2 hb.bits;have h330:=r330 (nm a) (nm b) O O;have h3:(toL (nm a*nm b)).length <=300:=by
  rw[zx];have:=xi (nm a) (nm b);have:=ha.bits;have:=hb.bits;omega
 have hA:toL (nm a)=a.m:=ha.eq.symm;have hB:toL (nm b)=b.m:=hb.eq.symm;rw[hA,hB]at h330;have ho:=qe7 (a.neg != b.neg) (zm (nm a*nm b)) O (a.e+b.e) O;rw[zk]at ho;generalize nm a*nm b=N at*;generalize toL N=M at*;obtain⟨s,x,e⟩:=a;obtain⟨t,y,f⟩:=b;simp only at*;generalize cnN (s != t) N (e+f)=R at*;obtain⟨u,z,g⟩:=R;refine fY6 Tryz.func123 rfl ?_;refine gYn h330 ?_;rw[wI (x:=e+f) O];refine gYn ho ?_;refine gYd ?_;exact⟨lr rfl,lh0⟩
theorem and1{y:Nat}(hy:y<4294967296):v3.wrap ((q3 v3.bits (y:Int)&&& q3 v3.bits 1).toNat :Int)=((y % 2:Nat):Int):=by
 have e1:(q3 32 (y:Int)).toNat =y:=by rw[w0,w6];exact wi hy
 have e2:(q3 32 1).toNat =2^1-1:=OA;show v3.wrap ((q3 32 (y:Int)&&& q3 32 1).toNat :Int)=_;rw[wm,e1,e2,qL,zsp O]
theorem r174(d:Dy)(hb:LB d.m)(hl:d.m.length<9223372036854775808):Fn 25 [] [.agg (dyC d)] (.bool (vB d)) []:=by
 obtain⟨A,hA⟩:∃A,vB d=A:=⟨_,rfl⟩;rw[hA];unfold vB at hA;obtain⟨neg,m,e⟩:=d;simp only at hb hl hA;show Fn 25 [] [.agg [.bool neg,.sl .u32 m,.int .i64 e]] _ [];by_cases h0:m.length=0
 .rw[Z4 h0]at hA;obtain rfl:=qZ h0;cases neg
  .refine fY6 Tryz.func25 rfl ?_;refine⟨ab0 ?_,lh0⟩;rw[<-hA,wC];show(e==0)=true<->_;simp
  .subst hA;refine fY6 Tryz.func25 rfl ?_;exact⟨lr rfl,lh0⟩
 rw[Z5 h0]at hA;have hl0:(((m.length:Nat):Int)==0)=false:=by rw[beq_eq_false_iff_ne];omega
 have hw:v0.wrap ((m.length:Int)-1)=((m.length-1:Nat):Int):=by rw[wI O];omega
 have hxl:m[m.length-1]? =some m[m.length-1]:=q0 O;have hx0:m[0]? =some m[0]:=q0 O;have hbl:=hb _ (qn (l:=m) (n:=m.length-1) O);have hb0:=hb _ (qn (l:=m) (n:=0) O);generalize m[m.length-1]=z at hxl hbl;generalize m[0]=y at hx0 hb0;have hg:m.getLast?=some z:=by rw[w8];exact hxl
 rw[hx0,hg]at hA;simp only[jD]at hA;obtain⟨y,rfl⟩:=ws hb0.1;have ha1:=and1 (y:=y) O;have hty:((y:Nat):Int).tmod 2=((y % 2:Nat):Int):=qP y 2;have ed:decide (((y:Nat):Int).tmod 2=1)=decide (y % 2=1):=decide_eq_decide.2 (by rw[hty];omega);have hA:(decide (m.length<=256)&&decide (y % 2=1)&&decide (z≠0)&&irB ⟨neg,m,e⟩)=A:=by rw[<-ed];exact hA
 refine fY6 Tryz.func25 rfl ?_;rw[hl0];conv=>whnf
 refine brI (fun h1=>?_) (fun h1=>?_)
 .have h1:256<m.length:=by have h1:((m.length:Nat):Int)>256:=Z0 h1;omega
  rw[Z7 (O:¬m.length<=256),qM,qM,qM]at hA;subst hA;conv=>whnf
  exact⟨lr rfl,lh0⟩
 have h1:m.length<=256:=by have h1:¬((m.length:Nat):Int)>256:=Z1 h1;omega
 rw[Z6 h1,we]at hA;conv=>whnf
 rw[hw];refine⟨⟨O,O⟩,fun(x:Int)hx=>?_⟩;have hx:m[m.length-1]? =some x:=by simpa using hx
 rw[hxl]at hx;cases hx
 conv=>whnf
 refine brI (fun h2=>?_) (fun h2=>?_)
 .have h2:z=0:=by
   have h2:(z==0)=true:=h2;simpa using h2
  rw[Z7 (O:¬z≠0),wR,qM]at hA;subst hA;conv=>whnf
  exact⟨lr rfl,lh0⟩
 have h2:z≠0:=by
  have h2:(z==0)=false:=h2;simpa using h2
 rw[Z6 h2,wS]at hA;conv=>whnf
 refine⟨⟨O,O⟩,fun(x:Int)hx=>?_⟩;have hx:m[0]? =some x:=by simpa using hx
 rw[hx0]at hx;cases hx
 conv=>whnf
 rw[ha1];refine brI (fun h3=>?_) (fun h3=>?_)
 .have h3:y % 2=0:=by
   have h3:(((y % 2:Nat):Int)==0)=true:=h3;rw[beq_iff_eq]at h3;omega
  rw[Z7 (O:¬y % 2=1),qM]at hA;subst hA;conv=>whnf
  exact⟨lr rfl,lh0⟩
 have h3:y % 2=1:=by
  have h3:(((y % 2:Nat):Int)==0)=false:=h3;rw[beq_eq_false_iff_ne]at h3;omega
 rw[Z6 h3,we]at hA;unfold irB at hA;simp only at hA;rw[zi3 hb]at hA;have he:=zqj hb (by rw[hg];exact h2);have hv:val m≠0:=fun c=>h0 (by rw[he,c];rfl)
 have hbz:bl (val m)≠0:=fun c=>hv (uj.1 c)
 rw[Z7 O,Bool.false_or]at hA;have h250:=r250 (val m) (by rw[<-he];omega);rw[<-he]at h250;have hbm:bl (val m)<=32*256:=(zx _ _).1 (by rw[<-he];exact h1);generalize bl (val m)=B at*;conv=>whnf
 refine brI (fun h4=>?_) (fun h4=>?_)
 .have h4:e< -16384:=Z0 h4;rw[show A=false by rw[<-hA];simp;omega];conv=>whnf
  exact⟨lr rfl,lh0⟩
 have h4:¬e< -16384:=Z1 h4;conv=>whnf
 refine brI (fun h5=>?_) (fun h5=>?_)
 .have h5:e>16384:=Z0 h5;rw[show A=false by rw[<-hA];simp;omega];conv=>whnf
  exact⟨lr rfl,lh0⟩
 have h5:¬e>16384:=Z1 h5;conv=>whnf
 refine gYn h250 ?_;refine brI (fun h6=>?_) (fun h6=>?_)
 .have h6:(B:Int)<=4096:=Z0 h6;conv=>whnf
  refine⟨ab0 ?_,lh0⟩;rw[wI O,<-hA,wC];simp only[Bool.and_eq_true,Z2];omega
 .have h6:¬(B:Int)<=4096:=Z1 h6;rw[show A=false by rw[<-hA];simp;omega];conv=>whnf
  exact⟨lr rfl,lh0⟩
theorem zjv{d:Dy}(h:VD d):sgR d=vg d:=by
 refine VD.cases (P:=fun d=>sgR d=vg d) h rfl (fun s n e hd hn _ _ _ _=>?_);unfold sgR vg;have hl:(toL n).length ≠0:=by rw[Ne,jf];omega
 rw[Z5 hl,xu,Z5 (O:¬n=0)]
theorem zuu(neg:Bool)(n:Nat)(e:Int):sgR (cnN neg n e)=if n=0 then 0 else if neg=true then-1 else 1:=by
 unfold cnN;split
 .rfl
 .rename_i h;obtain⟨m,h1,h2⟩:=um h;have h3:n/2^tz n=m:=qB (q8 _) h1;unfold sgR;simp only;rw[Z5 (by rw[jf,h3];omega)]
theorem zxx{a b:Dy}(hs:vg a=vg b)(h0:vg a≠0):(zn a<zn b->qo a b= -vg a)/\(zn b<zn a->qo a b=vg a)/\qo a b=sgR (zd8 a (jm b)):=by
 have ha0:nm a≠0:=fun c=>h0 (by unfold vg;rw[Z4 c])
 have hb0:nm b≠0:=fun c=>h0 (by rw[hs];unfold vg;rw[Z4 c])
 have hneg:a.neg=b.neg:=by
  unfold vg at hs;rw[Z5 ha0,Z5 hb0]at hs;cases h1:a.neg<;>cases h2:b.neg<;>simp_all
 have e1:zn a=bl (nm a)+a.e:=by unfold zn;rw[Z5 ha0]
 have e2:zn b=bl (nm b)+b.e:=by unfold zn;rw[Z5 hb0]
 have q1:=zq (nm a) (a.e-min a.e b.e).toNat ha0;have q2:=zq (nm b) (b.e-min a.e b.e).toNat hb0;have hd:=zod hs h0;have hn:jm b=⟨!b.neg,b.m,b.e⟩:=by unfold jm;rw[Z5 hb0]
 have hnn:nm (jm b)=nm b:=by rw[hn];rfl
 have hS:zd8 a (jm b)=if nm b*2^(b.e-min a.e b.e).toNat <=nm a*2^(a.e-min a.e b.e).toNat then cnN a.neg (nm a*2^(a.e-min a.e b.e).toNat -nm b*2^(b.e-min a.e b.e).toNat) (min a.e b.e)
  else cnN (!b.neg) (nm b*2^(b.e-min a.e b.e).toNat -nm a*2^(a.e-min a.e b.e).toNat) (min a.e b.e):=by
  unfold zd8;rw[hnn,Z5 ha0,Z5 hb0,hn];simp only;rw[Z5 (by rw[hneg];cases b.neg<;>simp)]
 rw[hS,hd];unfold cmA;generalize nm a*2^(a.e-min a.e b.e).toNat =X at*;generalize nm b*2^(b.e-min a.e b.e).toNat =Y at*;refine⟨fun h=>?_,fun h=>?_,?_⟩
 .rw[zlk (qbm O)];omega
 .rw[zll (qbm O)];omega
 .have hsa:vg a=if a.neg=true then-1 else 1:=by unfold vg;rw[Z5 ha0]
  by_cases h:Y<=X
  .rw[Z4 h,zuu];by_cases h2:X=Y
   .subst h2;rw[Z4 O];unfold uf;rw[Z5 O,Z5 O];omega
   .rw[Z5 O,zll O,hsa];omega
  .rw[Z5 h,zuu,Z5 O,zlk O,hsa,hneg];cases b.neg<;>rfl
theorem r175{a b:Dy}(ha:VD a)(hb:VD b):Fn 52 [] [.agg (dyC a),.agg (dyC b)] (.int .i64 (qo a b)) []:=by
 have s1:=qe8 a;have s2:=qe8 b;have t1:=r252 ha;have t2:=r252 hb;have n1:=zz4 hb;have hnb:VD (jm b):=ua hb;have m1:=r253 ha hnb;have z1:=qe8 (zd8 a (jm b));have c1:=zr6 (a:=a) (b:=b);have c2:=zxx (a:=a) (b:=b);rw[zjv ha]at s1;rw[zjv hb]at s2;have hz:vg a=0\/vg a=1\/vg a= -1:=by unfold vg;split<;>(try split)<;>simp
 generalize sgR (zd8 a (jm b))=Zq at*;generalize zd8 a (jm b)=SX at*;generalize jm b=NB at*;generalize qo a b=C at*;generalize vg a=sa at*;generalize vg b=sb at*;have ea:=ha.exp;have eb:=hb.exp;generalize zn a=ta at*;generalize zn b=tb at*;refine fY6 Tryz.func52 rfl ?_;refine gYn s1 ?_;refine gYn s2 ?_;refine gYd ?_;refine brI (fun h1=>?_) (fun h1=>?_)
 .have h1:sa≠sb:=by
   have h1:(sa != sb)=true:=h1;simpa using h1
  conv=>whnf
  refine brI (fun h2=>?_) (fun h2=>?_)
  .have h2:sa<sb:=Z0 h2;rw[c1.1 h2];conv=>whnf
   exact⟨lr rfl,lh0⟩
  .have h2:¬sa<sb:=Z1 h2;rw[c1.2.1 O];conv=>whnf
   exact⟨lr rfl,lh0⟩
 have h1:sa=sb:=by
  have h1:(sa != sb)=false:=h1;simpa using h1
 conv=>whnf
 refine brI (fun h2=>?_) (fun h2=>?_)
 .have h2:sa=0:=by
   have h2:(sa==0)=true:=h2;simpa using h2
  rw[c1.2.2 h1 h2];conv=>whnf
  exact⟨lr rfl,lh0⟩
 have h2:sa≠0:=by
  have h2:(sa==0)=false:=h2;simpa using h2
 obtain⟨d1,d2,d3⟩:=c2 h1 h2;conv=>whnf
 refine gYn t1 ?_;refine gYn t2 ?_;refine gYd ?_;refine brI (fun h3=>?_) (fun h3=>?_)
 .have h3:ta≠tb:=by
   have h3:(ta != tb)=true:=h3;simpa using h3
  conv=>whnf
  refine gYn t1 ?_;refine gYn t2 ?_;refine gYd ?_;refine brI (fun h4=>?_) (fun h4=>?_)
  .have h4:(decide (ta<tb)==decide (sa>0))=true:=h4;have hC:C= -1:=by
    rcases hz with hz|hz|hz
    .exact absurd hz h2
    .have:ta<tb:=by simpa[hz]using h4
     rw[d1 this,hz]
    .have:¬ta<tb:=by simpa[hz]using h4
     rw[d2 O,hz]
   rw[hC];conv=>whnf
   exact⟨lr rfl,lh0⟩
  .have h4:(decide (ta<tb)==decide (sa>0))=false:=h4;have hC:C=1:=by
    rcases hz with hz|hz|hz
    .exact absurd hz h2
    .have:¬ta<tb:=by simpa[hz]using h4
     rw[d2 O,hz]
    .have:ta<tb:=by simpa[hz]using h4
     rw[d1 this,hz];rfl
   rw[hC];conv=>whnf
   exact⟨lr rfl,lh0⟩
 rw[d3];conv=>whnf
 refine gYn n1 ?_;refine gYn m1 ?_;refine gYn z1 ?_;refine gYd ?_;exact⟨lr rfl,lh0⟩
theorem r331t(l:List Int)(hl:l.length<=1000000):Fn 365 [] [.sl .u32 l] (.sl .u32 (trL l)) []:=by
 refine fY6 Tryz.func365 rfl ?_;refine⟨Nat,fun n=>n<=l.length/\trN l n=trN l l.length,fun n=> [(3,.int .i64 n)],fun _=> [],fun n=>n,l.length,⟨qC _,rfl⟩,?_,fun n hn=>?_⟩
 .exact KZ0
 refine gYe ?_;obtain⟨hn1,hn2⟩:=hn;refine brI (fun h1=>?_) (fun h1=>?_)
 .have h1:0<n:=by simp only[Z2]at h1;omega
  obtain⟨m,rfl⟩:∃m,n=m+1:=⟨n-1,O⟩;have hw:v0.wrap (((m+1:Nat):Int)-1)=(m:Int):=by rw[wI O];omega
  conv=>whnf
  rw[hw];refine⟨⟨O,O⟩,fun x hx=>?_⟩;have hx:l[m]? =some x:=by simpa using hx
  simp only[trN,hx,jD]at hn2;conv=>whnf
  refine brI (fun h2=>?_) (fun h2=>?_)
  .have h2:x=0:=by simpa using h2
   rw[Z4 h2]at hn2;conv=>whnf
   refine⟨m,⟨O,hn2⟩,by show m<m+1;omega,?_⟩;exact KZ0
  .have h2:¬x=0:=by simpa using h2
   rw[Z5 h2]at hn2;conv=>whnf
   refine⟨⟨O,O,O⟩,?_⟩;conv=>whnf
   refine⟨OE,?_⟩;conv=>whnf
   exact⟨wb (by rw[trL,<-hn2];try simp),lh0⟩
 .have h1:n=0:=by simp only[Z3]at h1;omega
  subst h1;simp only[trN]at hn2;conv=>whnf
  refine⟨⟨O,O,O⟩,?_⟩;conv=>whnf
  refine⟨OC,?_⟩;conv=>whnf
  exact⟨wb (by rw[trL,<-hn2];try simp),lh0⟩
theorem zyw{l:List Int}(hb:LB l)(hl:l.length<=1000000):Fn 365 [] [.sl .u32 l] (.sl .u32 (toL (val l))) []:=by
 have:=r331t l hl
 rwa [xm hb]at this
theorem zyv{l:List Int}(hb:LB l)(_:l.length<=1000000)(i:Nat):Fn 395 [] [.sl .u32 l,.int .i64 i] (.int .u64 (l[i]?.getD 0)) []:=by
 have hat:=hb.at i;refine fY6 Tryz.func395 rfl ?_;refine brI (fun h=>?_) (fun h=>?_)
 .have h:i<l.length:=by have h:((i:Nat):Int)<l.length:=Z0 h;omega
  have hx:=q0 h;generalize l[i]=x at hx;rw[hx]at hat⊢;simp only[jD]at hat⊢;conv=>whnf
  refine⟨⟨O,O⟩,fun(z:Int)hz=>?_⟩;have hz:l[i]? =some z:=by simpa using hz
  rw[hx]at hz;cases hz
  conv=>whnf
  exact⟨ai0 (wU O),lh0⟩
 .have h:¬i<l.length:=by have h:¬((i:Nat):Int)<l.length:=Z1 h;omega
  rw[qd O];conv=>whnf
  exact⟨lr rfl,lh0⟩
theorem zk2{l:List Int}(h:LB l)(n:Nat):val (l.take n)<4294967296^n:=by
 by_cases hn:n<=l.length
 .exact ud h n hn
 .have:=ud h l.length (qC _);rw[qR]at this;rw[q6 O];exact Nat.lt_of_lt_of_le this (qO OA O)
theorem zz7(P p q x y:Nat)(hp:p<P)(hq:q<P):uf (p+P*x) (q+P*y)=if x<y then-1 else if y<x then 1 else uf p q:=by
 by_cases h:x<y
 .rw[Z4 h];have:=w3 P (show x+1<=y from h);rw[qJ,w9]at this;exact zlk O
 .rw[Z5 h];by_cases h2:y<x
  .rw[Z4 h2];have:=w3 P (show y+1<=x from h2);rw[qJ,w9]at this;exact zll O
  .rw[Z5 h2,(O:x=y)];unfold uf;by_cases h3:p<q
   .rw[Z4 h3,Z4 O]
   .by_cases h4:q<p
    .rw[Z5 h3,Z4 h4,Z5 O,Z4 O]
    .rw[Z5 h3,Z5 h4,Z5 O,Z5 O]
theorem zi1{a b:List Int}(ha:LB a)(hb:LB b):∀n,zbe a b n=uf (val (a.take n)) (val (b.take n))
 |0=>by simp[zbe,val,uf]
 |n+1=>by
  rw[zbe,zi1 ha hb n,kb,kb,zz7 _ _ _ _ _ (zk2 ha n) (zk2 hb n)];have h1:=ha.at n;have h2:=hb.at n;generalize a[n]?.getD 0=x at*;generalize b[n]?.getD 0=y at*;by_cases c:x<y
  .rw[Z4 c,Z4 (O:x.toNat<y.toNat)]
  .rw[Z5 c,Z5 (O:¬x.toNat<y.toNat)];by_cases c2:y<x
   .rw[Z4 c2,Z4 (O:y.toNat<x.toNat)]
   .rw[Z5 c2,Z5 (O:¬y.toNat<x.toNat)]
theorem r310{a b:List Int}(ha:LB a)(hb:LB b)(hal:a.length<=1000000)(hbl:b.length<=1000000):Fn 367 [] [.sl .u32 a,.sl .u32 b] (.int .i64 (uf (val a) (val b))) []:=by
 obtain⟨A,hA⟩:∃A,uf (val a) (val b)=A:=⟨_,rfl⟩;have hg:=zi1 ha hb (max a.length b.length);rw[q6 O,q6 O,hA]at hg;rw[hA];clear hA;have hmx2:(if(a.length:Int)<(b.length:Int)then(b.length:Int)else(a.length:Int))=((max a.length b.length:Nat):Int):=by split<;>omega
 have ra:=fun i:Nat=>zyv ha hal i
 have rb:=fun i:Nat=>zyv hb hbl i
 have hM:max a.length b.length<=1000000:=O;generalize max a.length b.length=M at*;refine fY6 Tryz.func367 rfl ?_;rw[hmx2,wI (x:=((M:Nat):Int)-1) O];refine⟨Nat,fun n=>n<=M/\zbe a b n=A,fun n=> [(5,.int .i64 ((n:Int)-1))],fun _=> [],fun n=>n,M,⟨qC _,hg⟩,?_,fun n hn=>?_⟩
 .exact KZ0
 refine gYe ?_;obtain⟨hn1,hn2⟩:=hn;refine brI (fun h2=>?_) (fun h2=>?_)
 .have h2:0<n:=by simp only[Z2]at h2;omega
  obtain⟨m,rfl⟩:∃m,n=m+1:=⟨n-1,O⟩;have hm:(((m+1:Nat):Int)-1)=(m:Int):=O;rw[zbe]at hn2;have ra:=ra m;have rb:=rb m;generalize a[m]?.getD 0=x at*;generalize b[m]?.getD 0=y at*;conv=>whnf
  rw[hm];refine gYn ra ?_;refine gYn rb ?_;refine brI (fun h3=>?_) (fun h3=>?_)
  .have h3:x<y:=Z0 h3;rw[Z4 h3]at hn2;conv=>whnf
   exact⟨ai0 hn2,lh0⟩
  have h3:¬x<y:=Z1 h3;rw[Z5 h3]at hn2;conv=>whnf
  refine gYn ra ?_;refine gYn rb ?_;refine brI (fun h4=>?_) (fun h4=>?_)
  .have h4:y<x:=Z0 h4;rw[Z4 h4]at hn2;conv=>whnf
   exact⟨ai0 hn2,lh0⟩
  have h4:¬y<x:=Z1 h4;rw[Z5 h4]at hn2;conv=>whnf
  refine⟨m,⟨O,hn2⟩,by show m<m+1;omega,?_⟩;exact KZ0
 .have h2:n=0:=by simp only[Z3]at h2;omega
  subst h2;simp only[zbe]at hn2;conv=>whnf
  exact⟨ai0 hn2,lh0⟩
theorem qlx{p m x:Nat}(hp:p<2^(32*m))(hx:x≠0):bl (p+2^(32*m)*x)=32*m+bl x:=by
 have hP:=q8 (32*m);have h1:2^(32*m)<=p+2^(32*m)*x:=qN (wn _ O) (Nat.le_add_left _ _);have h2:=zaj _ _ h1;rw[Nat.add_mul_div_left _ _ hP,Nat.div_eq_of_lt hp,Nat.zero_add]at h2;have h3:=(xj (n:=p+2^(32*m)*x) (k:=32*m) O).2 h1;omega
theorem qcp{l:List Int}(hb:LB l)(hl:l.length<=1000000):Fn 362 [] [.sl .u32 l] (.int .i64 (bl (val l):Nat)) []:=by
 refine fY6 Tryz.func362 rfl ?_;rw[wI (x:=((l.length:Nat):Int)-1) O];refine⟨Nat,fun n=>n<=l.length/\val (l.take n)=val l,fun n=> [(3,.int .i64 ((n:Int)-1))],fun _=> [],fun n=>n,l.length,⟨qC _,by rw[qR]⟩,?_,fun n hn=>?_⟩
 .exact KZ0
 refine gYe ?_;obtain⟨hn1,hn2⟩:=hn;refine brI (fun h2=>?_) (fun h2=>?_)
 .have h2:0<n:=by simp only[Z2]at h2;omega
  obtain⟨m,rfl⟩:∃m,n=m+1:=⟨n-1,O⟩;have hm:(((m+1:Nat):Int)-1)=(m:Int):=O;have hxl:=q0 (l:=l) (i:=m) O;have hxb:=hb _ (qn (l:=l) (n:=m) O);generalize l[m]=x at hxl hxb;rw[kb,hxl]at hn2;simp only[jD]at hn2;have htl:=zk2 hb m;conv=>whnf
  rw[hm];refine⟨⟨O,O⟩,fun(z:Int)hz=>?_⟩;have hz:l[m]? =some z:=by simpa using hz
  rw[hxl]at hz;cases hz
  conv=>whnf
  refine brI (fun h3=>?_) (fun h3=>?_)
  .have h3:x≠0:=by
    have h3:(x != 0)=true:=h3;simpa using h3
   have hbl:bl (val l)=32*m+bl x.toNat:=by
    rw[<-hn2];have e:(4294967296:Nat)^m=2^(32*m):=by rw[wY]
    rw[e]at htl⊢;exact qlx htl O
   have hbx:bl x.toNat<=32:=wv.2 O;rw[hbl];conv=>whnf
   refine⟨⟨O,O⟩,fun(z:Int)hz=>?_⟩;have hz:l[m]? =some z:=by simpa using hz
   rw[hxl]at hz;cases hz
   conv=>whnf
   rw[wI (x:=32*((m:Nat):Int)) O];refine⟨Nat,fun y=>y<4294967296/\bl y<=bl x.toNat,fun y=> [(4,.int .i64 (((32*m+bl x.toNat:Nat):Int)-(bl y:Nat))),(5,.int .u32 y)],fun _=> [],fun y=>y,x.toNat,⟨O,qC _⟩,?_,fun y hy=>?_⟩
   .exact KZ0
   obtain⟨hy1,hy2⟩:=hy;refine gYe ?_;refine brI (fun h2=>?_) (fun h2=>?_)
   .have h2:0<y:=by simp only[Z2]at h2;omega
    have hh:=zmg (n:=y) O;conv=>whnf
    refine⟨OA,?_⟩;conv=>whnf
    refine⟨y/2,⟨O,O⟩,by show y/2<y;omega,?_⟩
    ((conv=>whnf);refine q9 ?_ ?_;repeat' first|refine lc ?_ ?_|refine lh1 ?_ ?_|refine bc0 ?_|exact KXZ|refine lg0 ?_|refine lt0 ?_)
    .exact ai0 (by rw[wI O];omega)
    .exact ai0 (by
      show((y:Int)).fdiv 2=_;rw[q5 _ OA];omega)
   .have h2:y=0:=by simp only[Z3]at h2;omega
    subst h2;conv=>whnf
    exact⟨ai0 (by simp[vl]),lh0⟩
  .have h3:x=0:=by
    have h3:(x != 0)=false:=h3;simpa using h3
   subst h3;simp only[qW,wJ,qU]at hn2;conv=>whnf
   refine⟨m,⟨O,hn2⟩,by show m<m+1;omega,?_⟩;exact KZ0
 .have h2:n=0:=by simp only[Z3]at h2;omega
  subst h2;have hn2:val l=0:=by rw[<-hn2];rfl
  rw[hn2];conv=>whnf
  exact⟨lr rfl,lh0⟩
theorem fdB(s:Nat):((s:Nat):Int).fdiv 4294967296=((s/4294967296:Nat):Int):=by rw[q5 _ OA];simp
theorem loB{s:Nat}(hs:s<18446744073709551616):v3.wrap (wZ.wrap ((q3 wZ.bits (s:Int)&&& q3 wZ.bits 4294967295).toNat :Int))=((s % 4294967296:Nat):Int):=by
 rw[zfr _ O];simp[v5,v4,v6]
theorem r335{a b:List Int}(ha:LB a)(hb:LB b)(hal:a.length<=100000)(hbl:b.length<=100000):Fn 368 [] [.sl .u32 a,.sl .u32 b] (.sl .u32 (toL (val a+val b))) []:=by
 have ra:=fun i:Nat=>zyv ha O i
 have rb:=fun i:Nat=>zyv hb O i
 have hmx2:(if(a.length:Int)<(b.length:Int)then(b.length:Int)else(a.length:Int))=((max a.length b.length:Nat):Int):=by split<;>omega
 refine fY6 Tryz.func368 rfl ?_;refine⟨Nat×List Int×Nat,fun x=>x.1<=max a.length b.length+1/\(x.1=max a.length b.length+1->x.2.2=0)/\PlI a b x.1 x.2.1 x.2.2,fun x=> [(7,.int .i64 x.1),(5,.own 36),(6,.int .u64 x.2.2)],fun x=> [(36,.buf 108 .u32 x.2.1)],fun x=>max a.length b.length+1-x.1,(0,[],0),⟨OC,fun h=>rfl,⟨rfl,(fun x hx=>by cases hx),OC,by simp[val]⟩⟩,?_,fun x hx=>?_⟩
 .exact KZ0
 obtain⟨i,out,c⟩:=x;obtain⟨hi,hi2,hp⟩:=hx;simp only at hi hi2 hp;have hol:=hp.len;have hc:=hp.c1;have hst:=hp.step rfl rfl (zog ha i) (zog hb i);have ra:=ra i;have rb:=rb i;have hba:=ha.at i;have hbb:=hb.at i;have round:i<=max a.length b.length->(c+(a[i]?.getD 0).toNat +(b[i]?.getD 0).toNat <8589934592)/\(i+1=max a.length b.length+1->(c+(a[i]?.getD 0).toNat +(b[i]?.getD 0).toNat)/4294967296=0):=fun h=>by
  refine⟨O,fun h2=>?_⟩;rw[qd O,qd O];simp;omega
 have es:wZ.wrap (wZ.wrap (a[i]?.getD 0+b[i]?.getD 0)+(c:Int))=((c+(a[i]?.getD 0).toNat +(b[i]?.getD 0).toNat :Nat):Int):=by
  rw[wU (x:=a[i]?.getD 0+b[i]?.getD 0) O,wU O];omega
 have hfin:¬i<max a.length b.length->c=0->Fn 365 [] [.sl .u32 out] (.sl .u32 (toL (val a+val b))) []:=fun h1 h2=>by
  have hv:=hp.val;rw[h2,q6 O,q6 O]at hv;have h331:=zyw hp.lb O;rw[<-hv];simpa using h331
 generalize a[i]?.getD 0=x at*;generalize b[i]?.getD 0=y at*;refine gYe ?_;rw[hmx2];generalize max a.length b.length=M at*;refine brI (fun h1=>?_) (fun h1=>?_)
 .have h1:i<M:=by
   have h1:((i:Nat):Int)<((M:Nat):Int):=Z0 h1;omega
  obtain⟨d1,d2⟩:=round O;conv=>whnf
  refine gYn ra ?_;refine gYn rb ?_;refine⟨OE,?_⟩;conv=>whnf
  refine⟨OA,?_⟩;conv=>whnf
  refine⟨(i+1,out++ [(((c+x.toNat+y.toNat) % 4294967296:Nat):Int)],(c+x.toNat+y.toNat)/4294967296),⟨OD,d2,hst⟩,by show M+1-(i+1)<M+1-i;omega,?_⟩
  ((conv=>whnf);refine q9 ?_ ?_;repeat' first|refine lc ?_ ?_|refine lh1 ?_ ?_|refine bc0 ?_|exact KXZ|refine lg0 ?_|refine lt0 ?_)
  .exact ai0 ((congrArg (fun z:Int=>z.fdiv 4294967296) es).trans (fdB _))
  .exact ai0 (by rw[wI OD];simp only;omega)
  .exact bb0 (by
    show out++ [_]=out++ [_];rw[<-loB O,<-es])
 .have h1:¬i<M:=by
   have h1:¬((i:Nat):Int)<((M:Nat):Int):=Z1 h1;omega
  conv=>whnf
  refine brI (fun h2=>?_) (fun h2=>?_)
  .have h2:c≠0:=by
    have h2:((c:Nat):Int)>0:=Z0 h2;omega
   have h3:i<=M:=by
    by_cases h:i=M+1
    .exact absurd (hi2 h) h2
    .omega
   obtain⟨d1,d2⟩:=round h3;conv=>whnf
   refine gYn ra ?_;refine gYn rb ?_;refine⟨OE,?_⟩;conv=>whnf
   refine⟨OA,?_⟩;conv=>whnf
   refine⟨(i+1,out++ [(((c+x.toNat+y.toNat) % 4294967296:Nat):Int)],(c+x.toNat+y.toNat)/4294967296),⟨OD,d2,hst⟩,by show M+1-(i+1)<M+1-i;omega,?_⟩
   ((conv=>whnf);refine q9 ?_ ?_;repeat' first|refine lc ?_ ?_|refine lh1 ?_ ?_|refine bc0 ?_|exact KXZ|refine lg0 ?_|refine lt0 ?_)
   .exact ai0 ((congrArg (fun z:Int=>z.fdiv 4294967296) es).trans (fdB _))
   .exact ai0 (by rw[wI OD];simp only;omega)
   .exact bb0 (by
     show out++ [_]=out++ [_];rw[<-loB O,<-es])
  .have h2:c=0:=by
    have h2:¬((c:Nat):Int)>0:=Z1 h2;omega
   conv=>whnf
   refine gYn (hfin h1 h2) ?_;exact⟨lr rfl,lh0⟩
theorem r341{a b:List Int}(ha:LB a)(hb:LB b)(hal:a.length<=100000)(hbl:b.length<=100000)(hv:val b<=val a)(hl:b.length<=a.length):Fn 396 [] [.sl .u32 a,.sl .u32 b] (.sl .u32 (toL (val a-val b))) []:=by
 have ra:=fun i:Nat=>zyv ha O i
 have rb:=fun i:Nat=>zyv hb O i
 refine fY6 Tryz.func396 rfl ?_;refine⟨Nat×List Int×Nat,fun x=>x.1<=a.length/\MiI a b x.1 x.2.1 x.2.2,fun x=> [(7,.int .i64 x.1),(5,.own 30),(6,.int .u64 x.2.2)],fun x=> [(30,.buf 108 .u32 x.2.1)],fun x=>a.length-x.1,(0,[],0),⟨OC,⟨rfl,(fun x hx=>by cases hx),OC,by simp[val]⟩⟩,?_,fun x hx=>?_⟩
 .exact KZ0
 obtain⟨i,out,c⟩:=x;obtain⟨hi,hp⟩:=hx;simp only at hi hp;have hol:=hp.len;have hc:=hp.c1;have hst:=hp.step rfl rfl (zog ha i) (zog hb i);have ra:=ra i;have rb:=rb i;have hba:=ha.at i;have hbb:=hb.at i;have e4:∀s:Nat,s<8589934592->wZ.wrap (1-((s:Nat):Int).fdiv 4294967296)=((1-s/4294967296:Nat):Int):=fun s hs=>by
  rw[fdB,wU O];omega
 have es:wZ.wrap (wZ.wrap (wZ.wrap (a[i]?.getD 0+4294967296)-b[i]?.getD 0)-(c:Int))=(((a[i]?.getD 0).toNat +4294967296-(c+(b[i]?.getD 0).toNat):Nat):Int):=by
  rw[wU (x:=a[i]?.getD 0+4294967296) O,wU (x:=a[i]?.getD 0+4294967296-b[i]?.getD 0) O];by_cases hz:a[i]?.getD 0+4294967296-b[i]?.getD 0-c<0
  .omega
  .rw[wU O];omega
 generalize a[i]?.getD 0=x at*;generalize b[i]?.getD 0=y at*;refine gYe ?_;refine brI (fun h1=>?_) (fun h1=>?_)
 .have h1:i<a.length:=by simp only[Z2]at h1;omega
  conv=>whnf
  refine gYn ra ?_;refine gYn rb ?_;refine⟨OE,?_⟩;conv=>whnf
  refine⟨OA,?_⟩;conv=>whnf
  refine⟨(i+1,out++ [(((x.toNat+4294967296-(c+y.toNat)) % 4294967296:Nat):Int)],1-(x.toNat+4294967296-(c+y.toNat))/4294967296),⟨OD,hst⟩,by show a.length-(i+1)<a.length-i;omega,?_⟩
  ((conv=>whnf);refine q9 ?_ ?_;repeat' first|refine lc ?_ ?_|refine lh1 ?_ ?_|refine bc0 ?_|exact KXZ|refine lg0 ?_|refine lt0 ?_)
  .exact ai0 ((congrArg (fun z:Int=>wZ.wrap (1-z.fdiv 4294967296)) es).trans (e4 _ O))
  .exact ai0 (by rw[wI OD];simp only;omega)
  .exact bb0 (by
    show out++ [_]=out++ [_];rw[<-loB O,<-es])
 .have h1:i=a.length:=by simp only[Z3]at h1;omega
  subst h1;have hf:=hp.fin hl hv;have h331:=zyw hp.lb O;rw[hf]at h331;conv=>whnf
  refine gYn h331 ?_;exact⟨lr rfl,lh0⟩
theorem r334{a:List Int}(ha:LB a)(hal:a.length<=100000)(n:Nat)(hn:n<=1000000000):Fn 366 [] [.sl .u32 a,.int .i64 n] (.sl .u32 (toL (val a/2^n))) []:=by
 have ra:=fun i:Nat=>zyv ha O i
 have hbu:LB (a.drop (n/32)):=fun z hz=>ha z (w1 hz)
 have hsp:=zjt (n % 32) O (a.drop (n/32)) hbu;rw[zex _ _ ha,Nat.div_div_eq_div_mul,<-qQ,(O:32*(n/32)+n % 32=n)]at hsp;generalize val a/2^n=V at hsp⊢;obtain⟨A,hA⟩:∃A,zb3 (a.drop (n/32)) (n % 32)=A:=⟨_,rfl⟩;rw[hA]at hsp;have hAl:A.length=a.length-n/32:=by rw[<-hA];simp[zb3]
 have hAt:∀j,j<A.length->A[j]? =some (((a[n/32+j]?.getD 0+a[n/32+(j+1)]?.getD 0*4294967296)/2^(n % 32)) % 4294967296):=fun j hj=>by
  rw[<-hA];have hj2:j<(a.drop (n/32)).length :=by rw[wK];omega
  rw[zb3,List.getElem?_map,List.getElem?_range hj2];simp only[Option.map_some,zfy,wF]
 have h331:=zyw hsp.2 O;rw[hsp.1]at h331;have hq:v0.wrap ((n:Int).tdiv 32)=((n/32:Nat):Int):=by
  rw[show(n:Int).tdiv 32=((n/32:Nat):Int)from qT n 32,wI O]
 have h9:(n:Int).tmod 32=((n % 32:Nat):Int):=qP n 32;have hfin:∀s:Int,0<=s/\s<18446744073709551616->v3.wrap (wZ.wrap ((q3 wZ.bits (s.fdiv (2^min ((n:Int).tmod 32).toNat wZ.bits))&&& q3 wZ.bits 4294967295).toNat :Int))=(s/2^(n % 32)) % 4294967296:=fun s hs=>by
  have hp:(0:Int)<2^(n % 32):=wE OA;have hd:0<=s/2^(n % 32):=wO hs.1 O;have hd2:s/2^(n % 32)<=s:=wL _ hs.1;rw[h9,show min ((n % 32:Nat):Int).toNat wZ.bits=n % 32 by show min ((n % 32:Nat):Int).toNat 64=n % 32;omega,q5 _ O,zfr _ ⟨hd,O⟩];simp[v5,v4,v6]
 clear hA hsp;refine fY6 Tryz.func366 rfl ?_;refine⟨O,?_⟩;conv=>whnf
 rw[hq];refine⟨Nat,fun j=>j<=A.length,fun j=> [(6,.int .i64 ((n/32+j:Nat):Int)),(5,.own 33)],fun j=> [(33,.buf 108 .u32 (A.take j))],fun j=>A.length-j,0,Nat.zero_le _,?_,fun j hj=>?_⟩
 .exact KZ0
 have hj:j<=A.length:=hj;refine gYe ?_;refine brI (fun h1=>?_) (fun h1=>?_)
 .have h1:n/32+j<a.length:=by
   have h1:((n/32+j:Nat):Int)<(a.length:Int):=Z0 h1;omega
  have hF:=hAt j O;have hstep:A.take j++ [((a[n/32+j]?.getD 0+a[n/32+(j+1)]?.getD 0*4294967296)/2^(n % 32)) % 4294967296]=A.take (j+1):=by rw[wH,hF];rfl
  have r1:=ra (n/32+j);have r2:=ra (n/32+(j+1));have b1:=ha.at (n/32+j);have b2:=ha.at (n/32+(j+1));have hw:v0.wrap (((n/32+j:Nat):Int)+1)=((n/32+(j+1):Nat):Int):=by rw[wI O];omega
  generalize a[n/32+j]?.getD 0=x at*;generalize a[n/32+(j+1)]?.getD 0=y at*;have es:wZ.wrap (x+wZ.wrap (y*4294967296))=x+y*4294967296:=by
   rw[wU (x:=y*4294967296) O,wU O]
  have hlen:(A.take j).length =j:=by rw[jB];omega
  conv=>whnf
  refine gYn r1 ?_;rw[hw];refine gYn r2 ?_;refine⟨OA,?_⟩;conv=>whnf
  refine⟨O,?_⟩;conv=>whnf
  refine⟨by rw[h9];omega,?_⟩;conv=>whnf
  refine⟨by rw[hlen];simp;omega,?_⟩;conv=>whnf
  refine⟨j+1,O,by show A.length-(j+1)<A.length-j;omega,?_⟩
  ((conv=>whnf);refine q9 ?_ ?_;repeat' first|refine lc ?_ ?_|refine lh1 ?_ ?_|refine bc0 ?_|exact KXZ|refine lg0 ?_|refine lt0 ?_)
  .exact ai0 hw
  .exact bb0 (by
    rw[<-hstep];show A.take j++ [_]=_
    congr 2
    rw[<-hfin _ O,<-es];rfl)
 .have h1:¬n/32+j<a.length:=by
   have h1:¬((n/32+j:Nat):Int)<(a.length:Int):=Z1 h1;omega
  rw[q6 O];conv=>whnf
  refine gYn h331 ?_;exact⟨lr rfl,lh0⟩
theorem r311{a b:List Int}(ha:LB a)(hb:LB b)(hal:a.length<=100000)(hbl:b.length<=100000):Fn 391 [] [.sl .u32 a,.sl .u32 b] (.sl .u32 (toL (val a*val b))) []:=by
 have rb:=fun i:Nat=>zyv hb O i
 have hsp:=zfc b hb a 0 (qA (a.length+b.length+1) 0) ha (fun z hz=>by have:=qH hz;omega) OC (fun j _=>by
  rw[qE];split<;>rfl)
 rw[za1]at hsp;have hml:=zg9 b a 0 (qA (a.length+b.length+1) 0);obtain⟨A,hA⟩:∃A,zlu b a 0 (qA (a.length+b.length+1) 0)=A:=⟨_,rfl⟩;rw[hA]at hsp hml;have hAv:val A=val a*val b:=by have:=hsp.1;simpa using this
 have h331:=zyw hsp.2 (by rw[hml];simp;omega);rw[hAv]at h331;clear hsp hAv hml;generalize toL (val a*val b)=R at h331⊢;refine fY6 Tryz.func391 rfl ?_;rw[wI (x:=(a.length:Int)+(b.length:Int)) O,wI (x:=(a.length:Int)+(b.length:Int)+1) O];refine⟨⟨O,O,O⟩,?_⟩;conv=>whnf
 refine⟨Nat×List Int,fun x=>x.1<=a.length/\LB x.2/\x.2.length=a.length+b.length+1/\zlu b (a.drop x.1) x.1 x.2=A/\(∀j,x.1+b.length<=j->x.2[j]?.getD 0=0),fun x=> [(6,.int .i64 x.1)],fun x=> [(16,.buf 108 .u32 x.2)],fun x=>a.length-x.1,(0,qA (a.length+b.length+1) 0),⟨OC,(fun x hx=>by rw[qH hx];omega),OC,by simpa using hA,fun j _=>by
  rw[qE];split<;>rfl⟩,?_,fun x hx=>?_⟩
 .exact KZ0
 refine gYe ?_;obtain⟨i,out⟩:=x;obtain⟨hi1,hi2,hi3,hi4,hi5⟩:=hx;simp only at hi1 hi2 hi3 hi4 hi5;refine brI (fun h1=>?_) (fun h1=>?_)
 .have hi:i<a.length:=by simp only[Z2]at h1;omega
  have hxa:a[i]? =some a[i]:=q0 hi;have hxb:=ha _ (qn hi);generalize a[i]=x at hxa hxb;rw[qe hxa]at hi4;simp only[zlu]at hi4;obtain⟨o1,d1,hm1,hm2,hm3,hm4,hm5,hm6⟩:=zib x.toNat O b i out 0 hb hi2 O O;have hm1:zgy x b i out 0=(o1,(d1:Int)):=by
   have hm1:zgy ((x.toNat:Nat):Int) b i out 0=(o1,(d1:Int)):=hm1
   rwa [show((x.toNat:Nat):Int)=x by omega]at hm1
  clear hm5;rw[hm1]at hi4;simp only at hi4;have hz1:∀j,i+b.length<=j->o1[j]?.getD 0=0:=fun j hj=>by rw[hm6 j hj];exact hi5 j hj
  have hnx:∀j,i+1+b.length<=j->(o1.set (i+b.length) (d1:Int))[j]?.getD 0=0:=fun j hj=>by
   rw[qD O];exact hz1 j O
  conv=>whnf
  refine⟨Nat×List Int×Int,fun z=>z.1<=b.length+1/\LB z.2.1/\z.2.1.length=a.length+b.length+1/\(0<=z.2.2/\z.2.2<4294967296)/\((z.1<=b.length/\zgy x (b.drop z.1) (i+z.1) z.2.1 z.2.2=(o1,(d1:Int)))\/(z.1=b.length+1/\z.2.2=0/\z.2.1=o1.set (i+b.length) (d1:Int))),fun z=> [(8,.int .i64 z.1),(7,.int .u64 z.2.2)],fun z=> [(16,.buf 108 .u32 z.2.1)],fun z=>b.length+1-z.1,(0,out,0),⟨OC,hi2,hi3,OC,.inl ⟨OC,by simpa using hm1⟩⟩,?_,fun z hz=>?_⟩
  .exact KZ0
  obtain⟨k,o2,c⟩:=z;obtain⟨hk1,hk2,hk3,hk4,hk5⟩:=hz;simp only at hk1 hk2 hk3 hk4 hk5;have hob:=hk2.at (i+k);have rbk:=rb k;have hbk:=hb.at k;have hbd:=zwc hxb hbk hob hk4;have hik:k<=b.length->v0.wrap ((i:Int)+(k:Int))=((i+k:Nat):Int):=fun h=>by rw[wI O];omega
  have hnext:k<=b.length->(k=b.length->c≠0)->∃(o3:List Int)(c3:Int),o3=o2.set (i+k) ((x*b[k]?.getD 0+o2[i+k]?.getD 0+c) % 4294967296)/\c3=(x*b[k]?.getD 0+o2[i+k]?.getD 0+c)/4294967296/\(k+1<=b.length+1/\LB o3/\o3.length=a.length+b.length+1/\(0<=c3/\c3<4294967296)/\((k+1<=b.length/\zgy x (b.drop (k+1)) (i+(k+1)) o3 c3=(o1,(d1:Int)))\/(k+1=b.length+1/\c3=0/\o3=o1.set (i+b.length) (d1:Int)))):=fun h hc=>by
   refine⟨_,_,rfl,rfl,O,hk2.set O,by rw[qI];exact hk3,O,?_⟩;by_cases hkb:k<b.length
   .rcases hk5 with ⟨_,hk5⟩|⟨h6,_⟩
    .left;have hy:b[k]? =some b[k]:=q0 hkb;rw[qe hy]at hk5;simp only[zgy]at hk5;rw[hy];exact⟨O,hk5⟩
    .omega
   .have hkl:k=b.length:=by omega
    subst hkl;rcases hk5 with ⟨_,hk5⟩|⟨h6,_⟩
    .right;rw[qF O]at hk5;simp only[zgy,Prod.mk.injEq]at hk5;obtain⟨rfl,rfl⟩:=hk5;rw[qd (qC _),hz1 _ (qC _)];simp only[qY,Int.mul_zero,Int.zero_add];refine⟨trivial,O,?_⟩
     congr 1
     omega
    .omega
  generalize b[k]?.getD 0=y at*;have hsum:wZ.wrap (wZ.wrap (wZ.wrap (wZ.wrap x*y)+wZ.wrap (o2[i+k]?.getD 0))+c)=x*y+o2[i+k]?.getD 0+c:=by
   rw[wU (x:=x) O,wU (x:=o2[i+k]?.getD 0) O,wU (x:=x*y) O,wU (x:=x*y+o2[i+k]?.getD 0) O,wU O]
  have hgo:k<=b.length->o2[i+k]? =some (o2[i+k]?.getD 0):=fun h=>by
   rw[q0 O];rfl
  generalize o2[i+k]?.getD 0=o at*;obtain⟨s,hs⟩:∃s,x*y+o+c=s:=⟨_,rfl⟩;rw[hs]at hbd hnext hsum;have e1:v3.wrap (s % 4294967296)=s % 4294967296:=by simp[v5,v4,v6]
  have e2:s.fdiv 4294967296=s/4294967296:=q5 _ OA;have e3:=zfr s O;have hend:¬k<b.length->c=0->o2=o1.set (i+b.length) (d1:Int):=fun h hc=>by
   rcases hk5 with ⟨h5,hk5⟩|⟨_,_,h6⟩
   .have hkl:k=b.length:=by omega
    subst hkl;rw[qF O]at hk5;simp only[zgy,Prod.mk.injEq]at hk5;obtain⟨rfl,h7⟩:=hk5;rw[<-h7,hc,zmw O (hz1 _ (qC _))]
   .exact h6
  have hkle:k<b.length\/c≠0->k<=b.length:=fun h=>by
   rcases hk5 with ⟨h5,_⟩|⟨h6,h7,_⟩
   .exact h5
   .rcases h with h|h
    .omega
    .exact absurd h7 h
  refine gYe ?_;refine brI (fun h2=>?_) (fun h2=>?_)
  .have h2:k<b.length:=by
    have h2:((k:Nat):Int)<(b.length:Int):=Z0 h2;omega
   have hikk:=hik O;obtain⟨o3,c3,ho3,hc3,hinv⟩:=hnext O O;conv=>whnf
   refine⟨⟨O,OD⟩,fun(z:Int)hz=>?_⟩;have hz:a[i]? =some z:=by simpa using hz
   rw[hxa]at hz;cases hz
   conv=>whnf
   refine gYn rbk ?_;refine⟨⟨by show 0<=v0.wrap ((i:Int)+(k:Int));rw[hikk];omega,by show v0.wrap ((i:Int)+(k:Int))<(o2.length:Int);rw[hikk];omega⟩,?_⟩;conv=>whnf
   refine⟨by show(v0.wrap ((i:Int)+(k:Int))).toNat <o2.length;rw[hikk];omega,fun(q:Int)ho=>?_⟩;have ho:o2[i+k]? =some q:=by
    have ho:o2[(v0.wrap ((i:Int)+(k:Int))).toNat]? =some q:=ho
    rwa [hikk,q4]at ho
   rw[hgo O]at ho;cases ho
   conv=>whnf
   refine gYd ?_;refine⟨⟨by show 0<=v0.wrap ((i:Int)+(k:Int));rw[hikk];omega,by show v0.wrap ((i:Int)+(k:Int))<(o2.length:Int);rw[hikk];omega⟩,?_⟩;conv=>whnf
   refine⟨by show(v0.wrap ((i:Int)+(k:Int))).toNat <o2.length;rw[hikk];omega,?_⟩;conv=>whnf
   refine⟨OA,?_⟩;conv=>whnf
   refine⟨(k+1,o3,c3),hinv,by show b.length+1-(k+1)<b.length+1-k;omega,?_⟩
   ((conv=>whnf);refine q9 ?_ ?_;repeat' first|refine lc ?_ ?_|refine lh1 ?_ ?_|refine bc0 ?_|exact KXZ|refine lg0 ?_|refine lt0 ?_)
   .exact ai0 (((congrArg (fun z:Int=>z.fdiv 4294967296) hsum).trans e2).trans hc3.symm)
   .exact ai0 (by rw[wI OD];simp only;omega)
   .exact bb0 (by
     show w7 o2 (v0.wrap ((i:Int)+(k:Int))).toNat (v3.wrap _)=o3;rw[ho3,hikk,q4,<-e1,<-e3,<-hsum])
  have h2:¬k<b.length:=by
   have h2:¬((k:Nat):Int)<(b.length:Int):=Z1 h2;omega
  conv=>whnf
  refine brI (fun h3=>?_) (fun h3=>?_)
  .have h3:c≠0:=by
    have h3:c>0:=Z0 h3;omega
   have hkk:=hkle (.inr h3);have hikk:=hik hkk;obtain⟨o3,c3,ho3,hc3,hinv⟩:=hnext hkk (fun _=>h3);conv=>whnf
   refine⟨⟨O,OD⟩,fun(z:Int)hz=>?_⟩;have hz:a[i]? =some z:=by simpa using hz
   rw[hxa]at hz;cases hz
   conv=>whnf
   refine gYn rbk ?_;refine⟨⟨by show 0<=v0.wrap ((i:Int)+(k:Int));rw[hikk];omega,by show v0.wrap ((i:Int)+(k:Int))<(o2.length:Int);rw[hikk];omega⟩,?_⟩;conv=>whnf
   refine⟨by show(v0.wrap ((i:Int)+(k:Int))).toNat <o2.length;rw[hikk];omega,fun(q:Int)ho=>?_⟩;have ho:o2[i+k]? =some q:=by
    have ho:o2[(v0.wrap ((i:Int)+(k:Int))).toNat]? =some q:=ho
    rwa [hikk,q4]at ho
   rw[hgo O]at ho;cases ho
   conv=>whnf
   refine gYd ?_;refine⟨⟨by show 0<=v0.wrap ((i:Int)+(k:Int));rw[hikk];omega,by show v0.wrap ((i:Int)+(k:Int))<(o2.length:Int);rw[hikk];omega⟩,?_⟩;conv=>whnf
   refine⟨by show(v0.wrap ((i:Int)+(k:Int))).toNat <o2.length;rw[hikk];omega,?_⟩;conv=>whnf
   refine⟨OA,?_⟩;conv=>whnf
   refine⟨(k+1,o3,c3),hinv,by show b.length+1-(k+1)<b.length+1-k;omega,?_⟩
   ((conv=>whnf);refine q9 ?_ ?_;repeat' first|refine lc ?_ ?_|refine lh1 ?_ ?_|refine bc0 ?_|exact KXZ|refine lg0 ?_|refine lt0 ?_)
   .exact ai0 (((congrArg (fun z:Int=>z.fdiv 4294967296) hsum).trans e2).trans hc3.symm)
   .exact ai0 (by rw[wI OD];simp only;omega)
   .exact bb0 (by
     show w7 o2 (v0.wrap ((i:Int)+(k:Int))).toNat (v3.wrap _)=o3;rw[ho3,hikk,q4,<-e1,<-e3,<-hsum])
  .have h3:c=0:=by
    have h3:¬c>0:=Z1 h3;omega
   have he:=hend h2 h3;rw[<-he]at hi4 hnx;conv=>whnf
   refine⟨(i+1,o2),⟨OD,hk2,hk3,hi4,hnx⟩,by show a.length-(i+1)<a.length-i;omega,?_⟩;exact KZ0
 .have hi:i=a.length:=by simp only[Z3]at h1;omega
  subst hi;rw[qF O]at hi4;simp only[zlu]at hi4;subst hi4;conv=>whnf
  refine gYn h331 ?_;exact⟨lr rfl,lh0⟩
theorem lo_or{x r o:Nat}(hr:r<32)(ho:o<2^r):o|||(x*2^r % 4294967296)=o+x*2^r % 4294967296/\o+x*2^r % 4294967296<4294967296:=by
 have e:(4294967296:Nat)=2^r*2^(32-r):=by rw[<-qQ,(O:r+(32-r)=32)]
 have h1:x*2^r % 4294967296=2^r*(x % 2^(32-r)):=by rw[e,qS x,Nat.mul_mod_mul_left]
 have h2:x % 2^(32-r)+1<=2^(32-r):=wG _ (q8 _);have h3:=w3 (2^r) h2;rw[<-e,qJ,w9]at h3;rw[h1];constructor
 .rw[Nat.or_comm,<-Nat.two_pow_add_eq_or_of_lt ho,wW]
 .omega
theorem zzq{B KP IP P vo v1 v2 vt s o:Nat}(hP:P=KP*IP)(h0:vo=KP*vt)(h1:v1+P*o=vo+P*(o+s % B))(h2:v2=v1+P*B*(s/B)):v2=KP*vt+KP*(IP*s):=by
 have hmd:=w2 s B;have q:P*(s % B)+P*B*(s/B)=P*s:=by
  conv=>rhs;rw[<-hmd]
  rw[qJ,qG,wW]
 rw[<-qG,<-hP];rw[qJ]at h1;omega
theorem qi5{x:Nat}(hx:x<4294967296)(r:Nat):x*2^r/4294967296<2^r:=by
 have hp:=q8 r;generalize 2^r=p at*;exact(wD OA).2 (by rw[qS p];exact w5 hx hp)
theorem zus{out t:List Int}{K i r x o:Nat}(_:LB out)(hi3:out.length=K+t.length+1)(hi:i<t.length)(hxa:t[i]? =some (x:Int))(hi4:val out=4294967296^K*(val (t.take i)*2^r))(ho:out[K+i]?.getD 0=(o:Int))(hz:out[K+i+1]?.getD 0=0):
 val ((out.set (K+i) ((o+x*2^r % 4294967296:Nat):Int)).set (K+i+1) ((x*2^r/4294967296:Nat):Int))=4294967296^K*(val (t.take (i+1))*2^r):=by
 have hvt:val (t.take (i+1))=val (t.take i)+4294967296^i*x:=by rw[kb,hxa,jD,q4]
 rw[hvt,Nat.add_mul,qJ,qG (4294967296^i)];generalize x*2^r=s at*;have hv1:=uc out (K+i) ((o+s % 4294967296:Nat):Int) O;have hv2:=uc (out.set (K+i) ((o+s % 4294967296:Nat):Int)) (K+i+1) ((s/4294967296:Nat):Int) (by rw[qI];omega);rw[qD O,hz,q4,qW,wJ,qU,w4]at hv2;rw[ho,q4,q4]at hv1;exact zzq (qQ _ _ _) hi4 hv1 hv2
theorem qjk{a:List Int}(ha:LB a)(hal:a.length<=100000)(n:Nat)(hn:n<=100000):Fn 364 [] [.sl .u32 a,.int .i64 n] (.sl .u32 (toL (val a*2^n))) []:=by
 have h331:=zyw ha O;have hll:(toL (val a)).length <=100000:=qN (zg6 ha) hal;have hlb:=zm (val a);have htv:=zk (val a);generalize val a=X at*;generalize toL X=t at*;have hq:v0.wrap ((n:Int).tdiv 32)=((n/32:Nat):Int):=by
  rw[show(n:Int).tdiv 32=((n/32:Nat):Int)from qT n 32,wI O]
 have h9:(n:Int).tmod 32=((n % 32:Nat):Int):=qP n 32;have hr:n % 32<32:=wG _ OA;have hkr:32*(n/32)+n % 32=n:=O;have hk:n/32<=3125:=O;have hpn:2^n=2^(32*(n/32))*2^(n % 32):=by rw[<-qQ,hkr]
 rw[hpn];generalize hK:n/32=K at*;generalize hR:n % 32=r at*;have hp31:2^r<=2147483648:=qO (n:=2) OA (O:r<=31);refine fY6 Tryz.func364 rfl ?_;refine gYn h331 ?_;refine⟨O,?_⟩;conv=>whnf
 rw[hq,wI (x:=((K:Nat):Int)+(t.length:Int)) O,wI (x:=((K:Nat):Int)+(t.length:Int)+1) O];refine⟨⟨O,O,O⟩,?_⟩;conv=>whnf
 refine⟨Nat×List Int,fun z=>z.1<=t.length/\LB z.2/\z.2.length=K+t.length+1/\val z.2=4294967296^K*(val (t.take z.1)*2^r)/\(z.2[K+z.1]?.getD 0).toNat <2^r/\(∀j,K+z.1<j->z.2[j]?.getD 0=0),fun z=> [(6,.int .i64 z.1)],fun z=> [(16,.buf 108 .u32 z.2)],fun z=>t.length-z.1,(0,qA (K+t.length+1) 0),⟨OC,(fun z hz=>by rw[qH hz];omega),OC,by rw[za1];simp[val],by simp only[qE];split<;>simp[q8],fun j _=>by
  simp only[qE];split<;>rfl⟩,?_,fun z hz=>?_⟩
 .exact KZ0
 obtain⟨i,out⟩:=z;obtain⟨hi1,hi2,hi3,hi4,hi5,hi6⟩:=hz;simp only at hi1 hi2 hi3 hi4 hi5 hi6;refine gYe ?_;refine brI (fun h1=>?_) (fun h1=>?_)
 .have hi:i<t.length:=by simp only[Z2]at h1;omega
  have hxa:t[i]? =some t[i]:=q0 hi;have hxb:=hlb _ (qn hi);generalize t[i]=x at hxa hxb;obtain⟨x,rfl⟩:=ws hxb.1;have hx:x<4294967296:=O;have hgo:out[K+i]? =some (out[K+i]?.getD 0):=by rw[q0 O];rfl
  have hob:=hi2.at (K+i);obtain⟨o,ho⟩:∃o:Nat,out[K+i]?.getD 0=(o:Int):=⟨_,(Int.toNat_of_nonneg hob.1).symm⟩;have ho2:o<2^r:=by rw[ho,q4]at hi5;exact hi5
  obtain⟨l1,l2⟩:=lo_or (x:=x) hr ho2;have hs2:x*2^r<4294967296*2^r:=w5 hx (q8 _);have es:wZ.wrap (((x:Nat):Int)*2^min ((n:Int).tmod 32).toNat wZ.bits)=((x*2^r:Nat):Int):=by
   have e1:min ((n:Int).tmod 32).toNat wZ.bits=r:=by rw[h9];show min ((r:Nat):Int).toNat 64=r;omega
   rw[e1,show((x:Nat):Int)*2^r=((x*2^r:Nat):Int) by simp,wU O]
  have hhi:=qi5 hx r;have hor:v3.wrap ((q3 v3.bits (o:Int)|||q3 v3.bits (v3.wrap (wZ.wrap ((q3 wZ.bits (wZ.wrap (((x:Nat):Int)*2^min ((n:Int).tmod 32).toNat wZ.bits))&&& q3 wZ.bits 4294967295).toNat :Int)))).toNat :Int)=((o+x*2^r % 4294967296:Nat):Int):=by
   rw[es,loB O];have h:=qhz o (x*2^r % 4294967296) O (wG _ OA);rw[l1]at h;exact h
  have hval:=zus hi2 hi3 hi hxa hi4 ho (hi6 _ (jC _));have hik:v0.wrap ((i:Int)+((K:Nat):Int))=((K+i:Nat):Int):=by rw[wI O];omega
  have hik1:v0.wrap (((K+i:Nat):Int)+1)=((K+i+1:Nat):Int):=by rw[wI O];omega
  conv=>whnf
  refine⟨⟨O,OD⟩,fun(z:Int)hz=>?_⟩;have hz:t[i]? =some z:=by simpa using hz
  rw[hxa]at hz;cases hz
  conv=>whnf
  refine⟨O,?_⟩;conv=>whnf
  refine⟨by rw[h9];omega,?_⟩;conv=>whnf
  rw[hq,wU (x:=((x:Nat):Int)) O];refine⟨OA,?_⟩;conv=>whnf
  refine⟨OA,?_⟩;conv=>whnf
  refine⟨⟨by show 0<=v0.wrap ((i:Int)+v0.wrap ((n:Int).tdiv 32));rw[hq,hik];omega,by show v0.wrap ((i:Int)+v0.wrap ((n:Int).tdiv 32))<(out.length:Int);rw[hq,hik];omega⟩,?_⟩;conv=>whnf
  refine⟨by show(v0.wrap ((i:Int)+v0.wrap ((n:Int).tdiv 32))).toNat <out.length;rw[hq,hik];omega,fun(q:Int)hq2=>?_⟩;have hq2:out[K+i]? =some q:=by
   have hq2:out[(v0.wrap ((i:Int)+v0.wrap ((n:Int).tdiv 32))).toNat]? =some q:=hq2
   rwa [hq,hik,q4]at hq2
  rw[hgo,ho]at hq2;cases hq2
  conv=>whnf
  refine⟨⟨by show 0<=v0.wrap ((i:Int)+((K:Nat):Int));rw[hik];omega,by show v0.wrap ((i:Int)+((K:Nat):Int))<(out.length:Int);rw[hik];omega⟩,?_⟩;conv=>whnf
  refine⟨by show(v0.wrap ((i:Int)+((K:Nat):Int))).toNat <out.length;rw[hik];omega,?_⟩;conv=>whnf
  refine⟨OA,?_⟩;conv=>whnf
  refine⟨OA,?_⟩;conv=>whnf
  rw[hor];refine⟨⟨by show 0<=v0.wrap (v0.wrap ((i:Int)+v0.wrap ((n:Int).tdiv 32))+1);rw[hq,hik,hik1];omega,by show v0.wrap (v0.wrap ((i:Int)+v0.wrap ((n:Int).tdiv 32))+1)<((w7 out _ _).length :Int);rw[hq,hik,hik1,qI];omega⟩,?_⟩;conv=>whnf
  refine⟨by show(v0.wrap (v0.wrap ((i:Int)+v0.wrap ((n:Int).tdiv 32))+1)).toNat <(w7 out _ _).length;rw[hq,hik,hik1,qI];omega,?_⟩;conv=>whnf
  refine⟨(i+1,(out.set (K+i) ((o+x*2^r % 4294967296:Nat):Int)).set (K+i+1) ((x*2^r/4294967296:Nat):Int)),⟨OD,(hi2.set ⟨O,O⟩).set ⟨O,O⟩,by simp only[qI];exact hi3,hval,?_,fun j hj=>?_⟩,by show t.length-(i+1)<t.length-i;omega,?_⟩
  .simp only;rw[(O:K+(i+1)=K+i+1),wt (by rw[qI];omega),jD,q4];exact hhi
  .simp only at hj⊢;rw[qD O,qD O];exact hi6 j O
  ((conv=>whnf);refine q9 ?_ ?_;repeat' first|refine lc ?_ ?_|refine lh1 ?_ ?_|refine bc0 ?_|exact KXZ|refine lg0 ?_|refine lt0 ?_)
  .exact ai0 (by rw[wI OD];simp only;omega)
  .exact bb0 (by
    show w7 (w7 out (v0.wrap ((i:Int)+((K:Nat):Int))).toNat ((o+x*2^r % 4294967296:Nat):Int)) (v0.wrap (v0.wrap ((i:Int)+v0.wrap ((n:Int).tdiv 32))+1)).toNat (v3.wrap ((wZ.wrap (((x:Nat):Int)*2^min ((n:Int).tmod 32).toNat wZ.bits)).fdiv 4294967296))=_;rw[hq,hik,hik1,q4,q4,es,fdB,zsp O])
 .have hi:i=t.length:=by simp only[Z3]at h1;omega
  subst hi;rw[qR,htv]at hi4;have hB:(4294967296:Nat)^K=2^(32*K):=by rw[wY]
  have h2:=zyw hi2 O;rw[hi4,hB,show 2^(32*K)*(X*2^r)=X*(2^(32*K)*2^r) by rw[<-qG,qS (2^(32*K)) X,qG]]at h2;conv=>whnf
  refine gYn h2 ?_;exact⟨lr rfl,lh0⟩
theorem r329(p:Int):Fn 145 [] [.int .i64 p] (.bool (decide (8<=p/\p<=512))) []:=by
 refine fY6 Tryz.func145 rfl ?_;refine brI (fun h=>?_) (fun h=>?_)
 .have h:p≥8:=Z0 h;conv=>whnf
  exact⟨ab0 (decide_eq_decide.2 O),lh0⟩
 .have h:¬p≥8:=Z1 h;rw[Z7 (O:¬(8<=p/\p<=512))];conv=>whnf
  exact⟨lr rfl,lh0⟩
def ftR(a b:Dy)(p:Int):Int:=if vB a=true/\vB b=true then(if 8<=p/\p<=512 then 0 else 2)else 1
theorem qjl(a b:Dy)(ha:LB a.m)(hb:LB b.m)(hal:a.m.length<=1000000)(hbl:b.m.length<=1000000)(p:Int):Fn 222 [] [.agg (dyC a),.agg (dyC b),.int .i64 p] (.int .i64 (ftR a b p)) []:=by
 have h1:=r174 a ha O;have h2:=r174 b hb O;have h3:=r329 p;unfold ftR;generalize vB a=A at*;generalize vB b=B at*;by_cases hp:8<=p/\p<=512
 .rw[Z6 hp]at h3;rw[Z4 hp];cases A<;>cases B<;>
  .refine fY6 Tryz.func222 rfl ?_;refine gYn h1 ?_
   first
    |exact⟨lr rfl,lh0⟩
    |(refine gZn h2 ?_
      conv=>whnf
      first
       |exact⟨lr rfl,lh0⟩
       |(refine gZn h3 ?_
         conv=>whnf
         exact⟨lr rfl,lh0⟩))
 .rw[Z7 hp]at h3;rw[Z5 hp];cases A<;>cases B<;>
  .refine fY6 Tryz.func222 rfl ?_;refine gYn h1 ?_
   first
    |exact⟨lr rfl,lh0⟩
    |(refine gZn h2 ?_
      conv=>whnf
      first
       |exact⟨lr rfl,lh0⟩
       |(refine gZn h3 ?_
         conv=>whnf
         exact⟨lr rfl,lh0⟩))
theorem r336(neg:Bool)(p:Nat)(hp:8<=p/\p<=512):Fn 369 [] [.bool neg,.int .i64 p] (.agg (dyC (cnN neg (2^p-1) (16384-p)))) []:=by
 have lb1:LB [1]:=fun z hz=>by
  have:z=1:=by simpa using hz
  omega
 have hv1:val [1]=1:=rfl;have h1:=qjk lb1 OC p O;rw[hv1,Nat.one_mul]at h1;have hl:(toL (2^p)).length <=100:=(zx _ 100).2 (by have:=wv.2 (Nat.pow_lt_pow_right (a:=2) OA (jC p));omega);have hpos:=q8 p;have h2:=r341 (zm (2^p)) lb1 O OC (by rw[hv1,zk];omega) (by
  have:(toL (2^p)).length ≠0:=by rw[Ne,jf];omega
  simp;omega)
 rw[hv1,zk]at h2;have h3:=qe7 neg (zm (2^p-1)) (qN (kf (Nat.sub_le _ _) hl) O) (16384-p) O;rw[zk]at h3;generalize toL (2^p-1)=L2 at*;generalize toL (2^p)=L1 at*;generalize cnN neg (2^p-1) (16384-p)=R at*;refine fY6 Tryz.func369 rfl ?_;refine gYn h1 ?_;refine gYn h2 ?_;rw[wI O];refine gYn h3 ?_;exact⟨lr rfl,lh0⟩
def kR(m:Nat)(e p:Int):Nat:=(max (max ((bl m:Int)-p) (-16384-e)) 0).toNat
def moR(m:Nat)(e p:Int)(more:Bool):Bool:=more||decide (m % 2^kR m e p≠0)
def quR(neg:Bool)(m:Nat)(e p:Int)(more up:Bool):Nat:=if(moR m e p more&&(neg != up))=true then m/2^kR m e p+1 else m/2^kR m e p
def ziy(neg:Bool)(m:Nat)(e:Int)(more:Bool)(p:Nat)(up:Bool):Dy×Int:=
 if 0<bl (quR neg m e p more up)/\16384<(bl (quR neg m e p more up):Int)+e+kR m e p then(if(neg != up)=true then(d0,9)else(cnN neg (2^p-1) (16384-p),0))
 else(cnN neg (quR neg m e p more up) (e+kR m e p),0)
theorem qfe(m k:Nat):(uf (m/2^k*2^k) m != 0)=decide (m % 2^k≠0):=by
 rw[zlj];refine decide_eq_decide.2 ?_;have:=w2 m (2^k);rw[qS]at this;omega
noncomputable def qg0:Code:=Tryz.f304.body.getD .skip
theorem r305(neg:Bool){l:List Int}(hb:LB l)(hl:l.length<=3000)(e:Int)(he: -80000<=e/\e<=100000)(more:Bool)(p:Nat)(hp:8<=p/\p<=512)(up:Bool):
 Fn 304 [] [.bool neg,.sl .u32 l,.int .i64 e,.bool more,.int .i64 p,.bool up] (dyV (ziy neg (val l) e more p up)) []:=by
 have h331:=zyw hb O;have hll:(toL (val l)).length <=3000:=qN (zg6 hb) hl;generalize val l=m at*;have hbm:bl m<=32*3000:=(zx _ _).1 hll;have h302:=qcp (zm m) O;rw[zk]at h302;have hkd:((kR m e p:Nat):Int)=max (max ((bl m:Int)-p) (-16384-e)) 0:=by unfold kR;omega
 have hkb:kR m e p<=96000:=O;have h334:=r334 (zm m) O (kR m e p) O;rw[zk]at h334;have hK:(if(0:Int)>(if v0.wrap (-16384-e)>v0.wrap ((bl m:Nat)-(p:Int))then v0.wrap (-16384-e)else v0.wrap ((bl m:Nat)-(p:Int)))then 0 else(if v0.wrap (-16384-e)>v0.wrap ((bl m:Nat)-(p:Int))then v0.wrap (-16384-e)else v0.wrap ((bl m:Nat)-(p:Int))))=((kR m e p:Nat):Int):=by
  rw[wI (x:= -16384-e) O,wI (x:=((bl m:Nat):Int)-(p:Int)) O,hkd];split<;>(try split)<;>omega
 have hql:(toL (m/2^kR m e p)).length <=3000:=kf (wB _ _) hll;have h304:=qjk (zm (m/2^kR m e p)) O (kR m e p) O;rw[zk]at h304;have h310:=r310 (zm (m/2^kR m e p*2^kR m e p)) (zm m) (qN (kf (Nat.div_mul_le_self _ _) hll) O) O;rw[zk,zk]at h310;have hord:=qfe m (kR m e p);refine jk (code:=qg0) hT6 hmx Tryz.func304 rfl rfl (ex:= []) ?_;conv=>whnf
 refine ym hT6 hmx 6 (fun _:Unit=>⟨[.bool neg,.sl .u32 (toL m),.int .i64 e,.bool (moR m e p more),.int .i64 p,.bool up,.any,.any,.any,.any,.any,.any,.ptr 12 0,.int .i64 0,.any,.int .i64 ((kR m e p:Nat):Int),.sl .u32 (toL (m/2^kR m e p))]++zhn 57,[(12,.cells [.bool false,.nilsl,.int .i64 0])]⟩) (fun _=>Z) ?_ (fun _=>?_)
 .unfold moR;generalize uf (m/2^kR m e p*2^kR m e p) m=Oq at*;have hk0:kR m e p=0->decide (m % 2^kR m e p≠0)=false:=fun h=>by rw[h];simp;omega
  generalize decide (m % 2^kR m e p≠0)=D at*;conv=>whnf
  refine gYn h331 ?_;refine gYn h302 ?_;rw[hK];refine gYn h334 ?_;refine brI (fun h=>?_) (fun h=>?_)
  .conv=>whnf
   refine gYn h304 ?_;refine gYn h310 ?_;refine brI (fun h2=>?_) (fun h2=>?_)
   .have h2:(Oq != 0)=true:=h2;rw[hord]at h2;conv=>whnf
    refine⟨(),?_⟩
    ((conv=>whnf);refine q9 ?_ ?_;repeat' first|refine lc ?_ ?_|refine lh1 ?_ ?_|refine bc0 ?_|exact KXZ|refine lg0 ?_|refine lt0 ?_)
    all_goals exact ab0 (by rw[h2,Bool.or_true])
   .have h2:(Oq != 0)=false:=h2;rw[hord]at h2;conv=>whnf
    refine⟨(),?_⟩
    ((conv=>whnf);refine q9 ?_ ?_;repeat' first|refine lc ?_ ?_|refine lh1 ?_ ?_|refine bc0 ?_|exact KXZ|refine lg0 ?_|refine lt0 ?_)
    all_goals exact ab0 (by rw[h2,wT])
  .have h:¬((kR m e p:Nat):Int)>0:=Z1 h;have h2:=hk0 O;conv=>whnf
   refine⟨(),?_⟩
   ((conv=>whnf);refine q9 ?_ ?_;repeat' first|refine lc ?_ ?_|refine lh1 ?_ ?_|refine bc0 ?_|exact KXZ|refine lg0 ?_|refine lt0 ?_)
   all_goals exact ab0 (by rw[h2,wT])
 .have lb1:LB [1]:=fun z hz=>by
   have:z=1:=by simpa using hz
   omega
  have h335:=r335 (zm (m/2^kR m e p)) lb1 O OC;rw[zk,show val [1]=1 from rfl]at h335;have hqd:quR neg m e p more up=if(moR m e p more&&(neg != up))=true then m/2^kR m e p+1 else m/2^kR m e p:=rfl
  have hQl:(toL (quR neg m e p more up)).length <=4000:=by
   have hq0:bl (m/2^kR m e p)<=32*3000:=(zx _ _).1 hql;rw[zx];have:=zcs (m/2^kR m e p);rw[hqd];split<;>omega
  have h302':=qcp (zm (quR neg m e p more up)) O;rw[zk]at h302';have hbQ:bl (quR neg m e p more up)<=32*4000:=(zx _ _).1 hQl;have h296:=qe7 neg (zm (quR neg m e p more up)) O (e+kR m e p) O;rw[zk]at h296;have h336:=r336 neg p hp;have hcd:ziy neg m e more p up=if 0<bl (quR neg m e p more up)/\16384<(bl (quR neg m e p more up):Int)+e+kR m e p then(if(neg != up)=true then(d0,9)else(cnN neg (2^p-1) (16384-p),0))else(cnN neg (quR neg m e p more up) (e+kR m e p),0):=rfl
  rw[hcd];generalize moR m e p more=MO at*;refine ym hT6 hmx 2 (fun _:Unit=>⟨[.bool neg,.any,.int .i64 e,.any,.int .i64 p,.any,.any,.any,.any,.any,.any,.any,.ptr 12 0,.int .i64 0,.any,.int .i64 ((kR m e p:Nat):Int),.sl .u32 (toL (quR neg m e p more up)),.bool (neg != up)]++zhn 56,[(12,.cells [.bool false,.nilsl,.int .i64 0])]⟩) (fun _=>Z) ?_ (fun _=>?_)
  .generalize quR neg m e p more up=QU at*
   cases MO with
   |false=>
    have hqd:QU=m/2^kR m e p:=by rw[hqd];rfl
    conv=>whnf
    refine⟨(),?_⟩
    ((conv=>whnf);refine q9 ?_ ?_;repeat' first|refine lc ?_ ?_|refine lh1 ?_ ?_|refine bc0 ?_|exact KXZ|refine lg0 ?_|refine lt0 ?_)
    all_goals exact wb (by rw[hqd])
   |true=>
    conv=>whnf
    refine brI (fun h=>?_) (fun h=>?_)
    .have h:(neg != up)=true:=h;have hqd:QU=m/2^kR m e p+1:=by rw[hqd,h];rfl
     conv=>whnf
     refine gYn h335 ?_;refine⟨(),?_⟩
     ((conv=>whnf);refine q9 ?_ ?_;repeat' first|refine lc ?_ ?_|refine lh1 ?_ ?_|refine bc0 ?_|exact KXZ|refine lg0 ?_|refine lt0 ?_)
     all_goals exact wb (by rw[hqd])
    .have h:(neg != up)=false:=h;have hqd:QU=m/2^kR m e p:=by rw[hqd,h];rfl
     conv=>whnf
     refine⟨(),?_⟩
     ((conv=>whnf);refine q9 ?_ ?_;repeat' first|refine lc ?_ ?_|refine lh1 ?_ ?_|refine bc0 ?_|exact KXZ|refine lg0 ?_|refine lt0 ?_)
     all_goals exact wb (by rw[hqd])
  .clear hqd h335 h304 h310 hord h331 h334 h302;have hkk:kR m e p<=96000:=hkb;generalize quR neg m e p more up=QU at*;generalize kR m e p=k at*;generalize (neg != up)=OUT at*;generalize cnN neg (2^p-1) (16384-p)=GR at*;generalize cnN neg QU (e+k)=RR at*;generalize toL QU=LQ at*;generalize bl QU=B at*;have hk2:v0.wrap (e+(k:Int))=e+k:=wI O;refine xn hT6 hmx ?_;conv=>whnf
   refine gYn h302' ?_;refine brI (fun h1=>?_) (fun h1=>?_)
   .have h1:(B:Int)>0:=Z0 h1;conv=>whnf
    refine gYn h302' ?_;rw[wI (x:=(B:Int)+e) O,wI (x:=(B:Int)+e+(k:Int)) O];refine brI (fun h2=>?_) (fun h2=>?_)
    .have h2:(B:Int)+e+k>16384:=Z0 h2;rw[Z4 ⟨O,O⟩]
     cases OUT with
     |true=>
      conv=>whnf
      exact⟨lt0 (lc qaq (lc (lr rfl) ln0)),lh0⟩
     |false=>
      conv=>whnf
      refine gYn h336 ?_;exact⟨lr rfl,lh0⟩
    .have h2:¬(B:Int)+e+k>16384:=Z1 h2;rw[Z5 O];conv=>whnf
     rw[hk2];refine gYn h296 ?_;exact⟨lr rfl,lh0⟩
   .have h1:¬(B:Int)>0:=Z1 h1;rw[Z5 O];conv=>whnf
    rw[hk2];refine gYn h296 ?_;exact⟨lr rfl,lh0⟩
def qbw(d:Dy):Prop:=LB d.m/\d.m.length<=3000/\ -80000<=d.e/\d.e<=100000
theorem zml{d:Dy}(h:VD d):qbw d:=⟨h.lb,by have:=h.len;omega,by have:=h.exp;omega,by have:=h.exp;omega⟩
theorem zfv(neg:Bool){n:Nat}{e:Int}(hn:bl n<=60000)(he: -40000<=e/\e<=40000):qbw (cnN neg n e):=by
 unfold cnN;split
 .exact⟨(fun x hx=>by cases hx),OA,OA,OA⟩
 .rename_i h;have h1:=zqe h;refine⟨zm _,?_,OD,OD⟩;simp only;exact kf (wB _ _) ((zx _ _).2 O)
theorem zyl{a b:Dy}(ha:VD a)(hb:VD b):qbw (zd8 a b):=by
 unfold zd8;have ea:=ha.exp;have eb:=hb.exp;have ba:=ha.bits;have bb:=hb.bits;split
 .exact zml hb
 rename_i h1;split
 .exact zml ha
 rename_i h2;have q1:bl (nm a*2^(a.e-min a.e b.e).toNat)<=40000:=by rw[zq _ _ h1];omega
 have q2:bl (nm b*2^(b.e-min a.e b.e).toNat)<=40000:=by rw[zq _ _ h2];omega
 have hm: -40000<=min a.e b.e/\min a.e b.e<=40000:=O;generalize nm a*2^(a.e-min a.e b.e).toNat =X at*;generalize nm b*2^(b.e-min a.e b.e).toNat =Y at*;split
 .exact zfv _ (by have:=zr9 q1 q2;omega) hm
 split
 .exact zfv _ (by have:=qc (O:X-Y<=X);omega) hm
 .exact zfv _ (by have:=qc (O:Y-X<=Y);omega) hm
theorem r300{d:Dy}(h:qbw d)(p:Nat)(hp:8<=p/\p<=512)(up:Bool):Fn 223 [] [.agg (dyC d),.int .i64 p,.bool up] (dyV (ziy d.neg (nm d) d.e false p up)) []:=by
 have h305:=r305 d.neg h.1 h.2.1 d.e h.2.2 false p hp up;have h305:Fn 304 [] [.bool d.neg,.sl .u32 d.m,.int .i64 d.e,.bool false,.int .i64 p,.bool up] (dyV (ziy d.neg (nm d) d.e false p up)) []:=h305;generalize ziy d.neg (nm d) d.e false p up=R at*;obtain⟨s,m,e⟩:=d;obtain⟨⟨r1,r2,r3⟩,r4⟩:=R;refine fY6 Tryz.func223 rfl ?_;refine gYn h305 ?_;exact⟨lr rfl,lh0⟩
theorem r308{d:Dy}(h:VD d)(p:Nat)(hp:8<=p/\p<=512)(up:Bool):Fn 389 [] [.agg (dyC d),.int .i64 p,.bool up] (dyV (ziy d.neg (nm d) d.e false p up)) []:=by
 have hl:=h.len;have h299:=qjl d d h.lb h.lb O O p;rw[show ftR d d p=0 by unfold ftR;rw[Z4 ⟨(kw h.lb).2 h,(kw h.lb).2 h⟩,Z4 O]]at h299;have h300:=r300 (zml h) p hp up;generalize ziy d.neg (nm d) d.e false p up=R at*;obtain⟨s,m,e⟩:=d;obtain⟨⟨r1,r2,r3⟩,r4⟩:=R;refine fY6 Tryz.func389 rfl ?_;refine gYn h299 ?_;refine gYn h300 ?_;exact⟨lr rfl,lh0⟩
def zy5(a b:Dy)(p:Nat)(up:Bool):Dy×Int:=ziy (zd8 a b).neg (nm (zd8 a b)) (zd8 a b).e false p up
def qai(a b:Dy)(p:Nat)(up:Bool):Dy×Int:=ziy (cnN (a.neg != b.neg) (nm a*nm b) (a.e+b.e)).neg (nm (cnN (a.neg != b.neg) (nm a*nm b) (a.e+b.e))) (cnN (a.neg != b.neg) (nm a*nm b) (a.e+b.e)).e false p up
theorem r255{a b:Dy}(ha:VD a)(hb:VD b)(p:Nat)(hp:8<=p/\p<=512)(up:Bool):Fn 148 [] [.agg (dyC a),.agg (dyC b),.int .i64 p,.bool up] (dyV (zy5 a b p up)) []:=by
 have hla:=ha.len;have hlb:=hb.len;have h299:=qjl a b ha.lb hb.lb O O p;rw[show ftR a b p=0 by unfold ftR;rw[Z4 ⟨(kw ha.lb).2 ha,(kw hb.lb).2 hb⟩,Z4 O]]at h299;have h253:=r253 ha hb;have h300:=r300 (zyl ha hb) p hp up;unfold zy5;generalize ziy (zd8 a b).neg (nm (zd8 a b)) (zd8 a b).e false p up=R at*;generalize zd8 a b=S at*;obtain⟨⟨r1,r2,r3⟩,r4⟩:=R;refine fY6 Tryz.func148 rfl ?_;refine gYn h299 ?_;refine gYn h253 ?_;refine gYn h300 ?_;exact⟨lr rfl,lh0⟩
theorem r258{a b:Dy}(ha:VD a)(hb:VD b)(p:Nat)(hp:8<=p/\p<=512)(up:Bool):Fn 303 [] [.agg (dyC a),.agg (dyC b),.int .i64 p,.bool up] (dyV (qai a b p up)) []:=by
 have hla:=ha.len;have hlb:=hb.len;have h299:=qjl a b ha.lb hb.lb O O p;rw[show ftR a b p=0 by unfold ftR;rw[Z4 ⟨(kw ha.lb).2 ha,(kw hb.lb).2 hb⟩,Z4 O]]at h299;have h301:=r301 ha hb;have ea:=ha.exp;have eb:=hb.exp;have ba:=ha.bits;have bb:=hb.bits;have h300:=r300 (zfv (a.neg != b.neg) (n:=nm a*nm b) (e:=a.e+b.e) (by have:=xi (nm a) (nm b);omega) O) p hp up;unfold qai;generalize cnN (a.neg != b.neg) (nm a*nm b) (a.e+b.e)=S at*;generalize ziy S.neg (nm S) S.e false p up=R at*;obtain⟨⟨r1,r2,r3⟩,r4⟩:=R;refine fY6 Tryz.func303 rfl ?_;refine gYn h299 ?_;refine gYn h301 ?_;refine gYn h300 ?_;exact⟨lr rfl,lh0⟩
theorem zq3(n:Nat)(e:Int):jm (cnN false n e)=cnN true n e:=by
 unfold cnN;split
 .rfl
 .rename_i h;obtain⟨m,h1,h2⟩:=um h;have h3:n/2^tz n=m:=qB (q8 _) h1;unfold jm;rw[Z5 (by rw[xu,h3];omega)];rfl
theorem zcq(neg:Bool)(m:Nat)(e:Int)(more:Bool)(p:Nat)(up:Bool)(hm:more=true->p<bl m)(h0:m=0->e<=16384+p)(hp:8<=p/\p<=512):ziy neg m e more p up=xy neg m e more p up:=by
 have hx:(neg != up)=(up != neg):=by cases neg<;>cases up<;>rfl
 have key:∃(Q:Nat)(u:Int),zbq m e more p (up != neg)=(if 16384<(bl Q:Int)+u then(if(up != neg)=true then(d0,9)else(cnN false (2^p-1) (16384-p),0))else(cnN false Q u,0))/\
  ziy neg m e more p up=(if 16384<(bl Q:Int)+u then(if(up != neg)=true then(d0,9)else(cnN neg (2^p-1) (16384-p),0))else(cnN neg Q u,0)):=by
  refine⟨upN (jh m e more (unN m e p)) (up != neg),unN m e p,rfl,?_⟩;unfold ziy;rw[hx];by_cases hu:unN m e p<=e
  .have hb:bl m<=p:=by unfold unN at hu;omega
   have hmo:more=false:=by
    cases more with
    |false=>rfl
    |true=>have:=hm rfl;omega
   subst hmo;have hk:kR m e p=0:=by unfold kR;unfold unN at hu;omega
   have hq:quR neg m e p false up=m:=by
    have hmo:moR m e p false=false:=by unfold moR;rw[hk];simp;omega
    unfold quR;rw[hmo,qM,Z5 OC,hk];simp
   rw[hq,hk];have hF:upN (jh m e false (unN m e p)) (up != neg)=m*2^(e-unN m e p).toNat :=by
    unfold jh;rw[Z4 hu];unfold upN;simp
   rw[hF,zxv,(O:unN m e p+((e-unN m e p).toNat :Int)=e)];simp only[Int.natCast_zero,wV];by_cases hm0:m=0
   .have:=h0 hm0;subst hm0;have hbu:unN 0 e p<=16384:=by unfold unN;rw[vl];omega
    rw[wX,vl,Z5 O,Z5 O]
   .have hbp:bl m≠0:=fun c=>hm0 (uj.1 c)
    rw[zq _ _ hm0];by_cases hc:16384<(bl m:Int)+e
    .rw[Z4 ⟨O,hc⟩,Z4 (show 16384<((bl m+(e-unN m e p).toNat :Nat):Int)+unN m e p by omega)]
    .rw[Z5 O,Z5 (show ¬16384<((bl m+(e-unN m e p).toNat :Nat):Int)+unN m e p by omega)]
  .have hk:kR m e p=(unN m e p-e).toNat :=by unfold kR;unfold unN at hu⊢;omega
   have hF:upN (jh m e more (unN m e p)) (up != neg)=quR neg m e p more up:=by
    unfold jh quR moR;rw[Z5 hu,hk,hx];unfold upN;simp only[Bool.and_comm]
   rw[hF,hk,(O:e+((unN m e p-e).toNat :Int)=unN m e p)];by_cases hc:16384<(bl (quR neg m e p more up):Int)+unN m e p
   .have hpos:0<bl (quR neg m e p more up):=by
     by_cases hz:bl (quR neg m e p more up)=0
     .exfalso;rw[hz]at hc;have hub:unN m e p=e+bl m-p:=by unfold unN at hc⊢;omega
      have hq0:quR neg m e p more up=0:=uj.1 hz;have hk2:kR m e p=bl m-p:=by rw[hk];omega
      have hle:m/2^kR m e p<=quR neg m e p more up:=by unfold quR;split<;>omega
      have hm1:2^kR m e p<=m:=by
       have hmz:m≠0:=fun c=>by
        have:bl m=0:=by rw[c];rfl
        omega
       exact(xj hmz).1 O
      have:=(Nat.div_pos_iff (a:=m) (b:=2^kR m e p)).2 ⟨q8 _,hm1⟩;omega
     .omega
    rw[Z4 ⟨hpos,O⟩,Z4 hc]
   .rw[Z5 O,Z5 hc]
 obtain⟨Q,u,h1,h2⟩:=key;rw[h2];unfold xy;rw[h1];by_cases hc:16384<(bl Q:Int)+u
 .rw[Z4 hc,Z4 hc];cases hxx:(up != neg)with
  |true=>simp
  |false=>
   simp only[Bool.false_eq_true,if_false]
   cases neg with
   |true=>simp[zq3]
   |false=>simp
 .rw[Z5 hc,Z5 hc]
  cases neg with
  |true=>simp[zq3]
  |false=>simp
theorem ztj(m t:Nat)(e u:Int):jh (m*2^t) e false u=jh m (e+t) false u:=by
 unfold jh;by_cases h1:u<=e
 .rw[Z4 h1,Z4 O,qG,<-qQ,(O:t+(e-u).toNat =(e+t-u).toNat)]
 .rw[Z5 h1];by_cases h2:u<=e+t
  .rw[Z4 h2];have e1:2^t=2^(e+t-u).toNat *2^(u-e).toNat :=by rw[<-qQ];congr 1;omega
   rw[e1,<-qG,Nat.mul_div_cancel _ (q8 _),Nat.mul_mod_left];rfl
  .rw[Z5 h2];have e1:2^(u-e).toNat =2^(u-(e+t)).toNat *2^t:=by rw[<-qQ];congr 1;omega
   have hp:=q8 t;rw[e1,Nat.mul_div_mul_right _ _ hp,Nat.mul_mod_mul_right]
   congr 2
   refine decide_eq_decide.2 ?_;constructor
   .intro h c;exact h (by rw[c,wX])
   .intro h c;rcases wP.1 c with c|c
    .exact h c
    .omega
theorem zjx(neg:Bool){m:Nat}(hm:m≠0)(t:Nat)(e:Int)(p:Nat)(up:Bool):xy neg (m*2^t) e false p up=xy neg m (e+t) false p up:=by
 have hu:unN (m*2^t) e p=unN m (e+t) p:=by unfold unN;rw[zq _ _ hm];omega
 have hc:∀q,zbq (m*2^t) e false p q=zbq m (e+t) false p q:=fun q=>by
  unfold zbq;rw[hu,ztj]
 unfold xy;rw[hc]
theorem zzw(neg:Bool)(n:Nat)(e:Int)(p:Nat)(up:Bool)(he:e<=16384+p):xy (cnN neg n e).neg (nm (cnN neg n e)) (cnN neg n e).e false p up=xy neg n e false p up:=by
 by_cases h:n=0
 .subst h;rw[za5 neg e p up he];have:cnN neg 0 e=d0:=by unfold cnN;rw[Z4 rfl]
  rw[this];exact za5 false 0 p up O
 .obtain⟨m,h1,h2⟩:=um h;have h3:n/2^tz n=m:=qB (q8 _) h1;have hcn:cnN neg n e=⟨neg,toL m,e+tz n⟩:=by unfold cnN;rw[Z5 h,h3]
  rw[hcn,xu];simp only;have hn:n=m*2^tz n:=by rw[qS];exact h1
  have:=zjx neg (m:=m) O (tz n) e p up;rw[<-hn]at this;exact this.symm
theorem qii{d:Dy}(h:VD d)(h0:nm d=0):d.m= []/\d.e=0:=by
 refine VD.cases (P:=fun d=>nm d=0->d.m= []/\d.e=0) h (fun _=>⟨rfl,rfl⟩) (fun s n e hd hn _ _ _ _ c=>?_) h0;rw[xu]at c;omega
theorem zwd{a b:Dy}(ha:VD a)(hb:VD b)(p:Nat)(hp:8<=p/\p<=512)(up:Bool):qai a b p up=wz a b p up:=by
 have ea:=ha.exp;have eb:=hb.exp;unfold qai wz;by_cases hz:nm a*nm b=0
 .rw[hz];have:cnN (a.neg != b.neg) 0 (a.e+b.e)=d0:=by unfold cnN;rw[Z4 rfl]
  rw[this];have he:a.e+b.e<=16384+p:=by
   rcases wP.1 hz with h|h
   .have h1:=(qii ha h).2;omega
   .have h1:=(qii hb h).2;omega
  rw[za5 _ _ p up he];rw[zcq _ _ _ _ _ _ OC (fun _=>by show(0:Int)<=_;omega) hp];exact za5 false 0 p up O
 .have h:=zzw (a.neg != b.neg) (nm a*nm b) (a.e+b.e) p up;have hb2:=xi (nm a) (nm b);have hnz:nm (cnN (a.neg != b.neg) (nm a*nm b) (a.e+b.e))≠0:=by
   rw[zna];obtain⟨m,h1,h2⟩:=um hz;have h3:=qB (q8 _) h1;rw[h3];omega
  rw[zcq _ _ _ _ _ _ OC (fun c=>absurd c hnz) hp];obtain⟨m,h1,h2⟩:=um hz;have h3:=qB (q8 _) h1;have hcn:cnN (a.neg != b.neg) (nm a*nm b) (a.e+b.e)=⟨a.neg != b.neg,toL m,a.e+b.e+tz (nm a*nm b)⟩:=by unfold cnN;rw[Z5 hz,h3]
  rw[hcn,xu];simp only;have hn:nm a*nm b=m*2^tz (nm a*nm b):=by rw[qS m];exact h1
  have:=zjx (a.neg != b.neg) (m:=m) O (tz (nm a*nm b)) (a.e+b.e) p up;rw[<-hn]at this;exact this.symm
theorem r262(n:Int)(h: -4611686018427387904<=n/\n<=4611686018427387904):Fn 54 [] [.int .i64 n] (.agg (dyC (wl n))) []:=by
 have hv:val [((n.natAbs % 4294967296:Nat):Int),((n.natAbs/4294967296:Nat):Int)]=n.natAbs:=by
  rw[qp,qp,q4,q4];simp only[val];omega
 have hb:LB [((n.natAbs % 4294967296:Nat):Int),((n.natAbs/4294967296:Nat):Int)]:=fun z hz=>by
  simp only[List.mem_cons,List.not_mem_nil,or_false]at hz;rcases hz with rfl|rfl<;>omega
 have h296:=qe7 (decide (n<0)) hb OC 0 O;rw[hv]at h296;have h296:Fn 124 [] [.bool (decide (n<0)),.sl .u32 [((n.natAbs % 4294967296:Nat):Int),((n.natAbs/4294967296:Nat):Int)],.int .i64 0] (.agg (dyC (wl n))) []:=h296;have e1:=loB (s:=n.natAbs) O;have e3:v3.wrap (((n.natAbs:Nat):Int).fdiv (2^min (Int.toNat 32) wZ.bits))=((n.natAbs/4294967296:Nat):Int):=by
  show v3.wrap (((n.natAbs:Nat):Int).fdiv 4294967296)=_;rw[fdB,zsp O]
 generalize wl n=R at*;refine fY6 Tryz.func54 rfl ?_;refine brI (fun h1=>?_) (fun h1=>?_)
 .have h1:n<0:=Z0 h1;have ew:wZ.wrap (0-wZ.wrap n)=(n.natAbs:Int):=by
   rw[show wZ.wrap n=n+18446744073709551616 by simp[v5,v4,v6];omega];simp[v5,v4,v6];omega
  conv=>whnf
  rw[ew,e1];refine⟨OA,?_⟩;conv=>whnf
  rw[e3];refine gYn h296 ?_;exact⟨lr rfl,lh0⟩
 .have h1:¬n<0:=Z1 h1;have ew:wZ.wrap n=(n.natAbs:Int):=by
   rw[wU O];omega
  conv=>whnf
  rw[ew,e1];refine⟨OA,?_⟩;conv=>whnf
  rw[e3];refine gYn h296 ?_;exact⟨lr rfl,lh0⟩
theorem r173(d:Dy):Fn 157 [] [.agg (dyC d)] (.bool (zrB d)) []:=by
 obtain⟨R,hR⟩:∃R,zrB d=R:=⟨_,rfl⟩;rw[hR];unfold zrB at hR;obtain⟨d1,d2,d3⟩:=d;simp only at hR;show Fn 157 [] [.agg [.bool d1,.sl .u32 d2,.int .i64 d3]] _ [];refine fY6 Tryz.func157 rfl ?_
 cases d1 with
 |true=>
  conv=>whnf
  exact⟨ab0 hR,lh0⟩
 |false=>
  conv=>whnf
  refine brI (fun h1=>?_) (fun h1=>?_)
  .have h2:d2.length=0:=by have h1:((d2.length:Int)==0)=true:=h1;rw[beq_iff_eq]at h1;omega
   rw[Z6 h2]at hR;conv=>whnf
   exact⟨ab0 (by rw[<-hR];simp;rw[wC];simp),lh0⟩
  .have h2:¬d2.length=0:=by have h1:((d2.length:Int)==0)=false:=h1;rw[beq_eq_false_iff_ne]at h1;omega
   rw[Z7 h2]at hR;conv=>whnf
   exact⟨ab0 (by rw[<-hR];simp),lh0⟩
theorem r108(x:Iv)(h:RI x):Fn 74 [] [.agg (ivC x)] (.bool (viB x)) []:=by
 have hlo:=r174 x.lo h.lo h.l1;have hhi:=r174 x.hi h.hi h.l2;have zlo:=r173 x.lo;have zhi:=r173 x.hi;have hc:vB x.lo=true->vB x.hi=true->Fn 52 [] [.agg (dyC x.lo),.agg (dyC x.hi)] (.int .i64 (qo x.lo x.hi)) []:=fun h1 h2=>r175 ((kw h.lo).1 h1) ((kw h.hi).1 h2)
 obtain⟨R,hR⟩:∃R,viB x=R:=⟨_,rfl⟩;rw[hR];unfold viB at hR;generalize vB x.lo=a at*;generalize vB x.hi=b at*;generalize zrB x.lo=c at*;generalize zrB x.hi=d at*;generalize qo x.lo x.hi=C at*;clear h;obtain⟨⟨x1,x2,x3⟩,⟨x4,x5,x6⟩,x7⟩:=x;simp only at hR;have hlo:Fn 25 [] [.agg [.bool x1,.sl .u32 x2,.int .i64 x3]] (.bool a) []:=hlo;have hhi:Fn 25 [] [.agg [.bool x4,.sl .u32 x5,.int .i64 x6]] (.bool b) []:=hhi;have zlo:Fn 157 [] [.agg [.bool x1,.sl .u32 x2,.int .i64 x3]] (.bool c) []:=zlo;have zhi:Fn 157 [] [.agg [.bool x4,.sl .u32 x5,.int .i64 x6]] (.bool d) []:=zhi;have hc:a=true->b=true->Fn 52 [] [.agg [.bool x1,.sl .u32 x2,.int .i64 x3],.agg [.bool x4,.sl .u32 x5,.int .i64 x6]] (.int .i64 C) []:=hc;show Fn 74 [] [.agg [.bool x1,.sl .u32 x2,.int .i64 x3,.bool x4,.sl .u32 x5,.int .i64 x6,.bool x7]] _ [];refine fY6 Tryz.func74 rfl ?_
 cases x7 with
 |true=>
  rw[Z4 rfl]at hR
  cases c with
  |false=>
   conv=>whnf
   refine gYn zlo ?_;exact⟨ab0 hR,lh0⟩
  |true=>
   conv=>whnf
   refine gYn zlo ?_;refine gYn zhi ?_;exact⟨ab0 (by rw[<-hR,we]),lh0⟩
 |false=>
  rw[Z5 OC]at hR
  cases a with
  |false=>
   conv=>whnf
   refine gYn hlo ?_;exact⟨ab0 (by rw[<-hR];rfl),lh0⟩
  |true=>
   cases b with
   |false=>
    conv=>whnf
    refine gYn hlo ?_;refine gYn hhi ?_;exact⟨ab0 (by rw[<-hR];rfl),lh0⟩
   |true=>
    conv=>whnf
    refine gYn hlo ?_;refine gYn hhi ?_;refine gYn (hc rfl rfl) ?_;exact⟨ab0 (by rw[<-hR];rfl),lh0⟩
theorem r61:Fn 105 [] [] (.agg (ivC wI0)) []:=by
 refine fY6 Tryz.func105 rfl ?_;exact⟨leW,lh0⟩
theorem r256(a b:Dy×Int):Fn 149 [] [.agg (dyC a.1),.int .i64 a.2,.agg (dyC b.1),.int .i64 b.2] (.agg (ivC (vh a b))) []:=by
 obtain⟨R,hR⟩:∃R,vh a b=R:=⟨_,rfl⟩;rw[hR];unfold vh at hR;have h25:=r61;have e25:ivC wI0= [.bool false,.sl .u32 [],.int .i64 0,.bool false,.sl .u32 [],.int .i64 0,.bool true]:=rfl;rw[e25]at h25;obtain⟨⟨a1,a2,a3⟩,e⟩:=a;obtain⟨⟨b1,b2,b3⟩,f⟩:=b;simp only at hR;show Fn 149 [] [.agg [.bool a1,.sl .u32 a2,.int .i64 a3],.int .i64 e,.agg [.bool b1,.sl .u32 b2,.int .i64 b3],.int .i64 f] _ [];refine fY6 Tryz.func149 rfl ?_;refine brI (fun h1=>?_) (fun h1=>?_)
 .have h1:e≠0:=by simpa using h1
  rw[Z4 (.inl h1)]at hR;subst hR;conv=>whnf
  refine gYn h25 ?_;exact⟨lr rfl,lh0⟩
 have h1:e=0:=by simpa using h1
 conv=>whnf
 refine brI (fun h2=>?_) (fun h2=>?_)
 .have h2:f≠0:=by simpa using h2
  rw[Z4 (.inr h2)]at hR;subst hR;conv=>whnf
  refine gYn h25 ?_;exact⟨lr rfl,lh0⟩
 have h2:f=0:=by simpa using h2
 rw[Z5 (by simp[h1,h2])]at hR;subst hR;conv=>whnf
 exact⟨lr rfl,lh0⟩
theorem zyx(x:Iv)(h:RI x):Fn 147 [] [.agg (ivC x)] (.bool (kB x)) []:=by
 have h1:=r108 x h;obtain⟨R,hR⟩:∃R,kB x=R:=⟨_,rfl⟩;rw[hR];unfold kB at hR;generalize viB x=V at*;clear h;obtain⟨⟨x1,x2,x3⟩,⟨x4,x5,x6⟩,x7⟩:=x;simp only at hR;have h1:Fn 74 [] [.agg [.bool x1,.sl .u32 x2,.int .i64 x3,.bool x4,.sl .u32 x5,.int .i64 x6,.bool x7]] (.bool V) []:=h1;show Fn 147 [] [.agg [.bool x1,.sl .u32 x2,.int .i64 x3,.bool x4,.sl .u32 x5,.int .i64 x6,.bool x7]] _ [];refine fY6 Tryz.func147 rfl ?_
 cases V with
 |false=>
  refine gYn h1 ?_;exact⟨ab0 (by rw[<-hR,wR]),lh0⟩
 |true=>
  refine gYn h1 ?_;exact⟨ab0 (by rw[<-hR,wS]),lh0⟩
theorem r180(x:Iv)(h:RI x):Fn 276 [] [.agg (ivC x)] (.agg (ivC (zd1 x))) []:=by
 have h161:=zyx x h;have h61:=r61;by_cases hk:kB x=true
 .have k:=(zp h).1 hk;have hR:zd1 x=⟨jm x.hi,jm x.lo,false⟩:=by unfold zd1;rw[Z4 hk]
  rw[hR];rw[hk]at h161;have n1:=zz4 k.lo;have n2:=zz4 k.hi;generalize jm x.lo=a at*;generalize jm x.hi=b at*;clear hR k hk h;refine fY6 Tryz.func276 rfl ?_;refine gYn h161 ?_;refine gYn n2 ?_;refine gYn n1 ?_;refine gYd ?_;exact⟨lr rfl,lh0⟩
 .have hR:zd1 x=wI0:=by unfold zd1;rw[Z5 hk]
  rw[hR];rw[show kB x=false by simpa using hk]at h161;clear hR hk h;refine fY6 Tryz.func276 rfl ?_;refine gYn h161 ?_;refine gYn h61 ?_;exact⟨lr rfl,lh0⟩
theorem r259(x:Iv)(h:RI x):Fn 300 [] [.agg (ivC x)] (.int .i64 (zdr x)) []:=by
 have h161:=zyx x h;by_cases hk:kB x=true
 .have k:=(zp h).1 hk;rw[hk]at h161;have s1:=qe8 x.lo;have s2:=qe8 x.hi;rw[zjv k.lo]at s1;rw[zjv k.hi]at s2;obtain⟨S,hS⟩:∃S,zdr x=S:=⟨_,rfl⟩;rw[hS];unfold zdr at hS;rw[Z4 hk]at hS;generalize vg x.lo=a at*;generalize vg x.hi=b at*;clear k hk h;refine fY6 Tryz.func300 rfl ?_;refine gYn h161 ?_;refine gYn s1 ?_;refine brI (fun h1=>?_) (fun h1=>?_)
  .have h1:a>0:=Z0 h1;rw[Z4 h1]at hS;subst hS;conv=>whnf
   exact⟨lr rfl,lh0⟩
  .have h1:¬a>0:=Z1 h1;rw[Z5 h1]at hS;conv=>whnf
   refine gYn s2 ?_;refine brI (fun h2=>?_) (fun h2=>?_)
   .have h2:b<0:=Z0 h2;rw[Z4 h2]at hS;subst hS;conv=>whnf
    exact⟨lr rfl,lh0⟩
   .have h2:¬b<0:=Z1 h2;rw[Z5 h2]at hS;subst hS;conv=>whnf
    exact⟨lr rfl,lh0⟩
 .have hS:zdr x=0:=by unfold zdr;rw[Z5 hk]
  rw[hS];rw[show kB x=false by simpa using hk]at h161;clear hS hk h;refine fY6 Tryz.func300 rfl ?_;refine gYn h161 ?_;exact⟨lr rfl,lh0⟩
theorem r60(p:Int):Fn 104 [] [.int .i64 p] (.bool (pcB p)) []:=by
 refine fY6 Tryz.func104 rfl ?_;refine brI (fun h=>?_) (fun h=>?_)
 .have h:p≥8:=Z0 h;conv=>whnf
  exact⟨ab0 (by unfold pcB;rw[Z6 (O:8<=p),we]),lh0⟩
 .have h:¬p≥8:=Z1 h;rw[show pcB p=false by unfold pcB;rw[Z7 (O:¬8<=p),qM]];conv=>whnf
  exact⟨lr rfl,lh0⟩
def zpz(x y:Iv)(p:Int):Iv:=if pcB p=true/\kB x=true/\kB y=true then vh (zy5 x.lo y.lo p.toNat false) (zy5 x.hi y.hi p.toNat true)else wI0
theorem r176(x y:Iv)(hx:RI x)(hy:RI y)(p:Int):Fn 63 [] [.agg (ivC x),.agg (ivC y),.int .i64 p] (.agg (ivC (zpz x y p))) []:=by
 have h60:=r60 p;have h1:=zyx x hx;have h2:=zyx y hy;have h61:=r61;obtain⟨R,hR⟩:∃R,zpz x y p=R:=⟨_,rfl⟩;rw[hR];unfold zpz at hR
 cases hp:pcB p with
 |false=>
  rw[hp]at h60;rw[Z5 (by rw[hp];simp)]at hR;subst hR;refine fY6 Tryz.func63 rfl ?_;refine gYn h60 ?_;refine gYn h61 ?_;exact⟨lr rfl,lh0⟩
 |true=>
 rw[hp]at h60
 cases hkx:kB x with
 |false=>
  rw[hkx]at h1;rw[Z5 (by rw[hkx];simp)]at hR;subst hR;refine fY6 Tryz.func63 rfl ?_;refine gYn h60 ?_;refine gYn h1 ?_;refine gYn h61 ?_;exact⟨lr rfl,lh0⟩
 |true=>
 rw[hkx]at h1
 cases hky:kB y with
 |false=>
  rw[hky]at h2;rw[Z5 (by rw[hky];simp)]at hR;subst hR;refine fY6 Tryz.func63 rfl ?_;refine gYn h60 ?_;refine gYn h1 ?_;refine gYn h2 ?_;refine gYn h61 ?_;exact⟨lr rfl,lh0⟩
 |true=>
 rw[hky]at h2;rw[Z4 ⟨hp,hkx,hky⟩]at hR;have kx:=(zp hx).1 hkx;have ky:=(zp hy).1 hky;have hpn:8<=p.toNat/\p.toNat<=512:=qk hp;have a1:=r255 kx.lo ky.lo p.toNat hpn false;have a2:=r255 kx.hi ky.hi p.toNat hpn true;rw[show((p.toNat:Nat):Int)=p by omega]at a1 a2;have h256:=r256 (zy5 x.lo y.lo p.toNat false) (zy5 x.hi y.hi p.toNat true);rw[hR]at h256;generalize zy5 x.lo y.lo p.toNat false=A1 at*;generalize zy5 x.hi y.hi p.toNat true=A2 at*;clear hR kx ky hx hy hpn;refine fY6 Tryz.func63 rfl ?_;refine gYn h60 ?_;refine gYn h1 ?_;refine gYn h2 ?_;refine gYn a1 ?_;refine gYn a2 ?_;refine gYn h256 ?_;exact⟨lr rfl,lh0⟩
theorem r177(x y:Iv)(hx:RI x)(hy:RI y)(p:Int):Fn 221 [] [.agg (ivC x),.agg (ivC y),.int .i64 p] (.agg (ivC (zpz x (zd1 y) p))) []:=by
 have h1:=r180 y hy;have h2:=r176 x (zd1 y) hx (qdu hy).ri p;generalize zpz x (zd1 y) p=R at*;generalize zd1 y=N at*;refine fY6 Tryz.func221 rfl ?_;refine gYn h1 ?_;refine gYn h2 ?_;refine gYd ?_;exact⟨lr rfl,lh0⟩
def zpa(a b:Dy):Dy:=if qo a b<=0 then a else b
def zlt(a b:Dy):Dy:=if 0<=qo a b then a else b
theorem r162{a b:Dy}(ha:VD a)(hb:VD b):Fn 76 [] [.agg (dyC a),.agg (dyC b)] (.agg (dyC (zpa a b))) []:=by
 have h:=r175 ha hb;unfold zpa;generalize qo a b=C at*;refine fY6 Tryz.func76 rfl ?_;refine gYn h ?_;refine brI (fun c=>?_) (fun c=>?_)
 .have c:C<=0:=Z0 c;rw[Z4 c];conv=>whnf
  exact⟨lr rfl,lh0⟩
 .have c:¬C<=0:=Z1 c;rw[Z5 c];conv=>whnf
  exact⟨lr rfl,lh0⟩
theorem qhx{a b:Dy}(ha:VD a)(hb:VD b):Fn 75 [] [.agg (dyC a),.agg (dyC b)] (.agg (dyC (zlt a b))) []:=by
 have h:=r175 ha hb;unfold zlt;generalize qo a b=C at*;refine fY6 Tryz.func75 rfl ?_;refine gYn h ?_;refine brI (fun c=>?_) (fun c=>?_)
 .have c:0<=C:=Z0 c;rw[Z4 c];conv=>whnf
  exact⟨lr rfl,lh0⟩
 .have c:¬0<=C:=Z1 c;rw[Z5 c];conv=>whnf
  exact⟨lr rfl,lh0⟩
def qh3(x:Iv):Dy:=zlt (jm x.lo) x.hi
def qfo(x:Iv):Dy:=if zdr x=0 then d0 else zlt x.lo (jm x.hi)
theorem r307{x:Iv}(h:KI x):Fn 116 [] [.agg (ivC x)] (.agg (dyC (qh3 x))) []:=by
 have n1:=zz4 h.lo;have m1:=qhx (ua h.lo) h.hi;unfold qh3;generalize zlt (jm x.lo) x.hi=M at*;generalize jm x.lo=N at*;clear h;refine fY6 Tryz.func116 rfl ?_;refine gYn n1 ?_;refine gYn m1 ?_;refine gYd ?_;exact⟨lr rfl,lh0⟩
theorem r306{x:Iv}(h:KI x)(hr:RI x):Fn 388 [] [.agg (ivC x)] (.agg (dyC (qfo x))) []:=by
 have n1:=zz4 h.hi;have m1:=qhx h.lo (ua h.hi);have s1:=r259 x hr;unfold qfo;generalize zlt x.lo (jm x.hi)=M at*;generalize jm x.hi=N at*;generalize zdr x=S at*;clear h hr;refine fY6 Tryz.func388 rfl ?_;refine gYn s1 ?_;refine brI (fun c=>?_) (fun c=>?_)
 .have c:S=0:=by
   have c:(S==0)=true:=c;simpa using c
  rw[Z4 c];conv=>whnf
  exact⟨qaq,lh0⟩
 .have c:¬S=0:=by
   have c:(S==0)=false:=c;simpa using c
  rw[Z5 c];conv=>whnf
  refine gYn n1 ?_;refine gYn m1 ?_;refine gYd ?_;exact⟨lr rfl,lh0⟩
def qdj(x:Iv):Iv:=if kB x=true then⟨qfo x,qh3 x,false⟩else wI0
theorem r263(x:Iv)(h:RI x):Fn 350 [] [.agg (ivC x)] (.agg (ivC (qdj x))) []:=by
 have h161:=zyx x h;have h61:=r61;by_cases hk:kB x=true
 .have k:=(zp h).1 hk;have n1:=r306 k h;have n2:=r307 k;have hR:qdj x=⟨qfo x,qh3 x,false⟩:=by unfold qdj;rw[Z4 hk]
  rw[hR];rw[hk]at h161;generalize qfo x=a at*;generalize qh3 x=b at*;clear hR k hk h;refine fY6 Tryz.func350 rfl ?_;refine gYn h161 ?_;refine gYn n1 ?_;refine gYn n2 ?_;refine gYd ?_;exact⟨lr rfl,lh0⟩
 .have hR:qdj x=wI0:=by unfold qdj;rw[Z5 hk]
  rw[hR];rw[show kB x=false by simpa using hk]at h161;clear hR hk h;refine fY6 Tryz.func350 rfl ?_;refine gYn h161 ?_;refine gYn h61 ?_;exact⟨lr rfl,lh0⟩
