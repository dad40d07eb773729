/- The reference's dyadic numbers (layer 2), at any values: bits, comparisons, signs. -/
import Derived.Test.YtbolipecnhlnnaaGreatDoorTXa
set_option linter.unusedVariables false
set_option linter.unusedSimpArgs false
open And renaming intro->q8
open BitVec renaming ofInt->q3,ofInt_natCast->qK,toNat_ofNat->qM,toNat_and->qT
open Bool renaming false_and->qG,eq_iff_iff->qZ,true_and->w5
open Int renaming fdiv_eq_ediv_of_nonneg->q4,toNat_natCast->q7,ofNat_tmod->qN,ofNat_tdiv->w0,toNat_zero->w3,pow_pos->w8,pow_nonneg->wn
open List renaming getElem?_eq_getElem->q0,take_of_length_le->q6,getElem_mem->q9,getElem?_eq_none->qA,mem_of_getElem?->qB,replicate->qD,drop_of_length_le->qE,length_cons->qH,eq_nil_of_length_eq_zero->qI,getElem?_set_ne->qL,getLast?_eq_getElem?->qP,eq_of_mem_replicate->qR,getElem?_replicate->qV,length_nil->qY,mem_of_mem_drop->w2,take_length->w7,length_set->wi
open Nat renaming and_two_pow_sub_one_eq_mod->qC,testBit_eq_decide_div_mod_eq->qF,le_refl->qJ,div_eq_of_eq_mul_right->qO,mul_add->qQ,mod_eq_of_lt->qS,add_zero->qW,pow_succ->qX,pow_le_pow_right->w1,mul_assoc->w4,le_trans->w6,two_pow_pos->w9,div_add_mod->we,mul_one->ws
open Option renaming getD_some->q5,getD_none->qU
open Go.IntKind renaming u64->wA,u32->wB,i64->wC,signed->wD,wrap->wE,bits->wF
namespace Go.Proofs.YtbolipecnhlnnaaGreatDoor
open Go Go.Sx
set_option maxRecDepth 100000
set_option maxHeartbeats 8000000
theorem qdz {l:List Int} (hb:LB l) (hl:l.length<=1000000):Fn 199 [] [.sl .u32 l] (.sl .u32 (toL (val l))) []:=by
 have:=y247 l hl
 rwa [zak hb]at this
theorem r250 (n:Nat) (hn:(toL n).length <=1000000):Fn 84 [] [.sl .u32 (toL n)] (.int .i64 (bl n:Nat)) []:=by
 have hb:=zx n;have hla:=zf4 n;generalize bl n=B at hla⊢;generalize toL n=t at hn hb hla⊢;refine fnT hT6 hmx Tryz.func84 rfl rfl (ex:= []) ?_;conv=>whnf
 refine brI (fun h1=>?_) (fun h1=>?_)
 .have h1:t= []:=by
   have h1:((t.length:Int)==0)=true:=h1;rw[beq_iff_eq]at h1;exact qI (by omega)
  subst h1;simp only[List.getLast?_nil]at hla;conv=>whnf
  exact⟨ai0 hla,lh0⟩
 .have h1:0<t.length:=by
   have h1:((t.length:Int)==0)=false:=h1;rw[beq_eq_false_iff_ne]at h1;omega
  have hw:wC.wrap ((t.length:Int)-1)=((t.length-1:Nat):Int):=by rw[wI (by omega)];omega
  conv=>whnf
  rw[hw];refine⟨⟨by omega,by omega⟩,fun x hx=>?_⟩;have hx:t[t.length-1]? =some x:=by simpa using hx
  have hg:t.getLast?=some x:=by rw[qP];exact hx
  have hxb:=hb x (qB hx);rw[hg]at hla;simp only at hla;rw[zd7 (by omega)]at hla;have hbx:bl x.toNat<=32:=ww.2 (by omega);conv=>whnf
  rw[wI (x:=32*((t.length-1:Nat):Int)) (by omega)];refine⟨Nat,fun y=>y<4294967296/\bl y<=bl x.toNat,fun y=> [(3,.int .i64 ((B:Int)-(bl y:Nat))),(4,.int .u32 y)],fun _=> [],fun y=>y,x.toNat,⟨by omega,qJ _⟩,?_,fun y hy=>?_⟩
  ·((conv=>whnf);refine q8 ?_ ?_;repeat' first|refine lc ?_ ?_|exact la0|exact lr rfl|exact ln0|refine lh1 ?_ ?_|exact lh0|exact bf0|exact bd0|refine bc0 ?_|exact bm0 rfl|exact bb0 rfl|exact bg0 rfl|exact li0 rfl|refine lg0 ?_|refine lt0 ?_|fail)
   .exact ai0 (by omega)
   .exact ai0 (by omega)
  obtain⟨hy1,hy2⟩:=hy
  (refine⟨by kernel_rfl,?_⟩;(conv=>whnf))
  refine brI (fun h2=>?_) (fun h2=>?_)
  .have h2:0<y:=by simp only[Z2]at h2;omega
   have hh:=zu7 (n:=y) (by omega);conv=>whnf
   refine⟨by decide,?_⟩;conv=>whnf
   refine⟨y/2,⟨by omega,by omega⟩,by show y/2<y;omega,?_⟩
   ((conv=>whnf);refine q8 ?_ ?_;repeat' first|refine lc ?_ ?_|exact la0|exact lr rfl|exact ln0|refine lh1 ?_ ?_|exact lh0|exact bf0|exact bd0|refine bc0 ?_|exact bm0 rfl|exact bb0 rfl|exact bg0 rfl|exact li0 rfl|refine lg0 ?_|refine lt0 ?_|fail)
   .exact ai0 (by rw[wI (by omega)];omega)
   .exact ai0 (by
     show((y:Int)).fdiv 2=_;rw[q4 _ (by decide)];omega)
  .have h2:y=0:=by simp only[Z3]at h2;omega
   subst h2;conv=>whnf
   exact⟨ai0 (by simp[kz]),lh0⟩
theorem r251 (d:Dy):Fn 119 [] [.agg (dyC d)] (.int .i64 (sgR d)) []:=by
 obtain⟨s,m,e⟩:=d;refine fnT hT6 hmx Tryz.func119 rfl rfl (ex:= []) ?_;conv=>whnf
 refine brI (fun h1=>?_) (fun h1=>?_)
 .have h1:((m.length:Int)==0)=true:=h1;rw[beq_iff_eq]at h1;conv=>whnf
  exact⟨ai0 (by unfold sgR;rw[Z4 (show m.length=0 by omega)]),lh0⟩
 .have h1:((m.length:Int)==0)=false:=h1;rw[beq_eq_false_iff_ne]at h1;have e1:sgR ⟨s,m,e⟩=if s=true then-1 else 1:=by unfold sgR;rw[Z5 (show ¬m.length=0 by omega)]
  rw[e1];cases s
  .conv=>whnf
   exact⟨ai0 rfl,lh0⟩
  .conv=>whnf
   exact⟨ai0 rfl,lh0⟩
theorem r168 (x y:Nat) (hal:(toL x).length <=1000000) (hbl:(toL y).length <=1000000):Fn 196 [] [.sl .u32 (toL x),.sl .u32 (toL y)] (.int .i64 (xp x y)) []:=by
 obtain⟨A,hA⟩: ∃A,qc5 (toL x) (toL y)=A:=⟨_,rfl⟩;rw[<-zd6,hA];unfold qc5 at hA;rw[qj,qj]at hA;generalize toL x=s at hal hA⊢;generalize toL y=t at hbl hA⊢;refine fnT hT6 hmx Tryz.func196 rfl rfl (ex:= []) ?_;conv=>whnf
 refine brI (fun h1=>?_) (fun h1=>?_)
 .have h1:((s.length:Int) != (t.length:Int))=true:=h1;have h1:(s.length:Int)≠t.length:=by simpa using h1
  conv=>whnf
  refine brI (fun h2=>?_) (fun h2=>?_)
  .have h2:s.length<t.length:=by simp only[Z2]at h2;omega
   rw[Z4 h2]at hA;subst hA;conv=>whnf
   exact⟨lr rfl,lh0⟩
  .have h2: ¬s.length<t.length:=by simp only[Z3]at h2;omega
   rw[Z5 h2,Z4 (by omega)]at hA;subst hA;conv=>whnf
   exact⟨lr rfl,lh0⟩
 have h1:((s.length:Int) != (t.length:Int))=false:=h1;have h1:(s.length:Int)=t.length:=by simpa using h1
 rw[Z5 (by omega),Z5 (by omega)]at hA;conv=>whnf
 rw[wI (x:=(s.length:Int)-1) (by omega)];refine⟨Nat,fun n=>n<=s.length/\zhp s t n=A,fun n=> [(5,.int .i64 ((n:Int)-1))],fun _=> [],fun n=>n,s.length,⟨qJ _,hA⟩,?_,fun n hn=>?_⟩
 .exact KY0
 (refine⟨by kernel_rfl,?_⟩;(conv=>whnf))
 obtain⟨hn1,hn2⟩:=hn;refine brI (fun h2=>?_) (fun h2=>?_)
 .have h2:0<n:=by simp only[Z2]at h2;omega
  obtain⟨m,rfl⟩: ∃m,n=m+1:=⟨n-1,by omega⟩;have hm:(((m+1:Nat):Int)-1)=(m:Int):=by omega
  have hms:m<s.length:=by omega
  have hmt:m<t.length:=by omega
  have hxs:s[m]? =some s[m]:=q0 hms;have hxt:t[m]? =some t[m]:=q0 hmt;obtain⟨x,hx⟩: ∃x:Int,s[m]=x:=⟨_,rfl⟩;obtain⟨y,hy⟩: ∃y:Int,t[m]=y:=⟨_,rfl⟩;rw[hx]at hxs;rw[hy]at hxt;simp only[zhp,hxs,hxt,q5]at hn2;conv=>whnf
  rw[hm];refine⟨⟨by omega,by omega⟩,fun(z:Int) hz=>?_⟩;have hz:s[m]? =some z:=by simpa using hz
  rw[hxs]at hz;cases hz
  conv=>whnf
  refine⟨⟨by omega,by omega⟩,fun(z:Int) hz=>?_⟩;have hz:t[m]? =some z:=by simpa using hz
  rw[hxt]at hz;cases hz
  conv=>whnf
  (refine⟨by kernel_rfl,by kernel_rfl,?_⟩;(conv=>whnf))
  refine brI (fun h3=>?_) (fun h3=>?_)
  .have h3:x<y:=by simpa using h3
   rw[Z4 h3]at hn2;conv=>whnf
   exact⟨ai0 hn2,lh0⟩
  have h3: ¬x<y:=by simpa using h3
  rw[Z5 h3]at hn2;conv=>whnf
  refine⟨⟨by omega,by omega⟩,fun(z:Int) hz=>?_⟩;have hz:s[m]? =some z:=by simpa using hz
  rw[hxs]at hz;cases hz
  conv=>whnf
  refine⟨⟨by omega,by omega⟩,fun(z:Int) hz=>?_⟩;have hz:t[m]? =some z:=by simpa using hz
  rw[hxt]at hz;cases hz
  conv=>whnf
  (refine⟨by kernel_rfl,by kernel_rfl,?_⟩;(conv=>whnf))
  refine brI (fun h4=>?_) (fun h4=>?_)
  .have h4:y<x:=by simpa using h4
   rw[Z4 h4]at hn2;conv=>whnf
   exact⟨ai0 hn2,lh0⟩
  have h4: ¬y<x:=by simpa using h4
  rw[Z5 h4]at hn2;conv=>whnf
  refine⟨m,⟨by omega,hn2⟩,by show m<m+1;omega,?_⟩
  ((conv=>whnf);refine q8 ?_ ?_;repeat' first|refine lc ?_ ?_|exact la0|exact lr rfl|exact ln0|refine lh1 ?_ ?_|exact lh0|exact bf0|exact bd0|refine bc0 ?_|exact bm0 rfl|exact bg0 rfl|exact li0 rfl|refine lg0 ?_|refine lt0 ?_|fail)
  exact ai0 (by rw[wI (by omega)])
 .have h2:n=0:=by simp only[Z3]at h2;omega
  subst h2;simp only[zhp]at hn2;conv=>whnf
  exact⟨ai0 hn2,lh0⟩
theorem zht (s:Int) (h:0<=s/\s<18446744073709551616):wA.wrap ((q3 wA.bits s&&& q3 wA.bits 4294967295).toNat :Int)=s % 4294967296:=by
 obtain⟨n,rfl⟩: ∃n:Nat,s=n:=⟨s.toNat,by omega⟩;have e1:(q3 64 (n:Int)).toNat =n:=by rw[qK,qM];exact qS (by omega)
 have e2:(q3 64 4294967295).toNat =2^32-1:=by decide
 have e3:(q3 64 (n:Int)&&& q3 64 4294967295).toNat =n % 4294967296:=by
  rw[qT,e1,e2,qC]
 show wA.wrap ((q3 64 (n:Int)&&& q3 64 4294967295).toNat :Int)=_;rw[e3,wU (by omega)];omega
noncomputable def qdb:Code:=Tryz.f194.body.getD .skip
theorem r295 (x n:Nat) (hx:(toL x).length <=100000) (hn:n<=100000):Fn 194 [] [.sl .u32 (toL x),.int .i64 n] (.sl .u32 (toL (x*2^n))) []:=by
 have hb2:=zx x;have hsp:=zda n x;unfold zjk at hsp;rw[qj]at hsp;generalize toL x=t at hx hb2 hsp⊢;refine wj (code:=qdb) hT6 hmx Tryz.func194 rfl rfl (ex:= []) ?_;conv=>whnf
 refine uj hT6 hmx 3 (fun _:Unit=>⟨[.sl .u32 t,.int .i64 n,.any,.any,.any,.own 11,.int .u64 0]++ye 36,[(11,.buf 108 .u32 (qD (n/32) 0)),(34,.dead),(100034,.free),(1500034,.free),(41,.free),(100041,.free),(1500041,.free)]⟩) (fun _=>by kernel_rfl) ?_ (fun _=>?_)
 .have hq:wC.wrap ((n:Int).tdiv 32)=((n/32:Nat):Int):=by
   rw[show(n:Int).tdiv 32=((n/32:Nat):Int)from w0 n 32,wI (by omega)]
  conv=>whnf
  refine⟨by omega,?_⟩;conv=>whnf
  rw[hq];refine⟨⟨by omega,by omega,by omega⟩,?_⟩;conv=>whnf
  refine⟨(),?_⟩;exact KZ0
 .refine zjm 34 11 (by kernel_rfl) ?_;conv=>whnf
  refine jq hT6 hmx ?_;conv=>whnf
  refine⟨Nat×List Int×Int,fun x=>x.1<=t.length/\x.2.1.length=n/32+x.1/\(0<=x.2.2/\x.2.2<2^(n % 32))/\x.2.1++xo (n % 32) (t.drop x.1) x.2.2=qD (n/32) 0++xo (n % 32) t 0,fun x=> [(7,.int .i64 x.1),(5,.own 34),(6,.int .u64 x.2.2)],fun x=> [(34,.buf 108 .u32 x.2.1)],fun x=>t.length-x.1,(0,qD (n/32) 0,0),⟨by simp,by simp,⟨by simp,by exact w8 (by decide)⟩,by simp⟩,?_,fun x hx=>?_⟩
  .exact KZ0
  (refine⟨by kernel_rfl,?_⟩;(conv=>whnf))
  obtain⟨i,out,c⟩:=x;obtain⟨hi1,hi2,hi3,hi4⟩:=hx;simp only at hi1 hi2 hi3 hi4;have hp31:(2:Int)^(n % 32)<=2147483648:=by
   have h1:2^(n % 32)<=2^31:=w1 (by decide) (by omega);have h2:(2:Int)^(n % 32)=((2^(n % 32):Nat):Int):=by simp
   rw[h2];omega
  refine brI (fun h1=>?_) (fun h1=>?_)
  .have hi:i<t.length:=by simp only[Z2]at h1;omega
   conv=>whnf
   refine⟨⟨by omega,by simp only;omega⟩,fun(x:Int) hx=>?_⟩;have hx:t[i]? =some x:=by simpa using hx
   have hxb:=hb2 x (qB hx);have hst:=zmx (n:=n) hxb hi3;have h9:(n:Int).tmod 32=((n % 32:Nat):Int):=qN n 32;have hrem:wA.wrap ((n:Int).tmod 32)=((n % 32:Nat):Int):=by rw[h9,wU (by omega)]
   rw[h9]at hst;rw[zr hx]at hi4;simp only[xo]at hi4;obtain⟨s,hs⟩: ∃s,x*2^(n % 32)+c=s:=⟨_,rfl⟩;rw[hs]at hst hi4;have hs0:0<=s/\s<4294967296*2^(n % 32):=by
    have h1:0<=x*2^(n % 32):=Int.mul_nonneg hxb.1 (by exact wn (by decide));have h2:x*2^(n % 32)<=4294967295*2^(n % 32):=Int.mul_le_mul_of_nonneg_right (by omega) (by exact wn (by decide));omega
   conv=>whnf
   rw[wU (x:=x) (by omega)];refine⟨by omega,?_⟩;conv=>whnf
   rw[hrem];refine⟨by omega,?_⟩;conv=>whnf
   refine⟨by simp only[qH,qY];omega,?_⟩;conv=>whnf
   refine⟨by omega,?_⟩;conv=>whnf
   refine⟨(i+1,out++ [s % 4294967296],s/4294967296),⟨by simp only;omega,by simp only[List.length_append,qH,qY];omega,⟨by simp only;omega,by simp only;omega⟩,by rw[List.append_assoc];exact hi4⟩,by show t.length-(i+1)<t.length-i;omega,?_⟩;have e1:wB.wrap (s % 4294967296)=s % 4294967296:=by simp[wE,wD,wF]
   have e2:s.fdiv 4294967296=s/4294967296:=q4 _ (by decide);have e3:=zht s (by omega)
   ((conv=>whnf);refine q8 ?_ ?_;repeat' first|refine lc ?_ ?_|exact la0|exact lr rfl|exact ln0|refine lh1 ?_ ?_|exact lh0|exact bf0|exact bd0|refine bc0 ?_|exact bm0 rfl|exact bb0 rfl|exact bg0 rfl|exact li0 rfl|refine lg0 ?_|refine lt0 ?_|fail)
   .exact ai0 ((congrArg (fun z:Int=>z.fdiv 4294967296) hst).trans e2)
   .exact ai0 (by rw[wI (by simp only;omega)];simp only;omega)
   .exact bb0 (by
     show out++ [_]=out++ [s % 4294967296];rw[<-e1,<-e3,<-hst];rfl)
   all_goals trace_state
  .have hi: ¬i<t.length:=by simp only[Z3]at h1;omega
   rw[qE (by omega)]at hi4;simp only[xo]at hi4;have ec:wB.wrap c=c:=by simp[wE,wD,wF];omega
   have hv:val (out++ [c])=x*2^n/\LB (out++ [c]):=by rw[hi4];exact hsp
   have h326:=qdz hv.2 (by simp;omega);rw[hv.1]at h326;conv=>whnf
   refine⟨by simp only[qH,qY];omega,?_⟩;conv=>whnf
   rw[ec];refine gZn h326 ?_;conv=>whnf
   exact⟨lr rfl,lh0⟩
theorem r328 (x n:Nat) (hl:(toL x).length <=100000) (hn:n<=1000000000):Fn 201 [] [.sl .u32 (toL x),.int .i64 n] (.sl .u32 (toL (x/2^n))) []:=by
 have hb2:=zx x;have hsp:=zgj n x;unfold zks at hsp;rw[qj]at hsp;generalize x/2^n=V at hsp⊢;generalize toL x=t at hl hb2 hsp⊢;have hq:wC.wrap ((n:Int).tdiv 32)=((n/32:Nat):Int):=by
  rw[show(n:Int).tdiv 32=((n/32:Nat):Int)from w0 n 32,wI (by omega)]
 have h9:(n:Int).tmod 32=((n % 32:Nat):Int):=qN n 32;have hrem:wA.wrap ((n:Int).tmod 32)=((n % 32:Nat):Int):=by rw[h9,wU (by omega)]
 refine fnT hT6 hmx Tryz.func201 rfl rfl (ex:= []) ?_;conv=>whnf
 refine⟨by omega,?_⟩;conv=>whnf
 rw[hq];refine brI (fun h1=>?_) (fun h1=>?_)
 .have h1:t.length<=n/32:=by simp only[Z2]at h1;omega
  rw[Z4 h1]at hsp;have hV:V=0:=hsp.1.symm;subst hV;conv=>whnf
  exact⟨li0 rfl,lh0⟩
 have h1: ¬t.length<=n/32:=by simp only[Z3]at h1;omega
 rw[Z5 h1]at hsp;conv=>whnf
 refine⟨by omega,?_⟩;conv=>whnf
 rw[hq];refine⟨⟨by omega,by omega,by omega⟩,?_⟩;have hb3:LB (t.drop (n/32)):=fun z hz=>hb2 z (w2 hz)
 have hul:(t.drop (n/32)).length <=100000:=by rw[List.length_drop];omega
 have hu:((t.take ((t.length:Int)).toNat).drop (((n/32:Nat):Int)).toNat)=t.drop (n/32):=by rw[show((t.length:Int)).toNat =t.length by omega,w7,show((((n/32:Nat):Int))).toNat =n/32 by omega]
 rw[hu];obtain⟨A,hA⟩: ∃A,zc9 (t.drop (n/32)) (n % 32)=A:=⟨_,rfl⟩;rw[hA]at hsp;generalize t.drop (n/32)=u at hA hb3 hul⊢;have hAl:A.length=u.length:=by rw[<-hA];simp[zc9]
 have h326:=qdz hsp.2 (by omega);rw[hsp.1]at h326;have hfin: ∀s:Int,0<=s/\s<18446744073709551616->wB.wrap (wA.wrap ((q3 wA.bits (s.fdiv (2^min ((n % 32:Nat):Int).toNat 64))&&& q3 wA.bits 4294967295).toNat :Int))=(s/2^(n % 32)) % 4294967296:=fun s hs=>by
  have hp:(0:Int)<2^(n % 32):=w8 (by decide);have hd:0<=s/2^(n % 32):=Int.ediv_nonneg hs.1 (by omega);have hd2:s/2^(n % 32)<=s:=Int.ediv_le_self _ hs.1;rw[show min ((n % 32:Nat):Int).toNat 64=n % 32 by omega,q4 _ (by omega),zht _ ⟨hd,by omega⟩];simp[wE,wD,wF]
 conv=>whnf
 refine⟨Nat,fun i=>i<=u.length,fun i=> [(6,.int .i64 i),(5,.own 51)],fun i=> [(51,.buf 108 .u32 (A.take i))],fun i=>u.length-i,0,by simp,?_,fun i hi=>?_⟩
 ·((conv=>whnf);refine q8 ?_ ?_;repeat' first|refine lc ?_ ?_|exact la0|exact lr rfl|exact ln0|refine lh1 ?_ ?_|exact lh0|exact bf0|exact bd0|refine bc0 ?_|exact bm0 rfl|exact bb0 rfl|exact bg0 rfl|exact li0 rfl|refine lg0 ?_|refine lt0 ?_|fail)
  .exact trivial
  .exact⟨rfl,rfl⟩
 (refine⟨by kernel_rfl,?_⟩;(conv=>whnf))
 have hi:i<=u.length:=hi;refine brI (fun h2=>?_) (fun h2=>?_)
 .have hi:i<u.length:=by simp only[Z2]at h2;omega
  conv=>whnf
  refine⟨⟨by omega,by omega⟩,fun(x:Int) hx=>?_⟩;have hx:u[i]? =some x:=by simpa using hx
  have hxb:=hb3 x (qB hx);have hF:A[i]? =some (zfc u (n % 32) i):=by rw[<-hA];simp[zc9,hi]
  have hstep:A.take i++ [zfc u (n % 32) i]=A.take (i+1):=by rw[List.take_add_one,hF];rfl
  have hlen:(A.take i).length =i:=by rw[List.length_take];omega
  conv=>whnf
  refine brI (fun h3=>?_) (fun h3=>?_)
  .have h3:i+1<u.length:=by
    have h3:decide (wC.wrap ((i:Int)+1)<(u.length:Int))=true:=h3;rw[wI (by omega)]at h3;simp only[Z2]at h3;omega
   conv=>whnf
   rw[wI (x:=(i:Int)+1) (by omega)];refine⟨⟨by omega,by omega⟩,fun(y:Int) hy=>?_⟩;have hy:u[i+1]? =some y:=by
    have hy:u[((i:Int)+1).toNat]? =some y:=hy;rw[show((i:Int)+1).toNat =i+1 by omega]at hy;exact hy
   have hyb:=hb3 y (qB hy);have hor:=ztb hxb hyb;conv=>whnf
   rw[wU (x:=x) (by omega),wU (x:=y) (by omega)];refine⟨by omega,?_⟩;conv=>whnf
   refine⟨by omega,?_⟩;conv=>whnf
   rw[hrem];refine⟨by omega,?_⟩;conv=>whnf
   refine⟨by rw[hlen];simp;omega,?_⟩;conv=>whnf
   refine⟨i+1,by omega,by show u.length-(i+1)<u.length-i;omega,?_⟩
   ((conv=>whnf);refine q8 ?_ ?_;repeat' first|refine lc ?_ ?_|exact la0|exact lr rfl|exact ln0|refine lh1 ?_ ?_|exact lh0|exact bf0|exact bd0|refine bc0 ?_|exact bm0 rfl|exact bb0 rfl|exact bg0 rfl|exact li0 rfl|refine lg0 ?_|refine lt0 ?_|fail)
   .exact ai0 (by rw[wI (by omega)];omega)
   .exact bb0 (by
     rw[<-hstep];show A.take i++ [_]=_
     congr 2
     rw[zfc,hx,hy];show _=(x+y*4294967296)/2^(n % 32) % 4294967296;rw[<-hfin _ (by omega),<-hor];rfl)
  .have h3: ¬i+1<u.length:=by
    have h3:decide (wC.wrap ((i:Int)+1)<(u.length:Int))=false:=h3;rw[wI (by omega)]at h3;simp only[Z3]at h3;omega
   have hy:u[i+1]? =none:=qA (by omega);conv=>whnf
   rw[wU (x:=x) (by omega)];refine⟨by omega,?_⟩;conv=>whnf
   rw[hrem];refine⟨by omega,?_⟩;conv=>whnf
   refine⟨by rw[hlen];simp;omega,?_⟩;conv=>whnf
   refine⟨i+1,by omega,by show u.length-(i+1)<u.length-i;omega,?_⟩
   ((conv=>whnf);refine q8 ?_ ?_;repeat' first|refine lc ?_ ?_|exact la0|exact lr rfl|exact ln0|refine lh1 ?_ ?_|exact lh0|exact bf0|exact bd0|refine bc0 ?_|exact bm0 rfl|exact bb0 rfl|exact bg0 rfl|exact li0 rfl|refine lg0 ?_|refine lt0 ?_|fail)
   .exact ai0 (by rw[wI (by omega)];omega)
   .exact bb0 (by
     rw[<-hstep];show A.take i++ [_]=_
     congr 2
     rw[zfc,hx,hy];show _=(x+0*4294967296)/2^(n % 32) % 4294967296;rw[Int.zero_mul,Int.add_zero,<-hfin _ (by omega)];rfl)
 .have hi:i=u.length:=by simp only[Z3]at h2;omega
  subst hi;rw[q6 (by omega)];conv=>whnf
  refine gZn h326 ?_;conv=>whnf
  exact⟨lr rfl,lh0⟩
theorem bitR {y r:Nat} (hy:y<4294967296) (hr:r<32):wB.wrap ((q3 wB.bits ((y:Int).fdiv (2^min ((r:Nat):Int).toNat wB.bits))&&& q3 wB.bits 1).toNat :Int)=((y/2^r % 2:Nat):Int):=by
 have e0:(y:Int).fdiv (2^min ((r:Nat):Int).toNat 32)=((y/2^r:Nat):Int):=by
  rw[q7,Nat.min_eq_left (by omega),q4 _ (Int.le_of_lt (w8 (by decide)))];simp
 have hd:y/2^r<4294967296:=Nat.lt_of_le_of_lt (Nat.div_le_self _ _) hy;have e1:(q3 32 ((y/2^r:Nat):Int)).toNat =y/2^r:=by rw[qK,qM];exact qS hd
 have e2:(q3 32 1).toNat =2^1-1:=by decide
 show wB.wrap ((q3 32 ((y:Int).fdiv (2^min ((r:Nat):Int).toNat 32))&&& q3 32 1).toNat :Int)=_;rw[e0,qT,e1,e2,qC,zq9 (by omega)]
theorem qeu (x k:Nat) (hk:k<(toL x).length):(toL x)[k]? =some ((x/2^(32*k) % 4294967296:Nat):Int):=by
 have h1:=zjb k (toL x) (zx x);rw[zt]at h1;have hb:LB ((toL x).drop k):=fun z hz=>zx x z (w2 hz)
 obtain⟨z,w,h2,h3,h4⟩:=zpc _ hb;rw[List.getElem?_drop,qW]at h3;rw[h1]at h4;have h5:(toL x)[k]? =some (toL x)[k]:=q0 hk;rw[h5]at h3⊢;simp only[q5]at h3;rw[h3]
 congr 2
 omega
theorem qhx (x n:Nat):(x/2^(32*(n/32)) % 4294967296)/2^(n % 32) % 2=x/2^n % 2:=by
 have h1:(x/2^(32*(n/32)) % 2^32).testBit (n % 32)=x.testBit n:=by
  rw[Nat.testBit_mod_two_pow,Nat.testBit_div_two_pow];rw[show n % 32+32*(n/32)=n by omega];simp[Nat.mod_lt]
 rw[qF,qF]at h1;have h2:=decide_eq_decide.1 h1;have e:(2:Nat)^32=4294967296:=by decide
 rw[e]at h2;omega
theorem qer {x n:Nat} (hx:x≠0) (hn:n<=tz x):x/2^n % 2=0<->n<tz x:=by
 obtain⟨m,h1,h2⟩:=zcr hx;have e:x/2^n=2^(tz x-n)*m:=by
  have h3:x=2^n*(2^(tz x-n)*m):=by rw[<-w4,<-Nat.pow_add,Nat.add_sub_cancel' hn];exact h1
  exact qO (w9 n) h3
 rw[e];constructor
 .intro h;by_cases h4:n<tz x
  .exact h4
  .rw[show tz x-n=0 by omega]at h;simp at h;omega
 .intro h;obtain⟨d,hd⟩: ∃d,tz x-n=d+1:=⟨tz x-n-1,by omega⟩;rw[hd,qX,Nat.mul_comm (2^d),w4];omega
theorem zrn {x:Nat} (hx:x≠0):tz x/32<(toL x).length :=by
 obtain⟨m,h1,h2⟩:=zcr hx;have h3:2^tz x<=x:=by
  conv=>rhs;rw[h1]
  exact Nat.le_mul_of_pos_right _ (by omega)
 have h4: ¬(toL x).length <=tz x/32:=by
  rw[jp];intro h;have h5:2^(32*(tz x/32))<=2^tz x:=w1 (by decide) (by omega);omega
 omega
theorem r327 (x:Nat) (hx:x≠0) (hl:(toL x).length <=100000):Fn 200 [] [.sl .u32 (toL x)] (.int .i64 (tz x:Nat)) []:=by
 have htl:=zrn hx;refine fnT hT6 hmx Tryz.func200 rfl rfl (ex:= []) ?_;conv=>whnf
 refine⟨Nat,fun n=>n<=tz x,fun n=> [(3,.int .i64 n)],fun _=> [],fun n=>tz x-n,0,by simp,?_,fun n hn=>?_⟩
 .exact KY0
 have hn:n<=tz x:=hn;have hnl:n/32<(toL x).length :=by omega
 have hq:wC.wrap ((n:Int).tdiv 32)=((n/32:Nat):Int):=by
  rw[show(n:Int).tdiv 32=((n/32:Nat):Int)from w0 n 32,wI (by omega)]
 have h9:(n:Int).tmod 32=((n % 32:Nat):Int):=qN n 32;have hrem:wA.wrap ((n:Int).tmod 32)=((n % 32:Nat):Int):=by rw[h9,wU (by omega)]
 have hat:=qeu x _ hnl;have hbt:=qhx x n;have htz:=qer hx hn;obtain⟨Y,hY⟩: ∃Y,x/2^(32*(n/32)) % 4294967296=Y:=⟨_,rfl⟩;rw[hY]at hat hbt;have hYl:Y<4294967296:=by omega
 have hbr:=bitR hYl (r:=n % 32) (by omega);rw[hbt]at hbr;generalize toL x=t at*;refine⟨by kernel_rfl,?_⟩;conv=>whnf
 refine⟨by omega,?_⟩;conv=>whnf
 rw[hq];refine⟨⟨by omega,by omega⟩,fun(y:Int) hy=>?_⟩;have hy:t[n/32]? =some y:=by
  have hy:t[((n/32:Nat):Int).toNat]? =some y:=hy
  rwa [q7]at hy
 rw[hat]at hy;cases hy
 conv=>whnf
 refine⟨by omega,?_⟩;conv=>whnf
 rw[hrem];refine⟨by omega,?_⟩;conv=>whnf
 rw[hbr];refine brI (fun h=>?_) (fun h=>?_)
 .have h:x/2^n % 2=0:=by
   have h:(((x/2^n % 2:Nat):Int)==0)=true:=h;rw[beq_iff_eq]at h;omega
  have h:=htz.1 h;conv=>whnf
  refine⟨n+1,h,by show tz x-(n+1)<tz x-n;omega,?_⟩
  ((conv=>whnf);refine q8 ?_ ?_;repeat' first|refine lc ?_ ?_|exact la0|exact lr rfl|exact ln0|refine lh1 ?_ ?_|exact lh0|exact bf0|exact bd0|refine bc0 ?_|exact bm0 rfl|exact bg0 rfl|exact li0 rfl|refine lg0 ?_|refine lt0 ?_|fail)
  exact ai0 (by rw[wI (by omega)];omega)
 .have h: ¬x/2^n % 2=0:=by
   have h:(((x/2^n % 2:Nat):Int)==0)=false:=h;rw[beq_eq_false_iff_ne]at h;omega
  have hne:n=tz x:=by
   have:=mt htz.2 h;omega
  conv=>whnf
  exact⟨ai0 (by rw[hne]),lh0⟩
theorem zvz {l:List Int} (hb:LB l):(toL (val l)).length <=l.length:=(jp _ _).2 (zn9 hb)
theorem qd0 (neg:Bool) {l:List Int} (hb:LB l) (hl:l.length<=100000) (e:Int) (he: -1000000000<=e/\e<=1000000000):Fn 124 [] [.bool neg,.sl .u32 l,.int .i64 e] (.agg (dyC (cnN neg (val l) e))) []:=by
 have h326:=qdz hb (by omega);have hll:(toL (val l)).length <=100000:=w6 (zvz hb) hl;generalize val l=x at h326 hll⊢;by_cases hx:x=0
 .subst hx;refine fnT hT6 hmx Tryz.func124 rfl rfl (ex:= []) ?_;conv=>whnf
  refine gZn h326 ?_;conv=>whnf
  exact⟨lg0 (lc (lr rfl) (lc (li0 rfl) (lc (lr rfl) ln0))),lh0⟩
 have h327:=r327 x hx hll;have h328:=r328 x (tz x) hll (by have:=zrn hx;omega);have htl:=zrn hx;have hne:(toL x).length ≠0:=by rw[Ne,kd];exact hx
 have hc:cnN neg x e=⟨neg,toL (x/2^tz x),e+tz x⟩:=by unfold cnN;rw[Z5 hx]
 rw[hc];generalize toL (x/2^tz x)=R at*;generalize tz x=z at*;generalize toL x=t at*;refine fnT hT6 hmx Tryz.func124 rfl rfl (ex:= []) ?_;conv=>whnf
 refine gZn h326 ?_;conv=>whnf
 refine brI (fun h=>?_) (fun h=>?_)
 .have h:((t.length:Int)==0)=true:=h;rw[beq_iff_eq]at h;omega
 conv=>whnf
 refine gZn h327 ?_;conv=>whnf
 refine gZn h328 ?_;conv=>whnf
 exact⟨lg0 (lc (lr rfl) (lc (lr rfl) (lc (ai0 (by rw[wI (by omega)])) ln0))),lh0⟩
theorem zwp (B p vo c va vb x y:Nat) (h:vo+p*c=va+vb):vo+p*((c+x+y) % B)+p*B*((c+x+y)/B)=va+p*x+(vb+p*y):=by
 have h1:=we (c+x+y) B;have h2:p*((c+x+y) % B)+p*B*((c+x+y)/B)=p*(c+x+y):=by
  conv=>rhs;rw[<-h1]
  rw[qQ,w4];omega
 rw[qQ,qQ]at h2;omega
theorem ztj (B p vo br va vb x y:Nat) (hB:0<B) (hy:br+y<=x+B) (h1:x<B) (hbr:br<=1) (h:va+p*br=vo+vb):
 va+p*x+p*B*(1-(x+B-(br+y))/B)=vo+p*((x+B-(br+y)) % B)+(vb+p*y):=by
 have e:=we (x+B-(br+y)) B;have hq:(x+B-(br+y))/B<=1:=by
  have:(x+B-(br+y))/B<2:=(Nat.div_lt_iff_lt_mul hB).2 (by omega);omega
 generalize (x+B-(br+y))/B=q at*;generalize hm:(x+B-(br+y)) % B=m at*;have k:p*x+p*B*(1-q)+p*br=p*m+p*y+(p*br+p*br):=by
  obtain rfl|rfl:q=0\/q=1:=by omega
  .have:x+B=m+y+br:=by simp at e;omega
   have:=congrArg (fun z=>p*z) this;simp only[qQ]at this;simp only[Nat.sub_zero,ws];omega
  .have:x=m+y+br:=by simp at e;omega
   have:=congrArg (fun z=>p*z) this;simp only[qQ]at this;simp only[Nat.sub_self,Nat.mul_zero];omega
 omega
theorem zfm {l:List Int} {i:Nat}:val (l.take (i+1))=val (l.take i)+4294967296^i*(l[i]?.getD 0).toNat :=by
 by_cases h:i<l.length
 .exact wq l h
 .rw[q6 (by omega),q6 (by omega),qA (by omega)];simp
theorem LB.snoc {l:List Int} (h:LB l) {x:Int} (hx:0<=x/\x<4294967296):LB (l++ [x]):=fun y hy=>by
 rcases List.mem_append.1 hy with hy|hy
 .exact h y hy
 .have:y=x:=by simpa using hy
  rw[this];exact hx
theorem zja (l:List Int) (x:Int):val (l++ [x])=val l+4294967296^l.length*x.toNat:=by rw[zjc];simp[val]
structure PlI (a b:List Int) (i:Nat) (out:List Int) (c:Nat):Prop where
 len:out.length=i
 lb:LB out
 c1:c<=1
 val:val out+4294967296^i*c=val (a.take i)+val (b.take i)
theorem PlI.step {a b:List Int} {i:Nat} {out:List Int} {c:Nat} (h:PlI a b i out c) {x y:Nat} (hx:(a[i]?.getD 0).toNat =x) (hy:(b[i]?.getD 0).toNat =y) (hxl:x<4294967296) (hyl:y<4294967296):
 PlI a b (i+1) (out++ [(((c+x+y) % 4294967296:Nat):Int)]) ((c+x+y)/4294967296):=by
 obtain⟨h1,h2,h3,h4⟩:=h;refine⟨by simp[h1],h2.snoc (by omega),by omega,?_⟩;rw[zja,zfm,zfm,hx,hy,h1,q7,qX];exact zwp 4294967296 (4294967296^i) _ c _ _ x y h4
theorem zx9 {a:List Int} (h:LB a) (i:Nat):(a[i]?.getD 0).toNat <4294967296:=by
 have:=h.at i;omega
theorem r297 {a b:List Int} (ha:LB a) (hb:LB b) (hal:a.length<=100000) (hbl:b.length<=100000):Fn 195 [] [.sl .u32 a,.sl .u32 b] (.sl .u32 (toL (val a+val b))) []:=by
 refine fnT hT6 hmx Tryz.func195 rfl rfl (ex:= []) ?_;conv=>whnf
 refine⟨Nat×List Int×Nat,fun x=>x.1<=max a.length b.length/\PlI a b x.1 x.2.1 x.2.2,fun x=> [(7,.int .i64 x.1),(5,.own 49),(6,.int .u64 x.2.2)],fun x=> [(49,.buf 108 .u32 x.2.1)],fun x=>max a.length b.length-x.1,(0,[],0),⟨by simp,⟨rfl,(fun x hx=>by cases hx),by simp,by simp[val]⟩⟩,?_,fun x hx=>?_⟩
 ·((conv=>whnf);refine q8 ?_ ?_;repeat' first|refine lc ?_ ?_|exact la0|exact lr rfl|exact ln0|refine lh1 ?_ ?_|exact lh0|exact bf0|exact bd0|refine bc0 ?_|exact bm0 rfl|exact bb0 rfl|exact bg0 rfl|exact li0 rfl|refine lg0 ?_|refine lt0 ?_|fail)
  .exact trivial
  .exact⟨rfl,rfl⟩
 obtain⟨i,out,c⟩:=x;obtain⟨hi,hp⟩:=hx;simp only at hi hp;have hol:=hp.len;have hc:=hp.c1;have hst:=hp.step rfl rfl (zx9 ha i) (zx9 hb i);have e2: ∀s:Nat,((s:Nat):Int).fdiv 4294967296=((s/4294967296:Nat):Int):=fun s=>by rw[q4 _ (by decide)];simp
 have e3: ∀s:Nat,s<18446744073709551616->wB.wrap (wA.wrap ((q3 wA.bits (s:Int)&&& q3 wA.bits 4294967295).toNat :Int))=((s % 4294967296:Nat):Int):=fun s hs=>by
  rw[zht _ (by omega)];simp[wE,wD,wF]
 (refine⟨by kernel_rfl,?_⟩;(conv=>whnf))
 refine brI (fun h1=>?_) (fun h1=>?_)
 .have h1:i<a.length:=by simp only[Z2]at h1;omega
  have hxa:a[i]? =some a[i]:=q0 h1;have hba:=ha _ (q9 h1);generalize a[i]=xa at hxa hba;rw[hxa]at hst;simp only[q5]at hst;conv=>whnf
  refine brI (fun h2=>?_) (fun h2=>?_)
  rotate_left
  .have h2:=Z1 h2;omega
  conv=>whnf
  refine⟨⟨by omega,by omega⟩,fun(z:Int) hz=>?_⟩;have hz:a[i]? =some z:=by simpa using hz
  rw[hxa]at hz;cases hz
  conv=>whnf
  refine brI (fun h3=>?_) (fun h3=>?_)
  .have h3:i<b.length:=by simp only[Z2]at h3;omega
   have hxb:b[i]? =some b[i]:=q0 h3;have hbb:=hb _ (q9 h3);generalize b[i]=xb at hxb hbb;rw[hxb]at hst;simp only[q5]at hst;have es:wA.wrap (wA.wrap ((c:Int)+wA.wrap xa)+wA.wrap xb)=((c+xa.toNat+xb.toNat:Nat):Int):=by
    rw[wU (x:=xa) (by omega),wU (x:=xb) (by omega),wU (x:=(c:Int)+xa) (by omega),wU (by omega)];omega
   conv=>whnf
   refine⟨⟨by omega,by omega⟩,fun(z:Int) hz=>?_⟩;have hz:b[i]? =some z:=by simpa using hz
   rw[hxb]at hz;cases hz
   conv=>whnf
   refine⟨by simp;omega,?_⟩;conv=>whnf
   refine⟨by decide,?_⟩;conv=>whnf
   refine⟨(i+1,out++ [(((c+xa.toNat+xb.toNat) % 4294967296:Nat):Int)],(c+xa.toNat+xb.toNat)/4294967296),⟨by simp only;omega,hst⟩,by show max a.length b.length-(i+1)<max a.length b.length-i;omega,?_⟩
   ((conv=>whnf);refine q8 ?_ ?_;repeat' first|refine lc ?_ ?_|exact la0|exact lr rfl|exact ln0|refine lh1 ?_ ?_|exact lh0|exact bf0|exact bd0|refine bc0 ?_|exact bm0 rfl|exact bb0 rfl|exact bg0 rfl|exact li0 rfl|refine lg0 ?_|refine lt0 ?_|fail)
   .exact ai0 ((congrArg (fun z:Int=>z.fdiv 4294967296) es).trans (e2 _))
   .exact ai0 (by rw[wI (by simp only;omega)];simp only;omega)
   .exact bb0 (by
     show out++ [_]=out++ [_];rw[<-e3 _ (by omega),<-es])
  .have h3: ¬i<b.length:=by simp only[Z3]at h3;omega
   have hxb:b[i]? =none:=qA (by omega);rw[hxb]at hst;simp only[qU,w3,qW]at hst;have es:wA.wrap ((c:Int)+wA.wrap xa)=((c+xa.toNat:Nat):Int):=by
    rw[wU (x:=xa) (by omega),wU (by omega)];omega
   conv=>whnf
   refine⟨by simp;omega,?_⟩;conv=>whnf
   refine⟨by decide,?_⟩;conv=>whnf
   refine⟨(i+1,out++ [(((c+xa.toNat) % 4294967296:Nat):Int)],(c+xa.toNat)/4294967296),⟨by simp only;omega,hst⟩,by show max a.length b.length-(i+1)<max a.length b.length-i;omega,?_⟩
   ((conv=>whnf);refine q8 ?_ ?_;repeat' first|refine lc ?_ ?_|exact la0|exact lr rfl|exact ln0|refine lh1 ?_ ?_|exact lh0|exact bf0|exact bd0|refine bc0 ?_|exact bm0 rfl|exact bb0 rfl|exact bg0 rfl|exact li0 rfl|refine lg0 ?_|refine lt0 ?_|fail)
   .exact ai0 ((congrArg (fun z:Int=>z.fdiv 4294967296) es).trans (e2 _))
   .exact ai0 (by rw[wI (by simp only;omega)];simp only;omega)
   .exact bb0 (by
     show out++ [_]=out++ [_];rw[<-e3 _ (by omega),<-es])
 .have h1: ¬i<a.length:=by simp only[Z3]at h1;omega
  have hxa:a[i]? =none:=qA (by omega);rw[hxa]at hst;simp only[qU,w3,qW]at hst;conv=>whnf
  refine brI (fun h3=>?_) (fun h3=>?_)
  .have h3:i<b.length:=by simp only[Z2]at h3;omega
   have hxb:b[i]? =some b[i]:=q0 h3;have hbb:=hb _ (q9 h3);generalize b[i]=xb at hxb hbb;rw[hxb]at hst;simp only[q5]at hst;have es:wA.wrap ((c:Int)+wA.wrap xb)=((c+xb.toNat:Nat):Int):=by
    rw[wU (x:=xb) (by omega),wU (by omega)];omega
   conv=>whnf
   refine brI (fun h2=>?_) (fun h2=>?_)
   .have h2:=Z0 h2;omega
   conv=>whnf
   refine brI (fun h2=>?_) (fun h2=>?_)
   rotate_left
   .have h2:=Z1 h2;omega
   conv=>whnf
   refine⟨⟨by omega,by omega⟩,fun(z:Int) hz=>?_⟩;have hz:b[i]? =some z:=by simpa using hz
   rw[hxb]at hz;cases hz
   conv=>whnf
   refine⟨by simp;omega,?_⟩;conv=>whnf
   refine⟨by decide,?_⟩;conv=>whnf
   refine⟨(i+1,out++ [(((c+xb.toNat) % 4294967296:Nat):Int)],(c+xb.toNat)/4294967296),⟨by simp only;omega,hst⟩,by show max a.length b.length-(i+1)<max a.length b.length-i;omega,?_⟩
   ((conv=>whnf);refine q8 ?_ ?_;repeat' first|refine lc ?_ ?_|exact la0|exact lr rfl|exact ln0|refine lh1 ?_ ?_|exact lh0|exact bf0|exact bd0|refine bc0 ?_|exact bm0 rfl|exact bb0 rfl|exact bg0 rfl|exact li0 rfl|refine lg0 ?_|refine lt0 ?_|fail)
   .exact ai0 ((congrArg (fun z:Int=>z.fdiv 4294967296) es).trans (e2 _))
   .exact ai0 (by rw[wI (by simp only;omega)];simp only;omega)
   .exact bb0 (by
     show out++ [_]=out++ [_];rw[<-e3 _ (by omega),<-es])
  .have h3: ¬i<b.length:=by simp only[Z3]at h3;omega
   have hv:=hp.val;rw[q6 (by omega),q6 (by omega)]at hv;have hv:val (out++ [(c:Int)])=val a+val b:=by rw[zja,hol,q7];exact hv
   have h326:=qdz (hp.lb.snoc (x:=(c:Int)) (by omega)) (by simp;omega);rw[hv]at h326;have ec:wB.wrap (c:Int)=c:=zq9 (by omega);conv=>whnf
   refine⟨by simp;omega,?_⟩;conv=>whnf
   rw[ec];refine gZn h326 ?_;conv=>whnf
   exact⟨lr rfl,lh0⟩
structure MiI (a b:List Int) (i:Nat) (out:List Int) (c:Nat):Prop where
 len:out.length=i
 lb:LB out
 c1:c<=1
 sum:val (a.take i)+4294967296^i*c=val out+val (b.take i)
theorem MiI.step {a b:List Int} {i:Nat} {out:List Int} {c:Nat} (h:MiI a b i out c) {x y:Nat} (hx:(a[i]?.getD 0).toNat =x) (hy:(b[i]?.getD 0).toNat =y) (hxl:x<4294967296) (hyl:y<4294967296):
 MiI a b (i+1) (out++ [(((x+4294967296-(c+y)) % 4294967296:Nat):Int)]) (1-(x+4294967296-(c+y))/4294967296):=by
 obtain⟨h1,h2,h3,h4⟩:=h;refine⟨by simp[h1],h2.snoc (by omega),by omega,?_⟩;rw[zja,zfm,zfm,hx,hy,h1,q7,qX];exact ztj 4294967296 (4294967296^i) _ c _ _ x y (by decide) (by omega) hxl h3 h4
theorem MiI.fin {a b:List Int} {out:List Int} {c:Nat} (h:MiI a b a.length out c) (hl:b.length<=a.length) (hv:val b<=val a):val out=val a-val b:=by
 obtain⟨h1,h2,h3,h4⟩:=h;rw[w7,q6 hl]at h4;have h5:=yo h2 a.length (by omega);rw[q6 (by omega)]at h5;obtain rfl|rfl:c=0\/c=1:=by omega
 .simp at h4;omega
 .rw[ws]at h4;omega
theorem r298 {a b:List Int} (ha:LB a) (hb:LB b) (hal:a.length<=100000) (hl:b.length<=a.length) (hv:val b<=val a):Fn 197 [] [.sl .u32 a,.sl .u32 b] (.sl .u32 (toL (val a-val b))) []:=by
 refine fnT hT6 hmx Tryz.func197 rfl rfl (ex:= []) ?_;conv=>whnf
 refine⟨Nat×List Int×Nat,fun x=>x.1<=a.length/\MiI a b x.1 x.2.1 x.2.2,fun x=> [(7,.int .i64 x.1),(5,.own 41),(6,.int .u64 x.2.2)],fun x=> [(41,.buf 108 .u32 x.2.1)],fun x=>a.length-x.1,(0,[],0),⟨by simp,⟨rfl,(fun x hx=>by cases hx),by simp,by simp[val]⟩⟩,?_,fun x hx=>?_⟩
 ·((conv=>whnf);refine q8 ?_ ?_;repeat' first|refine lc ?_ ?_|exact la0|exact lr rfl|exact ln0|refine lh1 ?_ ?_|exact lh0|exact bf0|exact bd0|refine bc0 ?_|exact bm0 rfl|exact bb0 rfl|exact bg0 rfl|exact li0 rfl|refine lg0 ?_|refine lt0 ?_|fail)
  .exact trivial
  .exact⟨rfl,rfl⟩
 obtain⟨i,out,c⟩:=x;obtain⟨hi,hp⟩:=hx;simp only at hi hp;have hol:=hp.len;have hc:=hp.c1;have hst:=hp.step rfl rfl (zx9 ha i) (zx9 hb i);have e2: ∀s:Nat,((s:Nat):Int).fdiv 4294967296=((s/4294967296:Nat):Int):=fun s=>by rw[q4 _ (by decide)];simp
 have e3: ∀s:Nat,s<18446744073709551616->wB.wrap (wA.wrap ((q3 wA.bits (s:Int)&&& q3 wA.bits 4294967295).toNat :Int))=((s % 4294967296:Nat):Int):=fun s hs=>by
  rw[zht _ (by omega)];simp[wE,wD,wF]
 have e4: ∀s:Nat,s<8589934592->wA.wrap (1-((s:Nat):Int).fdiv 4294967296)=((1-s/4294967296:Nat):Int):=fun s hs=>by
  rw[e2,wU (by omega)];omega
 (refine⟨by kernel_rfl,?_⟩;(conv=>whnf))
 refine brI (fun h1=>?_) (fun h1=>?_)
 .have h1:i<a.length:=by simp only[Z2]at h1;omega
  have hxa:a[i]? =some a[i]:=q0 h1;have hba:=ha _ (q9 h1);generalize a[i]=xa at hxa hba;rw[hxa]at hst;simp only[q5]at hst;conv=>whnf
  refine brI (fun h3=>?_) (fun h3=>?_)
  .have h3:i<b.length:=by simp only[Z2]at h3;omega
   have hxb:b[i]? =some b[i]:=q0 h3;have hbb:=hb _ (q9 h3);generalize b[i]=xb at hxb hbb;rw[hxb]at hst;simp only[q5]at hst;have es:wA.wrap (wA.wrap (wA.wrap xa+4294967296)-wA.wrap ((c:Int)+wA.wrap xb))=((xa.toNat+4294967296-(c+xb.toNat):Nat):Int):=by
    rw[wU (x:=xa) (by omega),wU (x:=xb) (by omega),wU (x:=(c:Int)+xb) (by omega),wU (x:=xa+4294967296) (by omega),wU (by omega)];omega
   conv=>whnf
   refine⟨⟨by omega,by omega⟩,fun(z:Int) hz=>?_⟩;have hz:b[i]? =some z:=by simpa using hz
   rw[hxb]at hz;cases hz
   conv=>whnf
   refine⟨⟨by omega,by omega⟩,fun(z:Int) hz=>?_⟩;have hz:a[i]? =some z:=by simpa using hz
   rw[hxa]at hz;cases hz
   conv=>whnf
   refine⟨by simp;omega,?_⟩;conv=>whnf
   refine⟨by decide,?_⟩;conv=>whnf
   refine⟨(i+1,out++ [(((xa.toNat+4294967296-(c+xb.toNat)) % 4294967296:Nat):Int)],1-(xa.toNat+4294967296-(c+xb.toNat))/4294967296),⟨by simp only;omega,hst⟩,by show a.length-(i+1)<a.length-i;omega,?_⟩
   ((conv=>whnf);refine q8 ?_ ?_;repeat' first|refine lc ?_ ?_|exact la0|exact lr rfl|exact ln0|refine lh1 ?_ ?_|exact lh0|exact bf0|exact bd0|refine bc0 ?_|exact bm0 rfl|exact bb0 rfl|exact bg0 rfl|exact li0 rfl|refine lg0 ?_|refine lt0 ?_|fail)
   .exact ai0 ((congrArg (fun z:Int=>wA.wrap (1-z.fdiv 4294967296)) es).trans (e4 _ (by omega)))
   .exact ai0 (by rw[wI (by simp only;omega)];simp only;omega)
   .exact bb0 (by
     show out++ [_]=out++ [_];rw[<-e3 _ (by omega),<-es])
  .have h3: ¬i<b.length:=by simp only[Z3]at h3;omega
   have hxb:b[i]? =none:=qA (by omega);rw[hxb]at hst;simp only[qU,w3,qW]at hst;have es:wA.wrap (wA.wrap (wA.wrap xa+4294967296)-(c:Int))=((xa.toNat+4294967296-c:Nat):Int):=by
    rw[wU (x:=xa) (by omega),wU (x:=xa+4294967296) (by omega),wU (by omega)];omega
   conv=>whnf
   refine⟨⟨by omega,by omega⟩,fun(z:Int) hz=>?_⟩;have hz:a[i]? =some z:=by simpa using hz
   rw[hxa]at hz;cases hz
   conv=>whnf
   refine⟨by simp;omega,?_⟩;conv=>whnf
   refine⟨by decide,?_⟩;conv=>whnf
   refine⟨(i+1,out++ [(((xa.toNat+4294967296-c) % 4294967296:Nat):Int)],1-(xa.toNat+4294967296-c)/4294967296),⟨by simp only;omega,hst⟩,by show a.length-(i+1)<a.length-i;omega,?_⟩
   ((conv=>whnf);refine q8 ?_ ?_;repeat' first|refine lc ?_ ?_|exact la0|exact lr rfl|exact ln0|refine lh1 ?_ ?_|exact lh0|exact bf0|exact bd0|refine bc0 ?_|exact bm0 rfl|exact bb0 rfl|exact bg0 rfl|exact li0 rfl|refine lg0 ?_|refine lt0 ?_|fail)
   .exact ai0 ((congrArg (fun z:Int=>wA.wrap (1-z.fdiv 4294967296)) es).trans (e4 _ (by omega)))
   .exact ai0 (by rw[wI (by simp only;omega)];simp only;omega)
   .exact bb0 (by
     show out++ [_]=out++ [_];rw[<-e3 _ (by omega),<-es])
 .have h1:i=a.length:=by simp only[Z3]at h1;omega
  subst h1;have hf:=hp.fin hl hv;have h326:=qdz hp.lb (by omega);rw[hf]at h326;conv=>whnf
  refine gZn h326 ?_;conv=>whnf
  exact⟨lr rfl,lh0⟩
theorem zse {l:List Int} {i:Nat} (hi:i<l.length) (h:l[i]?.getD 0=0):l.set i 0=l:=by
 apply List.ext_getElem?;intro j;by_cases e:i=j
 .subst e;rw[List.getElem?_set_self hi,q0 hi];rw[q0 hi]at h;simp only[q5]at h;rw[h]
 .rw[qL e]
theorem zlp (x:Int): ∀(b:List Int) (p:Nat) (out:List Int) (c:Int) (j:Nat),p+b.length<=j->(zku x b p out c).1[j]? =out[j]?
 | [],_,_,_,_,_=>rfl
 |y::b,p,out,c,j,h=>by
  rw[qH]at h;rw[zku,zlp x b _ _ _ j (by omega),qL (by omega)]
theorem r330 (x y:Nat) (hal:(toL x).length <=100000) (hbl:(toL y).length <=100000):Fn 198 [] [.sl .u32 (toL x),.sl .u32 (toL y)] (.sl .u32 (toL (x*y))) []:=by
 have ha:=zx x;have hb:=zx y;have hsp:=zgt (toL y) hb (toL x) 0 (qD ((toL x).length +(toL y).length +1) 0) ha (fun z hz=>by have:=qR hz;omega) (by simp) (fun j _=>by
  rw[qV];split<;>rfl)
 rw[zeg,zt,zt]at hsp;have hml:=zj1 (toL y) (toL x) 0 (qD ((toL x).length +(toL y).length +1) 0);generalize toL x=a at*;generalize toL y=b at*;obtain⟨A,hA⟩: ∃A,znk b a 0 (qD (a.length+b.length+1) 0)=A:=⟨_,rfl⟩;rw[hA]at hsp hml;have hAv:val A=x*y:=by have:=hsp.1;simpa using this
 have h326:=qdz hsp.2 (by rw[hml];simp;omega);rw[hAv]at h326;clear hsp hAv hml;generalize toL (x*y)=R at h326⊢;refine fnT hT6 hmx Tryz.func198 rfl rfl (ex:= []) ?_;conv=>whnf
 rw[wI (x:=(a.length:Int)+(b.length:Int)) (by omega),wI (x:=(a.length:Int)+(b.length:Int)+1) (by omega)];refine⟨⟨by omega,by omega,by omega⟩,?_⟩;conv=>whnf
 refine⟨Nat×List Int,fun x=>x.1<=a.length/\LB x.2/\x.2.length=a.length+b.length+1/\znk b (a.drop x.1) x.1 x.2=A/\(∀j,x.1+b.length<=j->x.2[j]?.getD 0=0),fun x=> [(6,.int .i64 x.1)],fun x=> [(18,.buf 108 .u32 x.2)],fun x=>a.length-x.1,(0,qD (a.length+b.length+1) 0),⟨by simp,(fun x hx=>by rw[qR hx];omega),by simp,by simpa using hA,fun j _=>by
  rw[qV];split<;>rfl⟩,?_,fun x hx=>?_⟩
 .exact KZ0
 (refine⟨by kernel_rfl,?_⟩;(conv=>whnf))
 obtain⟨i,out⟩:=x;obtain⟨hi1,hi2,hi3,hi4,hi5⟩:=hx;simp only at hi1 hi2 hi3 hi4 hi5;refine brI (fun h1=>?_) (fun h1=>?_)
 .have hi:i<a.length:=by simp only[Z2]at h1;omega
  have hxa:a[i]? =some a[i]:=q0 hi;have hxb:=ha _ (q9 hi);generalize a[i]=x at hxa hxb;rw[zr hxa]at hi4;simp only[znk]at hi4;conv=>whnf
  refine⟨Nat×List Int×Int,fun z=>z.1<=b.length/\LB z.2.1/\z.2.1.length=a.length+b.length+1/\(0<=z.2.2/\z.2.2<4294967296)/\zku x (b.drop z.1) (i+z.1) z.2.1 z.2.2=zku x b i out 0,fun z=> [(8,.int .i64 z.1),(7,.int .u64 z.2.2)],fun z=> [(18,.buf 108 .u32 z.2.1)],fun z=>b.length-z.1,(0,out,0),⟨by simp,hi2,hi3,by simp,by simp⟩,?_,fun z hz=>?_⟩
  .exact KZ0
  (refine⟨by kernel_rfl,?_⟩;(conv=>whnf))
  obtain⟨k,o2,c⟩:=z;obtain⟨hk1,hk2,hk3,hk4,hk5⟩:=hz;simp only at hk1 hk2 hk3 hk4 hk5;refine brI (fun h2=>?_) (fun h2=>?_)
  .have hk:k<b.length:=by simp only[Z2]at h2;omega
   conv=>whnf
   refine⟨⟨by omega,by simp only;omega⟩,fun(z:Int) hz=>?_⟩;have hz:a[i]? =some z:=by simpa using hz
   rw[hxa]at hz;cases hz
   conv=>whnf
   refine⟨⟨by omega,by simp only;omega⟩,fun(y:Int) hy=>?_⟩;have hy:b[k]? =some y:=by simpa using hy
   have hyb:=hb y (qB hy);rw[zr hy]at hk5;simp only[zku]at hk5;have hob:=hk2.at (i+k);have hbd:=zzi hxb hyb hob hk4;have hik:wC.wrap ((i:Int)+(k:Int))=((i+k:Nat):Int):=by rw[wI (by omega)];omega
   conv=>whnf
   refine⟨⟨by show 0<=wC.wrap ((i:Int)+(k:Int));rw[hik];omega,by show wC.wrap ((i:Int)+(k:Int))<(o2.length:Int);rw[hik];omega⟩,?_⟩;conv=>whnf
   refine⟨by show(wC.wrap ((i:Int)+(k:Int))).toNat <o2.length;rw[hik];omega,fun(o:Int) ho=>?_⟩;have ho:o2[i+k]? =some o:=by
    have ho:o2[(wC.wrap ((i:Int)+(k:Int))).toNat]? =some o:=ho;rw[hik,show(((i+k:Nat):Int)).toNat =i+k by omega]at ho;exact ho
   rw[ho]at hob hbd hk5;simp only[q5]at hob hbd hk5;have hsum:wA.wrap (wA.wrap (wA.wrap (wA.wrap x*wA.wrap y)+wA.wrap o)+c)=x*y+o+c:=by
    rw[wU (x:=x) (by omega),wU (x:=y) (by omega),wU (x:=o) (by omega),wU (x:=x*y) (by omega),wU (x:=x*y+o) (by omega),wU (by omega)]
   obtain⟨s,hs⟩: ∃s,x*y+o+c=s:=⟨_,rfl⟩;rw[hs]at hbd hk5 hsum;conv=>whnf
   (refine⟨by kernel_rfl,by kernel_rfl,?_⟩;(conv=>whnf))
   refine⟨⟨by show 0<=wC.wrap ((i:Int)+(k:Int));rw[hik];omega,by show wC.wrap ((i:Int)+(k:Int))<(o2.length:Int);rw[hik];omega⟩,?_⟩;conv=>whnf
   refine⟨by show(wC.wrap ((i:Int)+(k:Int))).toNat <o2.length;rw[hik];omega,?_⟩;conv=>whnf
   refine⟨by omega,?_⟩;conv=>whnf
   have e1:wB.wrap (s % 4294967296)=s % 4294967296:=by simp[wE,wD,wF]
   have e2:s.fdiv 4294967296=s/4294967296:=q4 _ (by decide);have e3:=zht s (by omega);refine⟨(k+1,o2.set (i+k) (s % 4294967296),s/4294967296),⟨by simp only;omega,hk2.set (by omega),by simp only[wi];exact hk3,⟨by simp only;omega,by simp only;omega⟩,hk5⟩,by show b.length-(k+1)<b.length-k;omega,?_⟩
   ((conv=>whnf);refine q8 ?_ ?_;repeat' first|refine lc ?_ ?_|exact la0|exact lr rfl|exact ln0|refine lh1 ?_ ?_|exact lh0|exact bf0|exact bd0|refine bc0 ?_|exact bm0 rfl|exact bb0 rfl|exact bg0 rfl|exact li0 rfl|refine lg0 ?_|refine lt0 ?_|fail)
   .exact ai0 ((congrArg (fun z:Int=>z.fdiv 4294967296) hsum).trans e2)
   .exact ai0 (by rw[wI (by simp only;omega)];simp only;omega)
   .exact bb0 (by
     show List.set o2 (wC.wrap ((i:Int)+(k:Int))).toNat (wB.wrap _)=o2.set (i+k) (s % 4294967296);rw[hik,show(((i+k:Nat):Int)).toNat =i+k by omega,<-e1,<-e3,<-hsum])
  .have hk:k=b.length:=by simp only[Z3]at h2;omega
   subst hk;rw[qE (by omega)]at hk5;simp only[zku]at hk5;have hkp: ∀j,i+b.length<=j->o2[j]?.getD 0=0:=fun j hj=>by
    have:=zlp x b i out 0 j hj;rw[<-hk5]at this;simp only at this;rw[this];exact hi5 j hj
   rw[<-hk5]at hi4;simp only at hi4;have hik:wC.wrap ((i:Int)+(b.length:Int))=((i+b.length:Nat):Int):=by rw[wI (by omega)];omega
   have hnx: ∀j,i+1+b.length<=j->(o2.set (i+b.length) c)[j]?.getD 0=0:=fun j hj=>by
    rw[qL (by omega)];exact hkp j (by omega)
   conv=>whnf
   rw[hik];refine⟨Bool,fun _=>True,fun z=> [(10,.int .i64 (bif z then((i+b.length:Nat):Int)+1 else((i+b.length:Nat):Int))),(7,.int .u64 (bif z then 0 else c))],fun z=> [(18,.buf 108 .u32 (bif z then o2.set (i+b.length) c else o2))],fun z=>bif z then 0 else 1,false,trivial,?_,fun z _=>?_⟩
   .exact KZ0
   cases z with
   |true=>
    (refine⟨by kernel_rfl,?_⟩;(conv=>whnf))
    refine⟨(i+1,o2.set (i+b.length) c),⟨by simp only;omega,hk2.set hk4,by simp only[wi];exact hk3,hi4,hnx⟩,by show a.length-(i+1)<a.length-i;omega,?_⟩
    ((conv=>whnf);refine q8 ?_ ?_;repeat' first|refine lc ?_ ?_|exact la0|exact lr rfl|exact ln0|refine lh1 ?_ ?_|exact lh0|exact bf0|exact bd0|refine bc0 ?_|exact bm0 rfl|exact bb0 rfl|exact bg0 rfl|exact li0 rfl|refine lg0 ?_|refine lt0 ?_|fail)
    .exact ai0 (by rw[wI (by simp only;omega)];simp only;omega)
   |false=>
    (refine⟨by kernel_rfl,?_⟩;(conv=>whnf))
    refine brI (fun h3=>?_) (fun h3=>?_)
    .have h3:0<c:=by
      have h3:=Z0 h3;exact h3
     have hz:=hkp (i+b.length) (qJ _);have ho:o2[i+b.length]? =some 0:=by
      rw[q0 (by omega)]at hz⊢;simpa using hz
     conv=>whnf
     refine⟨⟨by show(0:Int)<=((i+b.length:Nat):Int);omega,by show((i+b.length:Nat):Int)<(o2.length:Int);omega⟩,?_⟩;conv=>whnf
     refine⟨by show(((i+b.length:Nat):Int)).toNat <o2.length;omega,fun(o:Int) ho2=>?_⟩;have ho2:o2[i+b.length]? =some o:=by
      have ho2:o2[(((i+b.length:Nat):Int)).toNat]? =some o:=ho2
      rwa [q7]at ho2
     rw[ho]at ho2;cases ho2
     have hsum:wA.wrap (wA.wrap 0+c)=c:=by rw[wU (x:=0) (by omega),wU (by omega)];omega
     have e1:wB.wrap (c % 4294967296)=c:=by simp[wE,wD,wF];omega
     have e3:=zht c (by omega);conv=>whnf
     refine⟨⟨by show(0:Int)<=((i+b.length:Nat):Int);omega,by show((i+b.length:Nat):Int)<(o2.length:Int);omega⟩,?_⟩;conv=>whnf
     refine⟨by show(((i+b.length:Nat):Int)).toNat <o2.length;omega,?_⟩;conv=>whnf
     refine⟨by decide,?_⟩;conv=>whnf
     refine⟨true,trivial,by decide,?_⟩
     ((conv=>whnf);refine q8 ?_ ?_;repeat' first|refine lc ?_ ?_|exact la0|exact lr rfl|exact ln0|refine lh1 ?_ ?_|exact lh0|exact bf0|exact bd0|refine bc0 ?_|exact bm0 rfl|exact bb0 rfl|exact bg0 rfl|exact li0 rfl|refine lg0 ?_|refine lt0 ?_|fail)
     .exact ai0 (by
       show(wA.wrap (wA.wrap 0+c)).fdiv 4294967296=0;rw[hsum,q4 _ (by decide)];omega)
     .exact ai0 (by show wC.wrap (((i+b.length:Nat):Int)+1)=_;rw[wI (by omega)];rfl)
     .exact bb0 (by
       show List.set o2 (((i+b.length:Nat):Int)).toNat (wB.wrap (wA.wrap ((q3 wA.bits (wA.wrap (wA.wrap 0+c))&&& q3 wA.bits 4294967295).toNat :Int)))=o2.set (i+b.length) c;rw[hsum,e3,e1,q7])
    .have h3:c=0:=by
      have h3: ¬(c>0):=Z1 h3;omega
     subst h3;have hss:=zse (by omega) (hkp (i+b.length) (qJ _));rw[hss]at hi4 hnx;conv=>whnf
     refine⟨(i+1,o2),⟨by simp only;omega,hk2,hk3,hi4,hnx⟩,by show a.length-(i+1)<a.length-i;omega,?_⟩
     ((conv=>whnf);refine q8 ?_ ?_;repeat' first|refine lc ?_ ?_|exact la0|exact lr rfl|exact ln0|refine lh1 ?_ ?_|exact lh0|exact bf0|exact bd0|refine bc0 ?_|exact bm0 rfl|exact bb0 rfl|exact bg0 rfl|exact li0 rfl|refine lg0 ?_|refine lt0 ?_|fail)
     .exact ai0 (by rw[wI (by simp only;omega)];simp only;omega)
 .have hi:i=a.length:=by simp only[Z3]at h1;omega
  subst hi;rw[qE (by omega)]at hi4;simp only[znk]at hi4;subst hi4;conv=>whnf
  refine gZn h326 ?_;conv=>whnf
  exact⟨lr rfl,lh0⟩
theorem r254 {d:Dy} (h:VD d):Fn 122 [] [.agg (dyC d)] (.agg (dyC (yn d))) []:=by
 refine VD.cases (P:=fun d=>Fn 122 [] [.agg (dyC d)] (.agg (dyC (yn d))) []) h ?_ (fun s n e hd hn _ _ _ _=>?_)
 .refine fnT hT6 hmx Tryz.func122 rfl rfl (ex:= []) ?_;conv=>whnf
  exact⟨lr rfl,lh0⟩
 .have hne:yn ⟨s,toL n,e⟩=⟨!s,toL n,e⟩:=by unfold yn;rw[Z5 (by rw[yj];omega)]
  have hl:=zgh hn;rw[hne];have hl2:decide (((toL n).length :Int)>0)=true:=by
   rw[beq_eq_false_iff_ne]at hl;exact Z6 (by omega)
  generalize toL n=t at*;cases s
  .refine fnT hT6 hmx Tryz.func122 rfl rfl (ex:= []) ?_;conv=>whnf
   exact⟨lg0 (lc (ab0 hl2) (lc (lr rfl) (lc (lr rfl) ln0))),lh0⟩
  .refine fnT hT6 hmx Tryz.func122 rfl rfl (ex:= []) ?_;conv=>whnf
   exact⟨lr rfl,lh0⟩
theorem r252 {d:Dy} (h:VD d):Fn 120 [] [.agg (dyC d)] (.int .i64 (zo d)) []:=by
 refine VD.cases (P:=fun d=>Fn 120 [] [.agg (dyC d)] (.int .i64 (zo d)) []) h ?_ (fun s n e hd hn hb h1 h2 h3=>?_)
 .refine fnT hT6 hmx Tryz.func120 rfl rfl (ex:= []) ?_;conv=>whnf
  exact⟨lr rfl,lh0⟩
 .have ht:zo ⟨s,toL n,e⟩=bl n+e:=by unfold zo;rw[Z5 (by rw[yj];omega),yj]
  have hl:=zgh hn;have h250:=r250 n (by have:=(qt n 128).2 (by omega);omega);clear hd;rw[ht];clear ht;generalize toL n=t at*;show Fn 120 [] [.agg [.bool s,.sl .u32 t,.int .i64 e]] _ [];refine fnT hT6 hmx Tryz.func120 rfl rfl (ex:= []) ?_;conv=>whnf
  rw[hl];conv=>whnf
  refine gZn h250 ?_;conv=>whnf
  (refine⟨by kernel_rfl,by kernel_rfl,?_⟩;(conv=>whnf))
  exact⟨ai0 (by rw[wI (by omega)]),lh0⟩
def zje (a b:Dy):Dy:=
 if nm a=0 then b else if nm b=0 then a else
 if a.neg=b.neg then cnN a.neg (nm a*2^(a.e-min a.e b.e).toNat +nm b*2^(b.e-min a.e b.e).toNat) (min a.e b.e)
 else if nm b*2^(b.e-min a.e b.e).toNat <=nm a*2^(a.e-min a.e b.e).toNat then cnN a.neg (nm a*2^(a.e-min a.e b.e).toNat -nm b*2^(b.e-min a.e b.e).toNat) (min a.e b.e)
 else cnN b.neg (nm b*2^(b.e-min a.e b.e).toNat -nm a*2^(a.e-min a.e b.e).toNat) (min a.e b.e)
theorem zx5 {x y k:Nat} (h1:bl x<=k) (h2:bl y<=k):bl (x+y)<=k+1:=by
 have c1:=ww.1 h1;have c2:=ww.1 h2;exact ww.2 (by rw[qX];omega)
theorem zf1 {x y k:Nat} (h:x<=y) (hy:(toL y).length <=k):(toL x).length <=k:=by
 rw[jp]at hy⊢;omega
theorem r253 {a b:Dy} (ha:VD a) (hb:VD b):Fn 121 [] [.agg (dyC a),.agg (dyC b)] (.agg (dyC (zje a b))) []:=by
 refine VD.cases (P:=fun a=>Fn 121 [] [.agg (dyC a),.agg (dyC b)] (.agg (dyC (zje a b))) []) ha ?_ (fun s x e _ hx hxb h1 h2 h3=>?_)
 .rw[show zje d0 b=b by unfold zje;rw[Z4 zjx]];obtain⟨t,m,f⟩:=b;refine fnT hT6 hmx Tryz.func121 rfl rfl (ex:= []) ?_;conv=>whnf
  exact⟨lr rfl,lh0⟩
 refine VD.cases (P:=fun b=>Fn 121 [] [.agg (dyC ⟨s,toL x,e⟩),.agg (dyC b)] (.agg (dyC (zje ⟨s,toL x,e⟩ b))) []) hb ?_ (fun t y f _ hy hyb g1 g2 g3=>?_)
 .rw[show zje ⟨s,toL x,e⟩ d0=⟨s,toL x,e⟩ by unfold zje;rw[Z5 (by rw[yj];omega),Z4 zjx]];have hl:=zgh hx;generalize toL x=m at*;refine fnT hT6 hmx Tryz.func121 rfl rfl (ex:= []) ?_;conv=>whnf
  rw[hl];conv=>whnf
  exact⟨lr rfl,lh0⟩
 have es:zje ⟨s,toL x,e⟩ ⟨t,toL y,f⟩=if s=t then cnN s (x*2^(e-min e f).toNat +y*2^(f-min e f).toNat) (min e f)
  else if y*2^(f-min e f).toNat <=x*2^(e-min e f).toNat then cnN s (x*2^(e-min e f).toNat -y*2^(f-min e f).toNat) (min e f)
  else cnN t (y*2^(f-min e f).toNat -x*2^(e-min e f).toNat) (min e f):=by
  unfold zje;rw[Z5 (by rw[yj];omega),Z5 (by rw[yj];omega),yj,yj]
 rw[es];have hlx:=zgh hx;have hly:=zgh hy;have hmin:(if f<e then f else e)=min e f:=by split<;>omega
 have k1:wC.wrap (e-min e f)=((e-min e f).toNat :Int):=by rw[wI (by omega)];omega
 have k2:wC.wrap (f-min e f)=((f-min e f).toNat :Int):=by rw[wI (by omega)];omega
 have hK1:(e-min e f).toNat <=32768:=by omega
 have hK2:(f-min e f).toNat <=32768:=by omega
 have q1:=r295 x (e-min e f).toNat (by have:=(qt x 128).2 (by omega);omega) (by omega);have q2:=r295 y (f-min e f).toNat (by have:=(qt y 128).2 (by omega);omega) (by omega);have b1:(toL (x*2^(e-min e f).toNat)).length <=2000:=by rw[qt,ql _ _ (by omega)];omega
 have b2:(toL (y*2^(f-min e f).toNat)).length <=2000:=by rw[qt,ql _ _ (by omega)];omega
 have hm: -16384<=min e f/\min e f<=16384:=by omega
 generalize (e-min e f).toNat =K1 at*;generalize (f-min e f).toNat =K2 at*;generalize x*2^K1=X at*;generalize y*2^K2=Y at*;have r168':=r168 X Y (by omega) (by omega);have p1:=r297 (zx X) (zx Y) (by omega) (by omega);rw[zt,zt]at p1;have o1:=qd0 s (zx (X+Y)) (by
  have:(toL (X+Y)).length <=2001:=by
   rw[qt]at b1 b2⊢;have:=zx5 b1 b2;omega
  omega) (min e f) (by omega)
 rw[zt]at o1;have o2:=fun(h:Y<=X)=>qd0 s (zx (X-Y)) (zf1 (show X-Y<=X by omega) (w6 b1 (by omega))) (min e f) (by omega)
 have o3:=fun(h:X<=Y)=>qd0 t (zx (Y-X)) (zf1 (show Y-X<=Y by omega) (w6 b2 (by omega))) (min e f) (by omega)
 have m1:=fun(h:Y<=X)=>r298 (zx X) (zx Y) (by omega) (zf1 h (qJ _)) (by rw[zt,zt];exact h)
 have m2:=fun(h:X<=Y)=>r298 (zx Y) (zx X) (by omega) (zf1 h (qJ _)) (by rw[zt,zt];exact h)
 simp only[zt]at o2 o3 m1 m2;generalize toL (X+Y)=XP at*;generalize toL (X-Y)=XM at*;generalize toL (Y-X)=YM at*;generalize toL X=LX at*;generalize toL Y=LY at*;generalize toL x=lx at*;generalize toL y=ly at*;by_cases hst:s=t
 .subst hst;rw[Z4 rfl];generalize cnN s (X+Y) (min e f)=R at*;have hbb:(s==s)=true:=by simp
  show Fn 121 [] [.agg [.bool s,.sl .u32 lx,.int .i64 e],.agg [.bool s,.sl .u32 ly,.int .i64 f]] _ [];refine fnT hT6 hmx Tryz.func121 rfl rfl (ex:= []) ?_;conv=>whnf
  rw[hlx];conv=>whnf
  rw[hly];conv=>whnf
  rw[hmin,k1];refine gZn q1 ?_;conv=>whnf
  rw[k2];refine gZn q2 ?_;conv=>whnf
  (refine⟨by kernel_rfl,by kernel_rfl,?_⟩;(conv=>whnf))
  refine brI (fun h=>?_) (fun h=>?_)
  .conv=>whnf
   refine gZn p1 ?_;conv=>whnf
   refine gZn o1 ?_;conv=>whnf
   (refine⟨by kernel_rfl,by kernel_rfl,?_⟩;(conv=>whnf))
   exact⟨lr rfl,lh0⟩
  .have h:(s==s)=false:=h;rw[hbb]at h;cases h
 .rw[Z5 hst];have hor:(0<=xp X Y)<->Y<=X:=by
   unfold xp;split
   .constructor
    .intro h;omega
    .intro h;omega
   .split
    .constructor
     .intro h;omega
     .intro h;omega
    .constructor
     .intro h;omega
     .intro h;omega
  have hres: ∀Q:Dy,(Y<=X->Q=cnN s (X-Y) (min e f))->(¬Y<=X->Q=cnN t (Y-X) (min e f))->Fn 121 [] [.agg [.bool s,.sl .u32 lx,.int .i64 e],.agg [.bool t,.sl .u32 ly,.int .i64 f]] (.agg (dyC Q)) []:=fun Q hQ1 hQ2=>by
   generalize xp X Y=O at*;generalize cnN s (X-Y) (min e f)=R1 at*;generalize cnN t (Y-X) (min e f)=R2 at*;refine fnT hT6 hmx Tryz.func121 rfl rfl (ex:= []) ?_;conv=>whnf
   rw[hlx];conv=>whnf
   rw[hly];conv=>whnf
   rw[hmin,k1];refine gZn q1 ?_;conv=>whnf
   rw[k2];refine gZn q2 ?_;conv=>whnf
   (refine⟨by kernel_rfl,by kernel_rfl,?_⟩;(conv=>whnf))
   refine brI (fun h=>?_) (fun h=>?_)
   .have h:(s==t)=true:=h;exact absurd (by simpa using h) hst
   conv=>whnf
   refine gZn r168' ?_;conv=>whnf
   refine brI (fun h=>?_) (fun h=>?_)
   .have h:0<=O:=Z0 h;have h:=hor.1 h;rw[hQ1 h];conv=>whnf
    refine gZn (m1 h) ?_;conv=>whnf
    refine gZn (o2 h) ?_;conv=>whnf
    (refine⟨by kernel_rfl,by kernel_rfl,?_⟩;(conv=>whnf))
    exact⟨lr rfl,lh0⟩
   .have h: ¬0<=O:=Z1 h;have h:=fun c=>h (hor.2 c)
    rw[hQ2 h];conv=>whnf
    refine gZn (m2 (by omega)) ?_;conv=>whnf
    refine gZn (o3 (by omega)) ?_;conv=>whnf
    (refine⟨by kernel_rfl,by kernel_rfl,?_⟩;(conv=>whnf))
    exact⟨lr rfl,lh0⟩
  exact hres _ (fun h=>by rw[Z4 h]) (fun h=>by rw[Z5 h])
theorem r301 {a b:Dy} (ha:VD a) (hb:VD b):Fn 123 [] [.agg (dyC a),.agg (dyC b)] (.agg (dyC (cnN (a.neg != b.neg) (nm a*nm b) (a.e+b.e)))) []:=by
 have ea:=ha.exp;have eb:=hb.exp;have h1:(toL (nm a)).length <=128:=(qt _ _).2 ha.bits;have h2:(toL (nm b)).length <=128:=(qt _ _).2 hb.bits;have h330:=r330 (nm a) (nm b) (by omega) (by omega);have h3:(toL (nm a*nm b)).length <=300:=by
  rw[qt];have:=zbz (nm a) (nm b);have:=ha.bits;have:=hb.bits;omega
 have hA:toL (nm a)=a.m:=ha.eq.symm;have hB:toL (nm b)=b.m:=hb.eq.symm;rw[hA,hB]at h330;have ho:=qd0 (a.neg != b.neg) (zx (nm a*nm b)) (by omega) (a.e+b.e) (by omega);rw[zt]at ho;generalize nm a*nm b=N at*;generalize toL N=M at*;obtain⟨s,x,e⟩:=a;obtain⟨t,y,f⟩:=b;simp only at*;generalize cnN (s != t) N (e+f)=R at*;obtain⟨u,z,g⟩:=R;refine fnT hT6 hmx Tryz.func123 rfl rfl (ex:= []) ?_;conv=>whnf
 refine gZn h330 ?_;conv=>whnf
 rw[wI (x:=e+f) (by omega)];refine gZn ho ?_;conv=>whnf
 (refine⟨by kernel_rfl,by kernel_rfl,?_⟩;(conv=>whnf))
 exact⟨lr rfl,lh0⟩
theorem and1 {y:Nat} (hy:y<4294967296):wB.wrap ((q3 wB.bits (y:Int)&&& q3 wB.bits 1).toNat :Int)=((y % 2:Nat):Int):=by
 have e1:(q3 32 (y:Int)).toNat =y:=by rw[qK,qM];exact qS hy
 have e2:(q3 32 1).toNat =2^1-1:=by decide
 show wB.wrap ((q3 32 (y:Int)&&& q3 32 1).toNat :Int)=_;rw[qT,e1,e2,qC,zq9 (by omega)]
theorem qd1 (d:Dy) (hb:LB d.m) (hl:d.m.length<9223372036854775808):Fn 25 [] [.agg (dyC d)] (.bool (vB d)) []:=by
 obtain⟨A,hA⟩: ∃A,vB d=A:=⟨_,rfl⟩;rw[hA];unfold vB at hA;obtain⟨neg,m,e⟩:=d;simp only at hb hl hA;show Fn 25 [] [.agg [.bool neg,.sl .u32 m,.int .i64 e]] _ [];by_cases h0:m.length=0
 .rw[Z4 h0]at hA;obtain rfl:=qI h0;cases neg
  .refine fnT hT6 hmx Tryz.func25 rfl rfl (ex:= []) ?_;conv=>whnf
   refine⟨ab0 ?_,lh0⟩;rw[<-hA,qZ];show(e==0)=true<->_;simp
  .subst hA;refine fnT hT6 hmx Tryz.func25 rfl rfl (ex:= []) ?_;conv=>whnf
   exact⟨lr rfl,lh0⟩
 rw[Z5 h0]at hA;have hl0:(((m.length:Nat):Int)==0)=false:=by rw[beq_eq_false_iff_ne];omega
 have hw:wC.wrap ((m.length:Int)-1)=((m.length-1:Nat):Int):=by rw[wI (by omega)];omega
 have hxl:m[m.length-1]? =some m[m.length-1]:=q0 (by omega);have hx0:m[0]? =some m[0]:=q0 (by omega);have hbl:=hb _ (q9 (l:=m) (n:=m.length-1) (by omega));have hb0:=hb _ (q9 (l:=m) (n:=0) (by omega));generalize m[m.length-1]=z at hxl hbl;generalize m[0]=y at hx0 hb0;have hg:m.getLast?=some z:=by rw[qP];exact hxl
 rw[hx0,hg]at hA;simp only[q5]at hA;obtain⟨y,rfl⟩:=Int.eq_ofNat_of_zero_le hb0.1;have ha1:=and1 (y:=y) (by omega);have hty:((y:Nat):Int).tmod 2=((y % 2:Nat):Int):=qN y 2;have ed:decide (((y:Nat):Int).tmod 2=1)=decide (y % 2=1):=decide_eq_decide.2 (by rw[hty];omega);have hA:(decide (m.length<=256)&&decide (y % 2=1)&&decide (z≠0)&&irB ⟨neg,m,e⟩)=A:=by rw[<-ed];exact hA
 refine fnT hT6 hmx Tryz.func25 rfl rfl (ex:= []) ?_;conv=>whnf
 rw[hl0];conv=>whnf
 refine brI (fun h1=>?_) (fun h1=>?_)
 .have h1:256<m.length:=by have h1:((m.length:Nat):Int)>256:=Z0 h1;omega
  rw[Z7 (show ¬m.length<=256 by omega),qG,qG,qG]at hA;subst hA;conv=>whnf
  exact⟨lr rfl,lh0⟩
 have h1:m.length<=256:=by have h1: ¬((m.length:Nat):Int)>256:=Z1 h1;omega
 rw[Z6 h1,w5]at hA;conv=>whnf
 rw[hw];refine⟨⟨by omega,by omega⟩,fun(x:Int) hx=>?_⟩;have hx:m[m.length-1]? =some x:=by simpa using hx
 rw[hxl]at hx;cases hx
 conv=>whnf
 refine brI (fun h2=>?_) (fun h2=>?_)
 .have h2:z=0:=by
   have h2:(z==0)=true:=h2;simpa using h2
  rw[Z7 (show ¬z≠0 by omega),Bool.and_false,qG]at hA;subst hA;conv=>whnf
  exact⟨lr rfl,lh0⟩
 have h2:z≠0:=by
  have h2:(z==0)=false:=h2;simpa using h2
 rw[Z6 h2,Bool.and_true]at hA;conv=>whnf
 refine⟨⟨by omega,by omega⟩,fun(x:Int) hx=>?_⟩;have hx:m[0]? =some x:=by simpa using hx
 rw[hx0]at hx;cases hx
 conv=>whnf
 rw[ha1];refine brI (fun h3=>?_) (fun h3=>?_)
 .have h3:y % 2=0:=by
   have h3:(((y % 2:Nat):Int)==0)=true:=h3;rw[beq_iff_eq]at h3;omega
  rw[Z7 (show ¬y % 2=1 by omega),qG]at hA;subst hA;conv=>whnf
  exact⟨lr rfl,lh0⟩
 have h3:y % 2=1:=by
  have h3:(((y % 2:Nat):Int)==0)=false:=h3;rw[beq_eq_false_iff_ne]at h3;omega
 rw[Z6 h3,w5]at hA;unfold irB at hA;simp only at hA;rw[zi3 hb]at hA;have he:=zoj hb (by rw[hg];exact h2);have hv:val m≠0:=fun c=>h0 (by rw[he,c];rfl)
 have hbz:bl (val m)≠0:=fun c=>hv (zaf.1 c)
 rw[Z7 (by omega),Bool.false_or]at hA;have h250:=r250 (val m) (by rw[<-he];omega);rw[<-he]at h250;have hbm:bl (val m)<=32*256:=(qt _ _).1 (by rw[<-he];exact h1);generalize bl (val m)=B at*;conv=>whnf
 refine brI (fun h4=>?_) (fun h4=>?_)
 .have h4:e< -16384:=Z0 h4;rw[show A=false by rw[<-hA];simp;omega];conv=>whnf
  exact⟨lr rfl,lh0⟩
 have h4: ¬e< -16384:=Z1 h4;conv=>whnf
 refine brI (fun h5=>?_) (fun h5=>?_)
 .have h5:e>16384:=Z0 h5;rw[show A=false by rw[<-hA];simp;omega];conv=>whnf
  exact⟨lr rfl,lh0⟩
 have h5: ¬e>16384:=Z1 h5;conv=>whnf
 refine gZn h250 ?_;conv=>whnf
 refine brI (fun h6=>?_) (fun h6=>?_)
 .have h6:(B:Int)<=4096:=Z0 h6;conv=>whnf
  refine⟨ab0 ?_,lh0⟩;rw[wI (by omega),<-hA,qZ];simp only[Bool.and_eq_true,Z2];omega
 .have h6: ¬(B:Int)<=4096:=Z1 h6;rw[show A=false by rw[<-hA];simp;omega];conv=>whnf
  exact⟨lr rfl,lh0⟩
theorem zyv {d:Dy} (h:VD d):sgR d=jd d:=by
 refine VD.cases (P:=fun d=>sgR d=jd d) h rfl (fun s n e hd hn _ _ _ _=>?_);unfold sgR jd;have hl:(toL n).length ≠0:=by rw[Ne,kd];omega
 rw[Z5 hl,yj,Z5 (show ¬n=0 by omega)]
theorem zsd (neg:Bool) (n:Nat) (e:Int):sgR (cnN neg n e)=if n=0 then 0 else if neg=true then-1 else 1:=by
 unfold cnN;split
 .rfl
 .rename_i h;obtain⟨m,h1,h2⟩:=zcr h;have h3:n/2^tz n=m:=qO (w9 _) h1;unfold sgR;simp only;rw[Z5 (by rw[kd,h3];omega)]
theorem zuy {a b:Dy} (hs:jd a=jd b) (h0:jd a≠0):(zo a<zo b->qd a b= -jd a)/\(zo b<zo a->qd a b=jd a)/\qd a b=sgR (zje a (yn b)):=by
 have ha0:nm a≠0:=fun c=>h0 (by unfold jd;rw[Z4 c])
 have hb0:nm b≠0:=fun c=>h0 (by rw[hs];unfold jd;rw[Z4 c])
 have hneg:a.neg=b.neg:=by
  unfold jd at hs;rw[Z5 ha0,Z5 hb0]at hs;cases h1:a.neg<;>cases h2:b.neg<;>simp_all
 have e1:zo a=bl (nm a)+a.e:=by unfold zo;rw[Z5 ha0]
 have e2:zo b=bl (nm b)+b.e:=by unfold zo;rw[Z5 hb0]
 have q1:=ql (nm a) (a.e-min a.e b.e).toNat ha0;have q2:=ql (nm b) (b.e-min a.e b.e).toNat hb0;have hd:=zmi hs h0;have hn:yn b=⟨!b.neg,b.m,b.e⟩:=by unfold yn;rw[Z5 hb0]
 have hnn:nm (yn b)=nm b:=by rw[hn];rfl
 have hS:zje a (yn b)=if nm b*2^(b.e-min a.e b.e).toNat <=nm a*2^(a.e-min a.e b.e).toNat then cnN a.neg (nm a*2^(a.e-min a.e b.e).toNat -nm b*2^(b.e-min a.e b.e).toNat) (min a.e b.e)
  else cnN (!b.neg) (nm b*2^(b.e-min a.e b.e).toNat -nm a*2^(a.e-min a.e b.e).toNat) (min a.e b.e):=by
  unfold zje;rw[hnn,Z5 ha0,Z5 hb0,hn];simp only;rw[Z5 (by rw[hneg];cases b.neg<;>simp)]
 rw[hS,hd];unfold cmA;generalize nm a*2^(a.e-min a.e b.e).toNat =X at*;generalize nm b*2^(b.e-min a.e b.e).toNat =Y at*;refine⟨fun h=>?_,fun h=>?_,?_⟩
 .rw[zng (zx4 (by omega))];omega
 .rw[znh (zx4 (by omega))];omega
 .have hsa:jd a=if a.neg=true then-1 else 1:=by unfold jd;rw[Z5 ha0]
  by_cases h:Y<=X
  .rw[Z4 h,zsd];by_cases h2:X=Y
   .subst h2;rw[Z4 (by omega)];unfold xp;rw[Z5 (by omega),Z5 (by omega)];omega
   .rw[Z5 (by omega),znh (by omega),hsa];omega
  .rw[Z5 h,zsd,Z5 (by omega),zng (by omega),hsa,hneg];cases b.neg<;>rfl
theorem zwm {a b:Dy} (ha:VD a) (hb:VD b):Fn 52 [] [.agg (dyC a),.agg (dyC b)] (.int .i64 (qd a b)) []:=by
 have s1:=r251 a;have s2:=r251 b;have t1:=r252 ha;have t2:=r252 hb;have n1:=r254 hb;have hnb:VD (yn b):=zd8 hb;have m1:=r253 ha hnb;have z1:=r251 (zje a (yn b));have c1:=zpv (a:=a) (b:=b);have c2:=zuy (a:=a) (b:=b);rw[zyv ha]at s1;rw[zyv hb]at s2;have hz:jd a=0\/jd a=1\/jd a= -1:=by unfold jd;split<;>(try split)<;>simp
 generalize sgR (zje a (yn b))=Z at*;generalize zje a (yn b)=SX at*;generalize yn b=NB at*;generalize qd a b=C at*;generalize jd a=sa at*;generalize jd b=sb at*;have ea:=ha.exp;have eb:=hb.exp;generalize zo a=ta at*;generalize zo b=tb at*;refine fnT hT6 hmx Tryz.func52 rfl rfl (ex:= []) ?_;conv=>whnf
 refine gZn s1 ?_;conv=>whnf
 refine gZn s2 ?_;conv=>whnf
 (refine⟨by kernel_rfl,by kernel_rfl,?_⟩;(conv=>whnf))
 refine brI (fun h1=>?_) (fun h1=>?_)
 .have h1:sa≠sb:=by
   have h1:(sa != sb)=true:=h1;simpa using h1
  conv=>whnf
  refine brI (fun h2=>?_) (fun h2=>?_)
  .have h2:sa<sb:=Z0 h2;rw[c1.1 h2];conv=>whnf
   exact⟨lr rfl,lh0⟩
  .have h2: ¬sa<sb:=Z1 h2;rw[c1.2.1 (by omega)];conv=>whnf
   exact⟨lr rfl,lh0⟩
 have h1:sa=sb:=by
  have h1:(sa != sb)=false:=h1;simpa using h1
 conv=>whnf
 refine brI (fun h2=>?_) (fun h2=>?_)
 .have h2:sa=0:=by
   have h2:(sa==0)=true:=h2;simpa using h2
  rw[c1.2.2 h1 h2];conv=>whnf
  exact⟨lr rfl,lh0⟩
 have h2:sa≠0:=by
  have h2:(sa==0)=false:=h2;simpa using h2
 obtain⟨d1,d2,d3⟩:=c2 h1 h2;conv=>whnf
 refine gZn t1 ?_;conv=>whnf
 refine gZn t2 ?_;conv=>whnf
 (refine⟨by kernel_rfl,by kernel_rfl,?_⟩;(conv=>whnf))
 refine brI (fun h3=>?_) (fun h3=>?_)
 .have h3:ta≠tb:=by
   have h3:(ta != tb)=true:=h3;simpa using h3
  conv=>whnf
  refine gZn t1 ?_;conv=>whnf
  refine gZn t2 ?_;conv=>whnf
  (refine⟨by kernel_rfl,by kernel_rfl,?_⟩;(conv=>whnf))
  refine brI (fun h4=>?_) (fun h4=>?_)
  .have h4:(decide (ta<tb)==decide (sa>0))=true:=h4;have hC:C= -1:=by
    rcases hz with hz|hz|hz
    .exact absurd hz h2
    .have:ta<tb:=by simpa[hz]using h4
     rw[d1 this,hz]
    .have: ¬ta<tb:=by simpa[hz]using h4
     rw[d2 (by omega),hz]
   rw[hC];conv=>whnf
   exact⟨lr rfl,lh0⟩
  .have h4:(decide (ta<tb)==decide (sa>0))=false:=h4;have hC:C=1:=by
    rcases hz with hz|hz|hz
    .exact absurd hz h2
    .have: ¬ta<tb:=by simpa[hz]using h4
     rw[d2 (by omega),hz]
    .have:ta<tb:=by simpa[hz]using h4
     rw[d1 this,hz];rfl
   rw[hC];conv=>whnf
   exact⟨lr rfl,lh0⟩
 rw[d3];conv=>whnf
 refine gZn n1 ?_;conv=>whnf
 refine gZn m1 ?_;conv=>whnf
 refine gZn z1 ?_;conv=>whnf
 (refine⟨by kernel_rfl,by kernel_rfl,?_⟩;(conv=>whnf))
 exact⟨lr rfl,lh0⟩
theorem fdB (s:Nat):((s:Nat):Int).fdiv 4294967296=((s/4294967296:Nat):Int):=by rw[q4 _ (by decide)];simp
theorem loB {s:Nat} (hs:s<18446744073709551616):wB.wrap (wA.wrap ((q3 wA.bits (s:Int)&&& q3 wA.bits 4294967295).toNat :Int))=((s % 4294967296:Nat):Int):=by
 rw[zht _ (by omega)];simp[wE,wD,wF]
theorem r262 (n:Int) (h: -4611686018427387904<=n/\n<=4611686018427387904):Fn 54 [] [.int .i64 n] (.agg (dyC (ux n))) []:=by
 have hv:val [((n.natAbs % 4294967296:Nat):Int),((n.natAbs/4294967296:Nat):Int)]=n.natAbs:=by
  rw[qs,qs,q7,q7];simp only[val];omega
 have hb:LB [((n.natAbs % 4294967296:Nat):Int),((n.natAbs/4294967296:Nat):Int)]:=fun z hz=>by
  simp only[List.mem_cons,List.not_mem_nil,or_false]at hz;rcases hz with rfl|rfl<;>omega
 have h296:=qd0 (decide (n<0)) hb (by simp) 0 (by omega);rw[hv]at h296;have h296:Fn 124 [] [.bool (decide (n<0)),.sl .u32 [((n.natAbs % 4294967296:Nat):Int),((n.natAbs/4294967296:Nat):Int)],.int .i64 0] (.agg (dyC (ux n))) []:=h296;have e1:=loB (s:=n.natAbs) (by omega);have e3:wB.wrap (((n.natAbs:Nat):Int).fdiv (2^min (Int.toNat 32) wA.bits))=((n.natAbs/4294967296:Nat):Int):=by
  show wB.wrap (((n.natAbs:Nat):Int).fdiv 4294967296)=_;rw[fdB,zq9 (by omega)]
 generalize ux n=R at*;refine fnT hT6 hmx Tryz.func54 rfl rfl (ex:= []) ?_;conv=>whnf
 refine brI (fun h1=>?_) (fun h1=>?_)
 .have h1:n<0:=Z0 h1;have ew:wA.wrap (0-wA.wrap n)=(n.natAbs:Int):=by
   rw[show wA.wrap n=n+18446744073709551616 by simp[wE,wD,wF];omega];simp[wE,wD,wF];omega
  conv=>whnf
  rw[ew,e1];refine⟨by decide,?_⟩;conv=>whnf
  rw[e3];refine gZn h296 ?_;conv=>whnf
  exact⟨lr rfl,lh0⟩
 .have h1: ¬n<0:=Z1 h1;have ew:wA.wrap n=(n.natAbs:Int):=by
   rw[wU (by omega)];omega
  conv=>whnf
  rw[ew,e1];refine⟨by decide,?_⟩;conv=>whnf
  rw[e3];refine gZn h296 ?_;conv=>whnf
  exact⟨lr rfl,lh0⟩
theorem r173 (d:Dy):Fn 157 [] [.agg (dyC d)] (.bool (zrB d)) []:=by
 obtain⟨R,hR⟩: ∃R,zrB d=R:=⟨_,rfl⟩;rw[hR];unfold zrB at hR;obtain⟨d1,d2,d3⟩:=d;simp only at hR;show Fn 157 [] [.agg [.bool d1,.sl .u32 d2,.int .i64 d3]] _ [];refine fnT hT6 hmx Tryz.func157 rfl rfl (ex:= []) ?_;conv=>whnf
 cases d1 with
 |true=>
  conv=>whnf
  exact⟨ab0 hR,lh0⟩
 |false=>
  conv=>whnf
  refine brI (fun h1=>?_) (fun h1=>?_)
  .have h2:d2.length=0:=by have h1:((d2.length:Int)==0)=true:=h1;rw[beq_iff_eq]at h1;omega
   rw[Z6 h2]at hR;conv=>whnf
   exact⟨ab0 (by rw[<-hR];simp;rw[qZ];simp),lh0⟩
  .have h2: ¬d2.length=0:=by have h1:((d2.length:Int)==0)=false:=h1;rw[beq_eq_false_iff_ne]at h1;omega
   rw[Z7 h2]at hR;conv=>whnf
   exact⟨ab0 (by rw[<-hR];simp),lh0⟩
theorem qd2 (x:Iv) (h:RI x):Fn 74 [] [.agg (ivC x)] (.bool (viB x)) []:=by
 have hlo:=qd1 x.lo h.lo h.l1;have hhi:=qd1 x.hi h.hi h.l2;have zlo:=r173 x.lo;have zhi:=r173 x.hi;have hc:vB x.lo=true->vB x.hi=true->Fn 52 [] [.agg (dyC x.lo),.agg (dyC x.hi)] (.int .i64 (qd x.lo x.hi)) []:=fun h1 h2=>zwm ((yu h.lo).1 h1) ((yu h.hi).1 h2)
 obtain⟨R,hR⟩: ∃R,viB x=R:=⟨_,rfl⟩;rw[hR];unfold viB at hR;generalize vB x.lo=a at*;generalize vB x.hi=b at*;generalize zrB x.lo=c at*;generalize zrB x.hi=d at*;generalize qd x.lo x.hi=C at*;clear h;obtain⟨⟨x1,x2,x3⟩,⟨x4,x5,x6⟩,x7⟩:=x;simp only at hR;have hlo:Fn 25 [] [.agg [.bool x1,.sl .u32 x2,.int .i64 x3]] (.bool a) []:=hlo;have hhi:Fn 25 [] [.agg [.bool x4,.sl .u32 x5,.int .i64 x6]] (.bool b) []:=hhi;have zlo:Fn 157 [] [.agg [.bool x1,.sl .u32 x2,.int .i64 x3]] (.bool c) []:=zlo;have zhi:Fn 157 [] [.agg [.bool x4,.sl .u32 x5,.int .i64 x6]] (.bool d) []:=zhi;have hc:a=true->b=true->Fn 52 [] [.agg [.bool x1,.sl .u32 x2,.int .i64 x3],.agg [.bool x4,.sl .u32 x5,.int .i64 x6]] (.int .i64 C) []:=hc;show Fn 74 [] [.agg [.bool x1,.sl .u32 x2,.int .i64 x3,.bool x4,.sl .u32 x5,.int .i64 x6,.bool x7]] _ [];refine fnT hT6 hmx Tryz.func74 rfl rfl (ex:= []) ?_;conv=>whnf
 cases x7 with
 |true=>
  rw[Z4 rfl]at hR
  cases c with
  |false=>
   conv=>whnf
   refine gZn zlo ?_;conv=>whnf
   exact⟨ab0 hR,lh0⟩
  |true=>
   conv=>whnf
   refine gZn zlo ?_;conv=>whnf
   refine gZn zhi ?_;conv=>whnf
   exact⟨ab0 (by rw[<-hR,w5]),lh0⟩
 |false=>
  rw[Z5 (by simp)]at hR
  cases a with
  |false=>
   conv=>whnf
   refine gZn hlo ?_;conv=>whnf
   exact⟨ab0 (by rw[<-hR];rfl),lh0⟩
  |true=>
   cases b with
   |false=>
    conv=>whnf
    refine gZn hlo ?_;conv=>whnf
    refine gZn hhi ?_;conv=>whnf
    exact⟨ab0 (by rw[<-hR];rfl),lh0⟩
   |true=>
    conv=>whnf
    refine gZn hlo ?_;conv=>whnf
    refine gZn hhi ?_;conv=>whnf
    refine gZn (hc rfl rfl) ?_;conv=>whnf
    exact⟨ab0 (by rw[<-hR];rfl),lh0⟩
def zw6 (a b:Dy):Dy:=if qd a b<=0 then a else b
def zii (a b:Dy):Dy:=if 0<=qd a b then a else b
theorem r162 {a b:Dy} (ha:VD a) (hb:VD b):Fn 76 [] [.agg (dyC a),.agg (dyC b)] (.agg (dyC (zw6 a b))) []:=by
 have h:=zwm ha hb;unfold zw6;generalize qd a b=C at*;refine fnT hT6 hmx Tryz.func76 rfl rfl (ex:= []) ?_;conv=>whnf
 refine gZn h ?_;conv=>whnf
 refine brI (fun c=>?_) (fun c=>?_)
 .have c:C<=0:=Z0 c;rw[Z4 c];conv=>whnf
  exact⟨lr rfl,lh0⟩
 .have c: ¬C<=0:=Z1 c;rw[Z5 c];conv=>whnf
  exact⟨lr rfl,lh0⟩
theorem r163 {a b:Dy} (ha:VD a) (hb:VD b):Fn 75 [] [.agg (dyC a),.agg (dyC b)] (.agg (dyC (zii a b))) []:=by
 have h:=zwm ha hb;unfold zii;generalize qd a b=C at*;refine fnT hT6 hmx Tryz.func75 rfl rfl (ex:= []) ?_;conv=>whnf
 refine gZn h ?_;conv=>whnf
 refine brI (fun c=>?_) (fun c=>?_)
 .have c:0<=C:=Z0 c;rw[Z4 c];conv=>whnf
  exact⟨lr rfl,lh0⟩
 .have c: ¬0<=C:=Z1 c;rw[Z5 c];conv=>whnf
  exact⟨lr rfl,lh0⟩
def zed (x:Iv):Dy:=zii (yn x.lo) x.hi
theorem r307 {x:Iv} (h:KI x):Fn 116 [] [.agg (ivC x)] (.agg (dyC (zed x))) []:=by
 have n1:=r254 h.lo;have m1:=r163 (zd8 h.lo) h.hi;unfold zed;generalize zii (yn x.lo) x.hi=M at*;generalize yn x.lo=N at*;clear h;refine fnT hT6 hmx Tryz.func116 rfl rfl (ex:= []) ?_;conv=>whnf
 refine gZn n1 ?_;conv=>whnf
 refine gZn m1 ?_;conv=>whnf
 (refine⟨by kernel_rfl,by kernel_rfl,?_⟩;(conv=>whnf))
 exact⟨lr rfl,lh0⟩
