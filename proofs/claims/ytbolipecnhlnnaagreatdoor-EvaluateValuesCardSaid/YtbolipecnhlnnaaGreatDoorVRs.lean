/- The reference's quotient (layer 1, DivMod), bit by bit: plain steps on lists of limbs. -/
import Derived.Test.YtbolipecnhlnnaaGreatDoorVRa
import Derived.Test.YtbolipecnhlnnaaGreatDoorVYl
set_option linter.all false
open And renaming intro->qG
open BitVec renaming ofInt->q3
open Bool renaming and_eq_true->qH
open Int renaming toNat_natCast->q0,eq_ofNat_of_zero_le->q8,toNat->qB,fdiv_eq_ediv_of_nonneg->qC
open List renaming getElem?_eq_getElem->q4,take_of_length_le->q5,mem_of_getElem?->q6,replicate->qd,set->qD,take_length->qF,getElem_mem->qO
open Nat renaming div_add_mod->jA,pow_succ->q9,mod_lt->qn,pow_add->qA,pos_of_ne_zero->qE,div_div_eq_div_mul->qI,two_pow_pos->qJ,le_refl->qK,div_mod_unique->qL,mul_comm->qM,mod_eq_of_lt->qN,div_le_self->qP
open Go.IntKind renaming u32->qQ,i64->qR,u64->qS
namespace Go.Proofs.YtbolipecnhlnnaaGreatDoor
open Go Go.Sx
set_option maxRecDepth 100000
set_option maxHeartbeats 2000000
theorem zze(l:List Int)(k:Nat)(v:Int):(l.set k v).take k=l.take k:=by
 grind[List.take_set_of_le]
theorem zfq(l:List Int)(k:Nat)(v:Int):(l.set k v).drop (k+1)=l.drop (k+1):=by
 grind[List.drop_set_of_lt]
theorem zhg{l o:List Int}{k:Nat}(h:l.drop k=o.drop k):l[k]? =o[k]? :=by
 have:=congrArg (fun z:List Int=>z[0]?) h;grind
theorem zdj{l o:List Int}{k:Nat}(h:l.drop k=o.drop k):l.drop (k+1)=o.drop (k+1):=by
 have:=congrArg (fun z:List Int=>z.drop 1) h;grind[List.drop_drop]
theorem zav{l:List Int}{k:Nat}(h:k<l.length)(v:Nat):val ((l.set k (v:Int)).take (k+1))=val (l.take k)+4294967296^k*v:=by
 rw[kb,zze,List.getElem?_set_self h];simp
structure DbI(o l:List Int)(k c c0:Nat):Prop where
 len:l.length=o.length
 lb:LB l
 c1:c<=1
 drop:l.drop k=o.drop k
 sum:val (l.take k)+4294967296^k*c=2*val (o.take k)+c0
theorem DbI.zero{o:List Int}(h:LB o){c:Nat}(hc:c<=1):DbI o o 0 c c:=⟨rfl,h,hc,rfl,by simp[val]⟩
theorem DbI.step{o l:List Int}{k c c0 x:Nat}(h:DbI o l k c c0)(hk:k<o.length)(hx:(l[k]?.getD 0).toNat =x)(hxl:x<4294967296):
 DbI o (l.set k (((2*x+c) % 4294967296:Nat):Int)) (k+1) (x/2147483648) c0:=by
 obtain⟨h1,h2,h3,h4,h5⟩:=h;refine⟨by simp[h1],h2.set O,O,by rw[zfq];exact zdj h4,?_⟩;rw[zav O,kb,<-zhg h4,hx,q9];grind[jA]
theorem DbI.fin{o l:List Int}{c c0:Nat}(h:DbI o l o.length c c0)(hv:2*val o+c0<4294967296^o.length):val l=2*val o+c0:=by
 obtain⟨h1,h2,h3,h4,h5⟩:=h;rw[qF,q5 O]at h5;obtain rfl|rfl:c=0\/c=1:=O
 .omega
 .omega
structure SbI(o b l:List Int)(k w:Nat):Prop where
 len:l.length=o.length
 lb:LB l
 w1:w<=1
 drop:l.drop k=o.drop k
 sum:val (o.take k)+4294967296^k*w=val (l.take k)+val (b.take k)
theorem SbI.zero{o b:List Int}(h:LB o):SbI o b o 0 0:=⟨rfl,h,OC,rfl,by simp[val]⟩
theorem SbI.step{o b l:List Int}{k w x y:Nat}(h:SbI o b l k w)(hk:k<o.length)(hx:(l[k]?.getD 0).toNat =x)(hy:(b[k]?.getD 0).toNat =y)(hxl:x<4294967296)(hyl:y<4294967296):
 SbI o b (l.set k (((x+4294967296-(w+y)) % 4294967296:Nat):Int)) (k+1) (1-(x+4294967296-(w+y))/4294967296):=by
 obtain⟨h1,h2,h3,h4,h5⟩:=h;refine⟨by simp[h1],h2.set O,O,by rw[zfq];exact zdj h4,?_⟩;rw[zav O,kb,kb,<-zhg h4,hx,hy,q9];exact zng 4294967296 (4294967296^k) _ w _ _ x y OA O hxl h3 h5
theorem SbI.fin{o b l:List Int}{w:Nat}(h:SbI o b l o.length w)(hl:b.length<=o.length)(hv:val b<=val o):val l=val o-val b:=by
 obtain⟨h1,h2,h3,h4,h5⟩:=h;rw[qF,q5 (l:=l) O,q5 (l:=b) hl]at h5;have h6:=ud h2 o.length O;rw[q5 O]at h6;obtain rfl|rfl:w=0\/w=1:=O
 .omega
 .omega
theorem zp7{l:List Int}(h:LB l)(j:Nat):val l/2^(32*j) % 4294967296=(l[j]?.getD 0).toNat :=by
 rw[<-zex j l h]
 cases hd:l.drop j with
 |nil=>
  have:l[j]? =none:=by
   simp_all
  rw[this];rfl
 |cons x t=>
  have hx:l[j]? =some x:=by
   have:=congrArg (fun z:List Int=>z[0]?) hd;grind
  have hb:=h x (q6 hx);grind[qp]
theorem qd7{l:List Int}(h:LB l)(i:Nat):(l[i/32]?.getD 0).toNat /2^(i % 32) % 2=val l/2^i % 2:=by
 rw[<-zp7 h (i/32)];have e:(2:Nat)^i=2^(32*(i/32))*2^(i % 32):=by rw[<-qA,jA]
 rw[e,<-qI];generalize val l/2^(32*(i/32))=z;have e2:(4294967296:Nat)=2^(i % 32)*(2*2^(31-i % 32)):=by
  rw[<-Nat.mul_assoc,<-q9,<-qA,(O:i % 32+1+(31-i % 32)=32)]
 simp_all[Nat.mod_mul_right_div_self]
theorem zxj(A b i:Nat)(hb:0<b):let R:=2*(A/2^(i+1) % b)+A/2^i % 2
 (R<b->A/2^i % b=R/\A/2^i/b=2*(A/2^(i+1)/b))/\(¬R<b->A/2^i % b=R-b/\A/2^i/b=2*(A/2^(i+1)/b)+1)/\R<2*b:=by
 intro R;have e:A/2^(i+1)=A/2^i/2:=by grind[qI]
 have hR:R=2*(A/2^i/2 % b)+A/2^i % 2:=by rw[<-e]
 rw[e]
 clear_value R
 generalize A/2^i=z at*;have h1:=jA (z/2) b;have h2:=jA z 2;have h3:=qn (z/2) hb;generalize z/2 % b=r at*;generalize z/2/b=q at*;have h4:z=b*(2*q)+R:=by grind
 refine⟨fun c=>?_,fun c=>?_,O⟩
 .grind[qL]
 .have hq:=(qL hb (a:=z) (c:=R-b) (d:=2*q+1)).2 ⟨by grind,O⟩;omega
theorem zvv{v i:Nat}(h:v % 2^(i+1)=0):v|||2^i=v+2^i:=by
 have e:v=2^(i+1)*(v/2^(i+1)):=by grind[jA]
 grind[Nat.two_pow_add_eq_or_of_lt]
set_option maxHeartbeats 8000000
def T9:Tab:= {T6 with of:=395::367::394::T6.of}
theorem hT9:TabOK Tryz.prog T9:=zhv Z Z
theorem fY9{f:Nat}{fn:Func}{c:Code}(a:Tryz.prog.funcs[f]?=some fn)(b:fn.body=some c){H H':Hp}{A:List AV}{r:AV}{X:Prop}(k:X)(d:(fn.name == "runtime.NumGoroutine")=false:=by first|rfl)(e:(fnC T9 [] c fn.ntmps H A H' fun σ=>za3 T9 (CN Tryz.prog) c true σ (fun σ=>zjk T9 fn.results.toList [] r H' σ) (fun _ _=>False) (fun σ=>zjk T9 fn.results.toList [] r H' σ))=X:=by conv=>lhs;whnf):zmk Tryz.prog f H A r H':=fnT hT9 hmx a b d (e.mpr k)
noncomputable def qbj:Code:=Tryz.f395.body.getD .skip
noncomputable def qbl:Code:=Tryz.f367.body.getD .skip
noncomputable def qbk:Code:=Tryz.f394.body.getD .skip
theorem r333o{l:List Int}(hb:LB l)(_:l.length<=1000000)(i:Nat):Fn 395 [(1000001,.buf 108 .u32 l)] [.own 1000001,.int .i64 i] (.int .u64 (l[i]?.getD 0)) [(1000001,.buf 108 .u32 l)]:=by
 have hat:=hb.at i;refine zdh rfl (zfo (code:=qbj) hT9 Tryz.func395 rfl rfl [1000001] ?_);conv=>whnf
 refine ze1 hT9 hmx [] ?_;conv=>whnf
 refine brI (fun h=>?_) (fun h=>?_)
 .have h:i<l.length:=by have h:((i:Nat):Int)<l.length:=Z0 h;omega
  have hx:=q4 h;generalize l[i]=x at hx;rw[hx]at hat⊢;simp only[Option.getD_some]at hat⊢;conv=>whnf
  refine⟨⟨O,O⟩,?_⟩;conv=>whnf
  refine⟨O,fun(z:Int)hz=>?_⟩;have hz:l[i]? =some z:=hz;rw[hx]at hz;cases hz
  conv=>whnf
  exact⟨ai0 (wU O),lh1 (bb0 rfl) lh0⟩
 .have h:¬i<l.length:=by have h:¬((i:Nat):Int)<l.length:=Z1 h;omega
  rw[List.getElem?_eq_none O];conv=>whnf
  exact⟨lr rfl,lh1 (bb0 rfl) lh0⟩
theorem r310o{a b:List Int}(ha:LB a)(hb:LB b)(hal:a.length<=1000000)(hbl:b.length<=1000000):Fn 367 [(1000001,.buf 108 .u32 a)] [.own 1000001,.sl .u32 b] (.int .i64 (uf (val a) (val b))) [(1000001,.buf 108 .u32 a)]:=by
 obtain⟨A,hA⟩:∃A,uf (val a) (val b)=A:=⟨_,rfl⟩;have hg:=zi1 ha hb (max a.length b.length);rw[q5 O,q5 O,hA]at hg;rw[hA];clear hA;have hmx2:(if(a.length:Int)<(b.length:Int)then(b.length:Int)else(a.length:Int))=((max a.length b.length:Nat):Int):=by split<;>omega
 have ra:=fun i:Nat=>r333o ha hal i
 have rb:=fun i:Nat=>zyv hb hbl i
 have hM:max a.length b.length<=1000000:=O;generalize max a.length b.length=M at*;refine zdh rfl (zfo (code:=qbl) hT9 Tryz.func367 rfl rfl [1000001] ?_);conv=>whnf
 refine ze1 hT9 hmx [] ?_;conv=>whnf
 rw[hmx2,wI (x:=((M:Nat):Int)-1) O];refine⟨Nat,fun n=>n<=M/\zbe a b n=A,fun n=> [(5,.int .i64 ((n:Int)-1))],fun _=> [],fun n=>n,M,⟨qK _,hg⟩,?_,fun n hn=>?_⟩
 .exact KZ0
 refine gYe ?_;obtain⟨hn1,hn2⟩:=hn;refine brI (fun h2=>?_) (fun h2=>?_)
 .have h2:0<n:=by simp only[Z2]at h2;omega
  obtain⟨m,rfl⟩:∃m,n=m+1:=⟨n-1,O⟩;have hm:(((m+1:Nat):Int)-1)=(m:Int):=O;rw[zbe]at hn2;have ra:=ra m;have rb:=rb m;generalize a[m]?.getD 0=x at*;generalize b[m]?.getD 0=y at*;conv=>whnf
  rw[hm];refine⟨[.buf 108 .u32 a],_,ra,?_⟩;conv=>whnf
  refine gYn rb ?_;refine brI (fun h3=>?_) (fun h3=>?_)
  .have h3:x<y:=Z0 h3;rw[Z4 h3]at hn2;conv=>whnf
   exact⟨ai0 hn2,lh1 (bb0 rfl) lh0⟩
  have h3:¬x<y:=Z1 h3;rw[Z5 h3]at hn2;conv=>whnf
  refine⟨[.buf 108 .u32 a],_,ra,?_⟩;conv=>whnf
  refine gYn rb ?_;refine brI (fun h4=>?_) (fun h4=>?_)
  .have h4:y<x:=Z0 h4;rw[Z4 h4]at hn2;conv=>whnf
   exact⟨ai0 hn2,lh1 (bb0 rfl) lh0⟩
  have h4:¬y<x:=Z1 h4;rw[Z5 h4]at hn2;conv=>whnf
  refine⟨m,⟨O,hn2⟩,by show m<m+1;omega,?_⟩;exact KZ0
 .have h2:n=0:=by simp only[Z3]at h2;omega
  subst h2;simp only[zbe]at hn2;conv=>whnf
  exact⟨ai0 hn2,lh1 (bb0 rfl) lh0⟩
theorem r332o{a b:List Int}(ha:LB a)(hb:LB b)(hal:a.length<=1000000)(hbl:b.length<=1000000):Fn 394 [(1000001,.buf 108 .u32 a)] [.own 1000001,.sl .u32 b] (.bool (decide (val a<val b))) [(1000001,.buf 108 .u32 a)]:=by
 have h:=r310o ha hb hal hbl;have e:decide (uf (val a) (val b)<0)=decide (val a<val b):=by
  unfold uf;split
  .rename_i h;simp[h]
  .split
   .rename_i h1 h2;simp[h1]
   .rename_i h1 h2;simp[h1]
 generalize uf (val a) (val b)=Oq at*;refine zdh rfl (zfo (code:=qbk) hT9 Tryz.func394 rfl rfl [1000001] ?_);conv=>whnf
 refine ze1 hT9 hmx [] ?_;conv=>whnf
 refine⟨[.buf 108 .u32 a],_,h,?_⟩;conv=>whnf
 exact⟨ab0 e,lh1 (bb0 rfl) lh0⟩
structure DvI(a b:List Int)(n:Nat)(out rest:List Int):Prop where
 ol:out.length=a.length
 ob:LB out
 ov:val out=val a/2^n/val b*2^n
 rl:rest.length=(toL (val b)).length +1
 rb:LB rest
 rv:val rest=val a/2^n % val b
theorem qdr(n:Nat):LB (qd n 0):=fun x hx=>by rw[(List.mem_replicate.1 hx).2];decide
theorem DvI.zero(a b:List Int):DvI a b (bl (val a)) (qd a.length 0) (qd ((toL (val b)).length +1) 0):=by
 have h:val a/2^bl (val a)=0:=Nat.div_eq_of_lt (wv.1 (qK _));exact⟨OC,qdr _,by rw[za1,h];simp,OC,qdr _,by rw[za1,h];simp⟩
def pI:Nat->Int
 |0=> -1
 |m+1=>m
theorem zvr(n:Nat):pI n=(n:Int)-1:=by
 cases n with
 |zero=>rfl
 |succ m=>show(m:Int)=_;omega
theorem and_1(s:Int)(h:0<=s/\s<4294967296):qQ.wrap ((q3 qQ.bits s&&& q3 qQ.bits 1).toNat :Int)=s % 2:=by
 obtain⟨n,rfl⟩:∃n:Nat,s=n:=⟨s.toNat,O⟩;have e1:(q3 32 (n:Int)).toNat =n:=by rw[BitVec.ofInt_natCast,BitVec.toNat_ofNat];exact qN O
 have e2:(q3 32 1).toNat =2^1-1:=OA;have e3:(q3 32 (n:Int)&&& q3 32 1).toNat =n % 2:=by
  rw[BitVec.toNat_and,e1,e2,Nat.and_two_pow_sub_one_eq_mod]
 show qQ.wrap ((q3 32 (n:Int)&&& q3 32 1).toNat :Int)=_;rw[e3];have:n % 2<2:=qn _ OA;have e4:∀t:Nat,t<2->qQ.wrap (t:Int)=t:=fun t ht=>by
  obtain rfl|rfl:t=0\/t=1:=O
  .rfl
  .rfl
 rw[e4 _ this];omega
theorem zx1{a:List Int}(ha:LB a){x:Int}(m:Nat){j:Nat}(hx:a[j]? =some x)(hj:j=m/32)(hxb:0<=x/\x<4294967296):
 qQ.wrap ((q3 qQ.bits (x.fdiv (2^min (m % 32) qQ.bits))&&& q3 qQ.bits 1).toNat :Int)=((val a/2^m % 2:Nat):Int):=by
 subst hj;have hv:=qd7 ha m;rw[hx,Option.getD_some]at hv;rw[<-hv];obtain⟨n,rfl⟩:∃n:Nat,x=n:=⟨x.toNat,O⟩;have h1:min (m % 32) qQ.bits=m % 32:=Nat.min_eq_left (by show m % 32<=32;omega);have h2:(n:Int).fdiv (2^(m % 32))=((n/2^(m % 32):Nat):Int):=by
  rw[qC _ (Int.pow_nonneg OA)];simp
 have h3:n/2^(m % 32)<=n:=qP _ _;rw[h1,h2,q0];generalize n/2^(m % 32)=q at*;rw[and_1 _ O];omega
theorem zmm(n:Nat):qQ.wrap (n:Int)=((n % 4294967296:Nat):Int):=by
 show(if(false&&decide ((n:Int) % 4294967296≥2147483648))=true then(n:Int) % 4294967296-4294967296 else(n:Int) % 4294967296)=_;simp only[Bool.false_and,Bool.false_eq_true,if_false];omega
theorem qi4(x:Nat):((x:Int)).fdiv (2^min (qB 31) qQ.bits)=((x/2147483648:Nat):Int):=by
 show((x:Int)).fdiv 2147483648=_;rw[qC _ OA];omega
theorem qll{x c:Nat}(hx:x<4294967296)(hc:c<=1):qQ.wrap ((q3 qQ.bits (qQ.wrap ((x:Int)*2^min (qB 1) qQ.bits))|||q3 qQ.bits (c:Int)).toNat :Int)=(((2*x+c) % 4294967296:Nat):Int):=by
 have e1:qQ.wrap ((x:Int)*2^min (qB 1) qQ.bits)=((2*x % 4294967296:Nat):Int):=by
  rw[show(x:Int)*2^min (qB 1) qQ.bits=((2*x:Nat):Int) by show(x:Int)*2^1=_;omega];exact zmm _
 rw[e1];have h:=qhz (2*x % 4294967296) c (qn _ OA) O;have e2:2*x % 4294967296|||c=(2*x+c) % 4294967296:=by
  obtain rfl|rfl:c=0\/c=1:=O
  .rw[Nat.or_zero,Nat.add_zero]
  .have:=zvv (v:=2*x % 4294967296) (i:=0) O;rw[show(2:Nat)^0=1 from rfl]at this;rw[this];omega
 rw[e2]at h;exact h
theorem qg6{out:List Int}(hob:LB out){q m:Nat}(hov:val out=q*2^(m+1))(hj:m/32<out.length){o:Nat}(ho:(out[m/32]?.getD 0).toNat =o):
 o % 2^(m % 32+1)=0/\o+2^(m % 32)<4294967296/\val (out.set (m/32) ((o+2^(m % 32):Nat):Int))=(2*q+1)*2^m:=by
 have h1:=zp7 hob (m/32);rw[ho,hov]at h1;have hm:32*(m/32)+m % 32=m:=jA m 32;have hr:m % 32<32:=qn _ OA;have h4:=uc out (m/32) ((o+2^(m % 32):Nat):Int) hj;rw[ho,q0,hov]at h4;have hP:(4294967296:Nat)^(m/32)=2^(32*(m/32)):=by rw[Nat.pow_mul]
 rw[hP]at h4;have e1:2^(m+1)=2^(32*(m/32))*2^(m % 32+1):=by rw[<-qA];congr 1;omega
 have e2:2^m=2^(32*(m/32))*2^(m % 32):=by rw[<-qA,hm]
 rw[e1,show q*(2^(32*(m/32))*2^(m % 32+1))=2^(32*(m/32))*(q*2^(m % 32+1))from Nat.mul_left_comm _ _ _,Nat.mul_div_cancel_left _ (qJ _)]at h1;have e3:(4294967296:Nat)=2^(31-m % 32)*2^(m % 32+1):=by rw[<-qA,(O:31-m % 32+(m % 32+1)=32)]
 have h5:=qn q (qJ (31-m % 32));rw[e3,Nat.mul_mod_mul_right]at h1;rw[e2];generalize val (out.set (m/32) ((o+2^(m % 32):Nat):Int))=V at*;have hr2:2^(m % 32+1)=2*2^(m % 32):=by rw[q9,qM]
 have hz:=qJ (m % 32);refine⟨by rw[<-h1];exact Nat.mul_mod_left _ _,?_,?_⟩
 .rw[<-h1,e3];have h6:=Nat.mul_le_mul_right (2^(m % 32+1)) (O:q % 2^(31-m % 32)+1<=2^(31-m % 32));rw[Nat.add_mul,Nat.one_mul]at h6;omega
 .rw[e1,hr2]at h4;generalize 2^(32*(m/32))=P at*;generalize 2^(m % 32)=z at*;grind
theorem zz8{o r:Nat}(hr:r<32)(h0:o % 2^(r+1)=0)(h1:o+2^r<4294967296):qQ.wrap ((q3 qQ.bits (o:Int)|||q3 qQ.bits (qQ.wrap (1*2^min ((r:Nat):Int).toNat qQ.bits))).toNat :Int)=((o+2^r:Nat):Int):=by
 have e1:min ((r:Nat):Int).toNat qQ.bits=r:=by show min ((r:Nat):Int).toNat 32=r;omega
 have e2:qQ.wrap (1*2^r)=((2^r:Nat):Int):=by
  rw[show(1:Int)*2^r=((2^r:Nat):Int) by simp,zmm,qN O]
 rw[e1,e2];have h:=qhz o (2^r) O O;rw[zvv h0]at h;exact h
theorem r303{a b:List Int}(ha:LB a)(hb:LB b)(hal:a.length<=50000)(hbl:b.length<=50000)(h0:0<val b):Fn 363 [] [.sl .u32 a,.sl .u32 b] (.tup [.sl .u32 (toL (val a/val b)),.sl .u32 (toL (val a % val b))]) []:=by
 have h331:=zyw hb O;have h302:=qcp ha O;refine fY9 Tryz.func363 rfl ?_;refine gYn h331 ?_;have hbn:bl (val a)<=32*a.length:=wv.2 (zdz ha);have hw:qR.wrap (((toL (val b)).length :Int)+1)=(((toL (val b)).length +1:Nat):Int):=by
  have:=(qf (val b) b.length).2 (zdz hb);rw[wI O];omega
 refine⟨⟨O,O,O⟩,?_⟩;conv=>whnf
 rw[hw];refine⟨⟨O,O,by have:=(qf (val b) b.length).2 (zdz hb);omega⟩,?_⟩;conv=>whnf
 refine gYn h302 ?_;refine⟨Nat×List Int×List Int,fun x=>x.1<=bl (val a)/\DvI a b x.1 x.2.1 x.2.2,fun x=> [(8,.int .i64 (pI x.1))],fun x=> [(19,.buf 108 .u32 x.2.1),(23,.buf 108 .u32 x.2.2)],fun x=>x.1,(bl (val a),qd a.length 0,qd ((toL (val b)).length +1) 0),⟨qK _,DvI.zero a b⟩,?_,fun x hx=>?_⟩
 ·((conv=>whnf);refine qG ?_ ?_;repeat' first|refine lc ?_ ?_|refine lh1 ?_ ?_|refine bc0 ?_|exact KXZ|refine lg0 ?_|refine lt0 ?_)
  .exact ai0 (by rw[wI O];exact(zvr _).symm)
 obtain⟨n,out,rest⟩:=x;obtain⟨hn,hp⟩:=hx;simp only at hn hp
 cases n with
 |zero=>
  have h331o:=zyw hp.ob (by have:=hp.ol;omega);have h331r:=zyw hp.rb (by have:=hp.rl;have:=(qf (val b) b.length).2 (zdz hb);omega);rw[show val out=val a/val b by have:=hp.ov;simpa using this]at h331o;rw[show val rest=val a % val b by have:=hp.rv;simpa using this]at h331r;refine gYe ?_;refine gYn h331o ?_;refine gYn h331r ?_;exact⟨lt0 (lc (lr rfl) (lc (lr rfl) ln0)),lh0⟩
 |succ m=>
  have hq:qR.wrap ((pI (m+1,out,rest).1).tdiv 32)=((m/32:Nat):Int):=by
   show qR.wrap ((m:Int).tdiv 32)=_;rw[show(m:Int).tdiv 32=((m/32:Nat):Int)from Int.ofNat_tdiv m 32,wI O]
  have hm:(pI (m+1,out,rest).1).tmod 32=((m % 32:Nat):Int):=Int.ofNat_tmod m 32;obtain⟨c0,hc0⟩:∃c0,val a/2^m % 2=c0:=⟨_,rfl⟩;have hc1:c0<=1:=O;refine gYe ?_;refine⟨OA,?_⟩;conv=>whnf
  rw[hq];refine⟨⟨O,O⟩,fun(x:Int)hx=>?_⟩;have hx:a[((m/32:Nat):Int).toNat]? =some x:=hx;rw[q0]at hx;have hxb:=ha x (q6 hx);conv=>whnf
  refine⟨OA,?_⟩;conv=>whnf
  refine⟨by rw[hm];omega,?_⟩;have hcar:=zx1 ha m hx rfl hxb;rw[hc0]at hcar;conv=>whnf
  refine⟨Nat×List Int×Nat,fun y=>y.1<=rest.length/\DbI rest y.2.1 y.1 y.2.2 c0,fun y=> [(10,.int .i64 y.1),(9,.int .u32 y.2.2)],fun y=> [(23,.buf 108 .u32 y.2.1)],fun y=>rest.length-y.1,(0,rest,c0),⟨OC,DbI.zero hp.rb hc1⟩,?_,fun y hy=>?_⟩
  ·((conv=>whnf);refine qG ?_ ?_;repeat' first|refine lc ?_ ?_|refine lh1 ?_ ?_|refine bc0 ?_|exact KXZ|refine lg0 ?_|refine lt0 ?_)
   .exact ai0 (by rw[hm,q0];exact hcar)
  obtain⟨k,l,c⟩:=y;obtain⟨hk,hd⟩:=hy;simp only at hk hd;have hll:=hd.len;have hrl:=hp.rl;have hlb:=(qf (val b) b.length).2 (zdz hb);refine gYe ?_;refine brI (fun h1=>?_) (fun h1=>?_)
  .have h1:k<rest.length:=by have h1:((k:Nat):Int)<(l.length:Int):=Z0 h1;omega
   have hx1:l[k]? =some l[k]:=q4 O;have hxb:=hd.lb _ (qO (by omega:k<l.length));generalize l[k]=x1 at hx1 hxb;obtain⟨x1,rfl⟩:=q8 hxb.1;have hst:=hd.step (x:=x1) h1 (by rw[hx1];rfl) O;conv=>whnf
   refine⟨⟨O,OD⟩,?_⟩;conv=>whnf
   refine⟨by simp only[q0];omega,fun(z:Int)hz=>?_⟩;have hz:l[k]? =some z:=by simpa using hz
   rw[hx1]at hz;cases hz
   conv=>whnf
   refine⟨OA,?_⟩;conv=>whnf
   refine⟨⟨O,OD⟩,?_⟩;conv=>whnf
   refine⟨by simp only[q0];omega,?_⟩;conv=>whnf
   refine⟨OA,?_⟩;conv=>whnf
   refine⟨(k+1,l.set k (((2*x1+c) % 4294967296:Nat):Int),x1/2147483648),⟨OD,hst⟩,by show rest.length-(k+1)<rest.length-k;omega,?_⟩
   ((conv=>whnf);refine qG ?_ ?_;repeat' first|refine lc ?_ ?_|refine lh1 ?_ ?_|refine bc0 ?_|exact KXZ|refine lg0 ?_|refine lt0 ?_)
   .exact ai0 (qi4 x1)
   .exact ai0 (by rw[wI OD];simp only;omega)
   .exact bb0 (by
     show qD l (qB (k:Int)) _=qD l k _;rw[q0];exact congrArg (qD l k) (qll O hd.c1))
  .have h1:k=rest.length:=by have h1:¬((k:Nat):Int)<(l.length:Int):=Z1 h1;omega
   subst h1;have hB:val b<4294967296^(toL (val b)).length :=by
    have h:=ud (zm (val b)) (toL (val b)).length (qK _)
    rwa [qF,zk]at h
   obtain⟨d1,d2,d3⟩:=zxj (val a) (val b) m h0;have hvr:=hp.rv;have hR:2*val rest+c0<2*val b:=by rw[hvr,<-hc0];exact d3
   have hfin:=hd.fin (by rw[hrl,q9];omega);have c332:=r332o (a:=l) (b:=toL (val b)) hd.lb (zm _) O O;rw[zk,hfin]at c332;rw[<-hvr,hc0]at d1 d2;by_cases hlt:2*val rest+c0<val b
   .rw[Z6 hlt]at c332;obtain⟨q1,q2⟩:=d1 hlt;conv=>whnf
    refine⟨[.buf 108 .u32 l],_,(c332).sw [(1000001,23)] rfl,?_⟩;conv=>whnf
    refine⟨(m,out,l),⟨OD,⟨hp.ol,hp.ob,?_,OD,hd.lb,OD⟩⟩,OD,?_⟩
    .simp only;rw[hp.ov,q2,q9];grind
    ((conv=>whnf);refine qG ?_ ?_;repeat' first|refine lc ?_ ?_|refine lh1 ?_ ?_|refine bc0 ?_|exact KXZ|refine lg0 ?_|refine lt0 ?_)
    exact ai0 (by rw[zvr,zvr,wI OD];simp only;omega)
   .rw[Z7 hlt]at c332;obtain⟨q1,q2⟩:=d2 hlt;conv=>whnf
    refine⟨[.buf 108 .u32 l],_,(c332).sw [(1000001,23)] rfl,?_⟩;conv=>whnf
    refine⟨Nat×List Int×Nat,fun y=>y.1<=l.length/\SbI l (toL (val b)) y.2.1 y.1 y.2.2,fun y=> [(13,.int .i64 y.1),(12,.int .u64 y.2.2)],fun y=> [(23,.buf 108 .u32 y.2.1)],fun y=>l.length-y.1,(0,l,0),⟨OC,SbI.zero hd.lb⟩,?_,fun y hy=>?_⟩
    .exact KZ0
    obtain⟨k,l2,w⟩:=y;obtain⟨hk2,hs⟩:=hy;simp only at hk2 hs;have hl2:=hs.len;have hw1:=hs.w1;refine gYe ?_;refine brI (fun h3=>?_) (fun h3=>?_)
    .have h3:k<l.length:=by have h3:((k:Nat):Int)<(l2.length:Int):=Z0 h3;omega
     have hx2:l2[k]? =some l2[k]:=q4 O;have hxb2:=hs.lb _ (qO (by omega:k<l2.length));generalize l2[k]=x2 at hx2 hxb2;obtain⟨x2,rfl⟩:=q8 hxb2.1;have hyb:=(zm (val b)).at k;have c333:=zyv (zm (val b)) O k;have hst2:=hs.step (x:=x2) (y:=((toL (val b))[k]?.getD 0).toNat) h3 (by rw[hx2];rfl) rfl O O;generalize (toL (val b))[k]?.getD 0=yy at*;obtain⟨y2,rfl⟩:=q8 hyb.1;rw[q0]at hst2;conv=>whnf
     refine⟨⟨O,OD⟩,?_⟩;conv=>whnf
     refine⟨by simp only[q0];omega,fun(z:Int)hz=>?_⟩;have hz:l2[k]? =some z:=by simpa using hz
     rw[hx2]at hz;cases hz
     conv=>whnf
     refine gZn c333 ?_;have es:qS.wrap (qS.wrap (qS.wrap (qS.wrap (x2:Int)+4294967296)-(y2:Int))-(w:Int))=((x2+4294967296-(w+y2):Nat):Int):=by
      rw[wU (x:=(x2:Int)) O,wU (x:=(x2:Int)+4294967296) O,wU (x:=(x2:Int)+4294967296-y2) O,wU O];omega
     have e4:∀s:Nat,s<8589934592->qS.wrap (1-((s:Nat):Int).fdiv 4294967296)=((1-s/4294967296:Nat):Int):=fun s hs=>by
      rw[fdB,wU O];omega
     refine gYd ?_;refine⟨⟨O,OD⟩,?_⟩;conv=>whnf
     refine⟨by simp only[q0];omega,?_⟩;conv=>whnf
     refine⟨OA,?_⟩;conv=>whnf
     refine⟨(k+1,l2.set k (((x2+4294967296-(w+y2)) % 4294967296:Nat):Int),1-(x2+4294967296-(w+y2))/4294967296),⟨OD,hst2⟩,by show l.length-(k+1)<l.length-k;omega,?_⟩
     ((conv=>whnf);refine qG ?_ ?_;repeat' first|refine lc ?_ ?_|refine lh1 ?_ ?_|refine bc0 ?_|exact KXZ|refine lg0 ?_|refine lt0 ?_)
     .exact ai0 ((congrArg (fun z:Int=>qS.wrap (1-z.fdiv 4294967296)) es).trans (e4 _ O))
     .exact ai0 (by rw[wI OD];simp only;omega)
     .exact bb0 (by
       show qD l2 (qB (k:Int)) _=qD l2 k _;rw[q0,<-loB O,<-es])
    .have h3:k=l.length:=by have h3:¬((k:Nat):Int)<(l2.length:Int):=Z1 h3;omega
     subst h3;have hf2:=hs.fin O (by rw[zk,hfin];omega);rw[zk,hfin]at hf2;have hol:=hp.ol;have hj:m/32<out.length:=O;have hgo:out[m/32]? =some (out[m/32]?.getD 0):=by rw[q4 hj];rfl
     have hob:=hp.ob.at (m/32);obtain⟨o,ho⟩:∃o:Nat,out[m/32]?.getD 0=(o:Int):=⟨_,(Int.toNat_of_nonneg hob.1).symm⟩;obtain⟨f1,f2,f3⟩:=qg6 hp.ob hp.ov hj (by rw[ho,q0]);have hor:=zz8 (qn m (by decide:0<32)) f1 f2;conv=>whnf
     refine⟨OA,?_⟩;conv=>whnf
     refine⟨OA,?_⟩;conv=>whnf
     rw[hq];refine⟨⟨O,OD⟩,?_⟩;conv=>whnf
     refine⟨by simp only[q0];omega,fun(z:Int)hz=>?_⟩;have hz:out[((m/32:Nat):Int).toNat]? =some z:=hz;rw[q0,hgo,ho]at hz;cases hz
     conv=>whnf
     refine⟨OA,?_⟩;conv=>whnf
     refine⟨by rw[hm];omega,?_⟩;conv=>whnf
     refine⟨⟨O,OD⟩,?_⟩;conv=>whnf
     refine⟨by simp only[q0];omega,?_⟩;refine gYd ?_;refine⟨(m,out.set (m/32) ((o+2^(m % 32):Nat):Int),l2),⟨OD,⟨by simp only[List.length_set];omega,hp.ob.set O,?_,OD,hs.lb,by simp only;rw[hf2,q1]⟩⟩,OD,?_⟩
     .simp only;rw[f3,q2]
     ((conv=>whnf);refine qG ?_ ?_;repeat' first|refine lc ?_ ?_|refine lh1 ?_ ?_|refine bc0 ?_|exact KXZ|refine lg0 ?_|refine lt0 ?_)
     .exact ai0 (by rw[zvr,zvr,wI OD];simp only;omega)
     .exact bb0 (by
       show qD out (qB ((m/32:Nat):Int)) _=qD out (m/32) _;rw[q0,hm];exact congrArg (qD out (m/32)) hor)
def dvK(a b:Dy)(p:Nat):Nat:=p+2+bl (nm b)-bl (nm a)
def zer(a b:Dy)(p:Nat)(up:Bool):Dy×Int:=
 if nm b=0 then(d0,10)else if nm a=0 then(d0,0)else
 ziy (a.neg != b.neg) (nm a*2^dvK a b p/nm b) (a.e-b.e-dvK a b p) (decide (nm a*2^dvK a b p % nm b≠0)) p up
theorem r260{a b:Dy}(ha:VD a)(hb:VD b)(p:Nat)(hp:8<=p/\p<=512)(up:Bool):Fn 302 [] [.agg (dyC a),.agg (dyC b),.int .i64 p,.bool up] (dyV (zer a b p up)) []:=by
 have hla:=ha.len;have hlb:=hb.len;have h299:=qjl a b ha.lb hb.lb O O p;rw[show ftR a b p=0 by unfold ftR;rw[Z4 ⟨(kw ha.lb).2 ha,(kw hb.lb).2 hb⟩,Z4 O]]at h299;have ea:=ha.exp;have eb:=hb.exp;have ba:=ha.bits;have bb:=hb.bits;have za:a.m.length=0<->nm a=0:=by rw[ha.eq];exact jf
 have zb:b.m.length=0<->nm b=0:=by rw[hb.eq];exact jf
 by_cases hb0:nm b=0
 .have hR:zer a b p up=(d0,10):=by grind[zer]
  rw[hR];have hz:=zb.2 hb0;clear hR hb0 za zb ha hb;obtain⟨a1,a2,a3⟩:=a;obtain⟨b1,b2,b3⟩:=b;have hz:b2.length=0:=hz;refine fY9 Tryz.func302 rfl ?_;refine gYn h299 ?_;refine brI (fun c=>?_) (fun c=>?_)
  .conv=>whnf
   exact⟨lt0 (lc (lg0 (lc (lr rfl) (lc (li0 rfl) (lc (lr rfl) ln0)))) (lc (lr rfl) ln0)),lh0⟩
  simp_all
 by_cases ha0:nm a=0
 .have hR:zer a b p up=(d0,0):=by simp_all[zer,Z5,Z4]
  rw[hR];have hz:=za.2 ha0;have hz2:=mt zb.1 hb0;clear hR hb0 ha0 za zb ha hb;obtain⟨a1,a2,a3⟩:=a;obtain⟨b1,b2,b3⟩:=b;have hz:a2.length=0:=hz;have hz2:¬b2.length=0:=hz2;refine fY9 Tryz.func302 rfl ?_;refine gYn h299 ?_;refine brI (fun c=>?_) (fun c=>?_)
  .simp_all
  conv=>whnf
  refine brI (fun c2=>?_) (fun c2=>?_)
  .conv=>whnf
   exact⟨lt0 (lc (lg0 (lc (lr rfl) (lc (li0 rfl) (lc (lr rfl) ln0)))) (lc (lr rfl) ln0)),lh0⟩
  simp_all
 have hR:zer a b p up=ziy (a.neg != b.neg) (nm a*2^dvK a b p/nm b) (a.e-b.e-dvK a b p) (decide (nm a*2^dvK a b p % nm b≠0)) p up:=by simp_all[zer,Z5]
 rw[hR];have hz:=mt za.1 ha0;have hz2:=mt zb.1 hb0;have hk:dvK a b p=p+2+bl (nm b)-bl (nm a):=rfl;have hk2:dvK a b p<=5000:=O;generalize dvK a b p=k at*;have c302a:Fn 362 [] [.sl .u32 a.m] (.int .i64 (bl (nm a):Nat)) []:=qcp ha.lb O;have c302b:Fn 362 [] [.sl .u32 b.m] (.int .i64 (bl (nm b):Nat)) []:=qcp hb.lb O;have c304:Fn 364 [] [.sl .u32 a.m,.int .i64 k] (.sl .u32 (toL (nm a*2^k))) []:=qjk ha.lb O k O;have hxl:(toL (nm a*2^k)).length <=1000:=(zx _ _).2 (by grind[zq]);have c303:Fn 363 [] [.sl .u32 (toL (val (toL (nm a*2^k)))),.sl .u32 b.m] (.tup [.sl .u32 (toL (val (toL (nm a*2^k))/nm b)),.sl .u32 (toL (val (toL (nm a*2^k)) % nm b))]) []:=by
  have h:=r303 (zm (nm a*2^k)) hb.lb O O (qE hb0);rw[zk]at h⊢;exact h
 rw[zk]at c303;have hql:(toL (nm a*2^k/nm b)).length <=1000:=kf (qP _ _) hxl;have hrl:(toL (nm a*2^k % nm b)).length <=1000:=kf (Nat.mod_le _ _) hxl;have c302r:=qcp (zm (nm a*2^k % nm b)) O;have c305:=r305 (a.neg != b.neg) (zm (nm a*2^k/nm b)) O (a.e-b.e-k) O (decide (nm a*2^k % nm b≠0)) p hp up;rw[zk]at c302r c305;rw[<-zf8]at c305⊢;have hkI:(if qR.wrap (qR.wrap (qR.wrap ((p:Int)+2)+(bl (nm b):Nat))-(bl (nm a):Nat))>0 then qR.wrap (qR.wrap (qR.wrap ((p:Int)+2)+(bl (nm b):Nat))-(bl (nm a):Nat))else 0)=(k:Int):=by
  grind[wI,bl,nm]
 have hel:qR.wrap (qR.wrap (a.e-b.e)-(k:Int))=a.e-b.e-k:=by grind[wI]
 clear hR ha hb za zb hb0 ha0 hk ea eb ba bb hxl hql hrl hla hlb;generalize nm a*2^k % nm b=r at*;generalize nm a*2^k/nm b=q at*;generalize nm a*2^k=x at*;generalize bl (nm a)=ta at*;generalize bl (nm b)=tb at*;generalize bl r=tr at*;generalize ziy (a.neg != b.neg) q (a.e-b.e-k) (decide ((tr:Int)>0)) p up=R at*;obtain⟨a1,a2,a3⟩:=a;obtain⟨b1,b2,b3⟩:=b;simp only at*;obtain⟨⟨r1,r2,r3⟩,r4⟩:=R;refine fY9 Tryz.func302 rfl ?_;refine gYn h299 ?_;refine brI (fun c=>?_) (fun c=>?_)
 .simp_all
 conv=>whnf
 refine brI (fun c2=>?_) (fun c2=>?_)
 .simp_all
 conv=>whnf
 refine gYn c302b ?_;refine gZn c302a ?_;refine gYd ?_;rw[hkI];refine gYn c304 ?_;refine gZn c303 ?_;refine gYd ?_;refine gYn c302r ?_;rw[hel];refine gZn c305 ?_;refine gYd ?_;exact⟨lr rfl,lh0⟩
theorem qdl{a:Dy}(h:VD a)(h0:nm a≠0):nm a % 2=1:=by
 rcases h.ok with ⟨c,_⟩|⟨c,_⟩
 .omega
 .exact c
theorem qlj{a:Dy}(h0:nm a≠0):dv a≠0:=fun c=>by
 grind[zhq,dv]
theorem qdm{a b:Dy}(ha:VD a)(hb:VD b)(h:dv a=dv b):a=b:=by
 by_cases za:nm a=0
 .have zb:nm b=0:=Decidable.byContradiction fun c=>qlj c (by simp_all[xq])
  rw[ha.canon,hb.canon,za,zb];grind[cnN]
 have zb:nm b≠0:=fun c=>qlj za (by rw[h];exact xq c)
 have pa:=zhq a.e za;have pb:=zhq b.e zb;have hs:a.neg=b.neg/\vN (nm a) a.e=vN (nm b) b.e:=by
  grind[dv]
 obtain⟨hs,hv⟩:=hs;rw[yb _ _ (min a.e b.e) O,yb (nm b) _ (min a.e b.e) O]at hv;have e1:=Nat.le_antisymm (yk.1 (show vN (nm a*2^(a.e-min a.e b.e).toNat) (min a.e b.e)<=vN (nm b*2^(b.e-min a.e b.e).toNat) (min a.e b.e) by simp_all)) (yk.1 (by rw[hv];simp_all));rw[qM,qM (nm b)]at e1;obtain⟨t1,t2⟩:=zt5 e1 (qdl ha za) (qdl hb zb);rw[ha.canon,hb.canon,hs,t2];grind
theorem qgl(a b:Dy):dv (zd8 a b)=dv a+dv b:=by
 unfold zd8;split
 .grind[xq]
 split
 .grind[xq]
 have da:dv a=if a.neg=true then-(vN (nm a*2^(a.e-min a.e b.e).toNat) (min a.e b.e))else vN (nm a*2^(a.e-min a.e b.e).toNat) (min a.e b.e):=by grind[dv,yb,nm,min]
 have db:dv b=if b.neg=true then-(vN (nm b*2^(b.e-min a.e b.e).toNat) (min a.e b.e))else vN (nm b*2^(b.e-min a.e b.e).toNat) (min a.e b.e):=by grind[dv,yb,nm,min]
 generalize nm a*2^(a.e-min a.e b.e).toNat =x at*;generalize nm b*2^(b.e-min a.e b.e).toNat =y at*;generalize min a.e b.e=u at*;split
 .grind[zfp,zqa]
 rename_i h;split
 .rename_i h2;have:=zjo h2 u;grind[zfp]
 .rename_i h2;have:=zjo (O:x<=y) u;grind[zfp]
def Eq0(r r':Dy×Int):Prop:=(r.2=0<->r'.2=0)/\(r.2=0->r.1=r'.1)
theorem qhj{p:Nat}{y:Rat}{F G:Bool->Dy×Int}(hF:RT p y F)(hG:RT p y G)(up:Bool)(h:(F up).2=0):(G up).2=0:=by
 cases up
 .obtain⟨a,b⟩:=hF.1.1 h;exact(hG.1.2 _ b a).1
 .obtain⟨a,b⟩:=hF.2.1 h;exact(hG.2.2 _ b a).1
theorem qmb{p:Nat}{y:Rat}{F G:Bool->Dy×Int}(hF:RT p y F)(hG:RT p y G)(up:Bool)(h:(F up).2=0):if up=true then dv (G up).1<=dv (F up).1 else dv (F up).1<=dv (G up).1:=by
 cases up
 .obtain⟨a,b⟩:=hF.1.1 h;exact(hG.1.2 _ b a).2
 .obtain⟨a,b⟩:=hF.2.1 h;exact(hG.2.2 _ b a).2
theorem ztr{p:Nat}{y:Rat}{F G:Bool->Dy×Int}(hF:RT p y F)(hG:RT p y G)(up:Bool)(vF:VD (F up).1)(vG:VD (G up).1):Eq0 (F up) (G up):=by
 refine⟨⟨qhj hF hG up,qhj hG hF up⟩,fun h=>qdm vF vG ?_⟩;have h1:=qmb hF hG up h;have h2:=qmb hG hF up (qhj hF hG up h);grind
theorem zo8{a a' b b':Dy×Int}(h:Eq0 a a')(g:Eq0 b b'):vh a b=vh a' b':=by
 unfold vh;by_cases c:a.2≠0\/b.2≠0
 .rw[Z4 c,Z4 (by rw[ne_eq,ne_eq,<-h.1,<-g.1];exact c)]
 .have c':¬(a'.2≠0\/b'.2≠0):=by rw[ne_eq,ne_eq,<-h.1,<-g.1];exact c
  rw[Z5 c,Z5 c'];simp only[not_or,Decidable.not_not,ne_eq]at c;rw[h.2 c.1,g.2 c.2]
theorem qem{a a' b b':Dy×Int}(h:Eq0 a a')(g:Eq0 b b'){o:Iv}{K K':Iv->Iv}(hK:∀o,K o=K' o):stI a b o K=stI a' b' o K':=by
 unfold stI;by_cases c:a.2≠0\/b.2≠0
 .rw[Z4 c,Z4 (by rw[ne_eq,ne_eq,<-h.1,<-g.1];exact c)]
 .have c':¬(a'.2≠0\/b'.2≠0):=by rw[ne_eq,ne_eq,<-h.1,<-g.1];exact c
  rw[Z5 c,Z5 c'];simp only[not_or,Decidable.not_not,ne_eq]at c;rw[h.2 c.1,g.2 c.2,hK]
theorem s0_cg{a a' b b':Dy×Int}(h:Eq0 a a')(g:Eq0 b b'){K K':Iv->Iv}(hK:∀o,K o=K' o):s0I a b K=s0I a' b' K':=by
 unfold s0I;by_cases c:a.2≠0\/b.2≠0
 .rw[Z4 c,Z4 (by rw[ne_eq,ne_eq,<-h.1,<-g.1];exact c)]
 .have c':¬(a'.2≠0\/b'.2≠0):=by rw[ne_eq,ne_eq,<-h.1,<-g.1];exact c
  rw[Z5 c,Z5 c'];simp only[not_or,Decidable.not_not,ne_eq]at c;rw[h.2 c.1,g.2 c.2,hK]
theorem qgb{dn up dn' up':Dy->Dy->Dy×Int}{x y:Iv}(h:∀a b,(a=x.lo\/a=x.hi)->(b=y.lo\/b=y.hi)->Eq0 (dn a b) (dn' a b)/\Eq0 (up a b) (up' a b)):jy dn up x y=jy dn' up' x y:=by
 rw[zhk,zhk];have h1:=h x.lo y.lo (.inl rfl) (.inl rfl);have h2:=h x.lo y.hi (.inl rfl) (.inr rfl);have h3:=h x.hi y.lo (.inr rfl) (.inl rfl);have h4:=h x.hi y.hi (.inr rfl) (.inr rfl);exact s0_cg h1.1 h1.2 fun o=>qem h2.1 h2.2 fun o=>qem h3.1 h3.2 fun o=>qem h4.1 h4.2 fun o=>rfl
theorem qgv{d:Dy}(hc:d=cnN d.neg (nm d) d.e){p:Nat}(hp:8<=p/\p<=512):RT p (dv d) (fun up=>ziy d.neg (nm d) d.e false p up):=by
 have he:nm d=0->d.e=0:=fun h=>by
  rw[h]at hc;rw[hc];rfl
 have e:(fun up=>ziy d.neg (nm d) d.e false p up)=fun up=>xy d.neg (nm d) d.e false p up:=funext fun up=>zcq _ _ _ _ _ _ (fun h=>by cases h) (fun h=>O) hp
 rw[e];exact zb8 hp d.neg fun h=>O
theorem qgx{neg:Bool}{n:Nat}{e:Int}:cnN neg n e=cnN (cnN neg n e).neg (nm (cnN neg n e)) (cnN neg n e).e :=by
 by_cases h:n=0
 .subst h;rfl
 .obtain⟨m,_,hm1,hm2,_⟩:=zen h;have hc:cnN neg n e=⟨neg,toL m,e+tz n⟩:=by grind[cnN]
  rw[hc,xu];show _=cnN neg m (e+tz n);unfold cnN;grind[qb7]
theorem zue{a b:Dy}(ha:VD a)(hb:VD b):zd8 a b=cnN (zd8 a b).neg (nm (zd8 a b)) (zd8 a b).e :=by
 unfold zd8;split
 .exact hb.canon
 split
 .exact ha.canon
 grind[qgx]
theorem zyc{a b:Dy}(ha:VD a)(hb:VD b){p:Nat}(hp:8<=p/\p<=512):RT p (dv a+dv b) (fun up=>zy5 a b p up):=by
 rw[<-qgl];exact qgv (zue ha hb) hp
theorem qhh{neg:Bool}{m:Nat}{e:Int}{more:Bool}{p:Nat}{up:Bool}(hm:more=true->p<bl m)(h0:m=0->e<=16384+p)(hp:8<=p/\p<=512):VD (ziy neg m e more p up).1:=by
 simp_all[zcq,zi8]
theorem zyi{a b:Dy}(ha:VD a)(hb:VD b){p:Nat}(hp:8<=p/\p<=512)(up:Bool):VD (zy5 a b p up).1:=by
 refine qhh (fun h=>by cases h) (fun h=>?_) hp;have hc:=zue ha hb;rw[h]at hc;rw[hc];show(0:Int)<=_;omega
theorem zsj{x y:Iv}(hx:RI x)(hy:RI y)(p:Int):zpz x y p=yi x y p:=by
 unfold zpz yi;by_cases c:pcB p=true/\kB x=true/\kB y=true
 .rw[Z4 c,Z4 ⟨by simp_all,c.1⟩];have kx:=(zp hx).1 c.2.1;have ky:=(zp hy).1 c.2.2;have hp:=qk c.1;exact zo8 (ztr (zyc kx.lo ky.lo hp) (zgm kx.lo ky.lo hp) false (zyi kx.lo ky.lo hp _) (zok _ _ _ _ hp)) (ztr (zyc kx.hi ky.hi hp) (zgm kx.hi ky.hi hp) true (zyi kx.hi ky.hi hp _) (zok _ _ _ _ hp))
 grind
theorem zz5{x y p:Nat}(hx:x≠0)(hy:y≠0):p<bl (x*2^(p+2+bl y-bl x)/y):=by
 have hk:=zq x (p+2+bl y-bl x) hx;generalize x*2^(p+2+bl y-bl x)=X at*;have hX:X≠0:=fun c=>by grind[vl,bl,uj]
 have h1:2^(p+1+bl y)<=X:=(xj hX).1 O;have h2:2^(p+1)<=X/y:=by
  rw[Nat.le_div_iff_mul_le (qE hy)];rw[qA]at h1;exact Nat.le_trans (Nat.mul_le_mul_left _ (Nat.le_of_lt (zbb y))) h1
 have h3:X/y≠0:=by grind
 have:=(xj h3).2 h2;omega
theorem zxm{a b:Dy}(hb0:nm b≠0)(ha0:nm a≠0){p:Nat}(hp:8<=p/\p<=512):RT p (dv a/dv b) (fun up=>zer a b p up)/\∀up,VD (zer a b p up).1:=by
 have hb:0<vN (nm b) b.e:=zhq _ hb0;have hv:dv a/dv b=if(a.neg != b.neg)=true then-(vN (nm a) a.e/vN (nm b) b.e)else vN (nm a) a.e/vN (nm b) b.e:=by
  grind[dv]
 have hbit:p<bl (nm a*2^dvK a b p/nm b):=zz5 ha0 hb0;have hq0:nm a*2^dvK a b p/nm b≠0:=fun c=>by simp_all[vl]
 have hD:∀up,zer a b p up=xy (a.neg != b.neg) (nm a*2^dvK a b p/nm b) (a.e-b.e-dvK a b p) (decide (nm a*2^dvK a b p % nm b≠0)) p up:=fun up=>by
  unfold zer;grind[zcq]
 refine⟨?_,fun up=>by grind[zi8]⟩;rw[hv,show(fun up=>zer a b p up)=_ from funext hD];have hx:vN (nm a) a.e=vN (nm a*2^dvK a b p) (a.e-dvK a b p):=by grind[zbg]
 have hq:∀q,vN q (a.e-b.e-dvK a b p)*vN (nm b) b.e=vN (q*nm b) (a.e-dvK a b p):=fun q=>by grind[zmp]
 have hdm:=Nat.div_add_mod' (nm a*2^dvK a b p) (nm b);have hml:=qn (nm a*2^dvK a b p) (qE hb0);have hnz:vN (nm b) b.e≠0:=fun c=>by grind
 refine zc1 hp _ ?_ ?_ ?_ ?_ ?_ ?_
 .grind[zry,yk]
 .grind[zxl,zky,Nat.succ_mul]
 .grind
 .intro h;have h:nm a*2^dvK a b p % nm b≠0:=by simpa using h
  refine Rat.not_le.1 fun c=>?_
  have h2:=qv c (Rat.le_of_lt hb);have e1:vN (nm a) a.e/vN (nm b) b.e*vN (nm b) b.e=vN (nm a) a.e:=by grind
  grind[yk]
 .omega
 omega
theorem zpt{a b:Dy}(ha:VD a)(hb:VD b)(hb0:nm b≠0){p:Nat}(hp:8<=p/\p<=512)(up:Bool):Eq0 (zer a b p up) (ui a b p up):=by
 by_cases ha0:nm a=0
 .have e:zer a b p up=(d0,0):=by simp_all[zer,Z5,Z4]
  have R:=zgj ha hb hb0 hp;have e0:dv a/dv b=0:=by rw[xq ha0];grind
  rw[e0]at R;have Zq:RT p 0 (fun _=>(d0,(0:Int))):=⟨⟨fun _=>⟨by grind[dv,d0,zek,Rat.le_refl],.inl (by grind[inF,dv,d0,zek,zaz])⟩,fun z _ hz=>⟨rfl,by grind[dv,d0,zek]⟩⟩,⟨fun _=>⟨by grind[dv,d0,zek,Rat.le_refl],.inl (by grind[inF,dv,d0,zek,zaz])⟩,fun z _ hz=>⟨rfl,by grind[dv,d0,zek]⟩⟩⟩;rw[e];exact ztr Zq R up qg (yj _ _ _ _ hp)
 .obtain⟨R,v⟩:=zxm hb0 ha0 hp;exact ztr R (zgj ha hb hb0 hp) up (v up) (yj _ _ _ _ hp)
def prL(x y:Iv):List (Dy×Dy):= [(x.lo,y.lo),(x.lo,y.hi),(x.hi,y.lo),(x.hi,y.hi)]
theorem r257(x y:Iv):Fn 301 [] [.agg (ivC x),.agg (ivC y)] (.sl .dd (prL x y)) []:=by
 obtain⟨⟨x1,x2,x3⟩,⟨x4,x5,x6⟩,x7⟩:=x;obtain⟨⟨y1,y2,y3⟩,⟨y4,y5,y6⟩,y7⟩:=y;refine fY6 Tryz.func301 rfl ?_;exact⟨lr rfl,lh0⟩
theorem qcq{x y:Iv}(kx:KI x)(ky:KI y){q:Dy×Dy}(h:q∈prL x y):VD q.1/\VD q.2:=by
 simp only[prL,List.mem_cons,List.not_mem_nil,or_false]at h;rcases h with rfl|rfl|rfl|rfl
 .exact⟨kx.lo,ky.lo⟩
 .exact⟨kx.lo,ky.hi⟩
 .exact⟨kx.hi,ky.lo⟩
 .exact⟨kx.hi,ky.hi⟩
theorem qfs(a b:Dy):zpa b a=if qo a b<0 then a else b:=by
 unfold zpa;by_cases h:dv b<=dv a
 .simp_all[Z4,xg,Z5,absurd,zar,Rat.not_lt]
 simp_all[Z5,xg,Z4,zar,Rat.not_le]
theorem qfn(a b:Dy):zlt b a=if 0<qo a b then a else b:=by
 unfold zlt;by_cases h:dv a<=dv b
 .simp_all[Z4,zkt,Z5,absurd,zar,Rat.not_lt]
 simp_all[Z5,zkt,Z4,zar,Rat.not_le]
theorem qan(a:Dy):zpa a a=a:=by simp_all[zpa]
theorem qal(a:Dy):zlt a a=a:=by simp_all[zlt]
def nxI(i:Nat)(o:Iv)(D U:Dy×Int):Iv:=⟨zpa (if i=0 then D.1 else o.lo) D.1,zlt (if i=0 then U.1 else o.hi) U.1,false⟩
theorem nx_0(o:Iv)(D U:Dy×Int):nxI 0 o D U=⟨D.1,U.1,false⟩:=by
 unfold nxI;rw[Z4 rfl,Z4 rfl,qan,qal]
theorem nx_s(i:Nat)(o:Iv)(D U:Dy×Int):nxI (i+1) o D U=⟨if qo D.1 o.lo<0 then D.1 else o.lo,if 0<qo U.1 o.hi then U.1 else o.hi,false⟩:=by
 simp_all[nxI,Z5,Nat.succ_ne_zero,qfs,qfn]
theorem qc6(dn up:Dy->Dy->Dy×Int)(x y:Iv)(i:Nat)(o:Iv)(hi:i<4){q:Dy×Dy}(hq:(prL x y)[i]? =some q):
 f4I dn up x y i o=if(dn q.1 q.2).2≠0\/(up q.1 q.2).2≠0 then wI0 else f4I dn up x y (i+1) (nxI i o (dn q.1 q.2) (up q.1 q.2)):=by
 obtain rfl|rfl|rfl|rfl:i=0\/i=1\/i=2\/i=3:=O
 .cases hq
  rw[nx_0];rfl
 .cases hq
  rw[nx_s 0];rfl
 .cases hq
  rw[nx_s 1];rfl
 .cases hq
  rw[nx_s 2];rfl
theorem qhg{a b:Dy}{p:Nat}(hp:8<=p/\p<=512)(up:Bool):VD (zer a b p up).1:=by
 by_cases hb0:nm b=0
 .simp_all[zer,Z4,qg]
 .by_cases ha0:nm a=0
  .simp_all[zer,Z5,Z4,qg]
  simp_all[zxm]
def zwf(x y:Iv)(p:Int):Iv:=if pcB p=true/\kB x=true/\kB y=true then jy (fun a b=>wz a b p.toNat false) (fun a b=>wz a b p.toNat true) x y else wI0
theorem r178(x y:Iv)(hx:RI x)(hy:RI y)(p:Int):Fn 218 [] [.agg (ivC x),.agg (ivC y),.int .i64 p] (.agg (ivC (zwf x y p))) []:=by
 have h60:=r60 p;have h1:=zyx x hx;have h2:=zyx y hy;have h61:=r61;obtain⟨R,hR⟩:∃R,zwf x y p=R:=⟨_,rfl⟩;rw[hR];unfold zwf at hR
 cases hp:pcB p with
 |false=>
  rw[hp]at h60;rw[Z5 (by rw[hp];simp)]at hR;subst hR;refine fY6 Tryz.func218 rfl ?_;refine gYn h60 ?_;refine gYn h61 ?_;exact⟨lr rfl,lh0⟩
 |true=>
 rw[hp]at h60
 cases hkx:kB x with
 |false=>
  rw[hkx]at h1;rw[Z5 (by rw[hkx];simp)]at hR;subst hR;refine fY6 Tryz.func218 rfl ?_;refine gYn h60 ?_;refine gYn h1 ?_;refine gYn h61 ?_;exact⟨lr rfl,lh0⟩
 |true=>
 rw[hkx]at h1
 cases hky:kB y with
 |false=>
  rw[hky]at h2;rw[Z5 (by rw[hky];simp)]at hR;subst hR;refine fY6 Tryz.func218 rfl ?_;refine gYn h60 ?_;refine gYn h1 ?_;refine gYn h2 ?_;refine gYn h61 ?_;exact⟨lr rfl,lh0⟩
 |true=>
 rw[hky]at h2;rw[Z4 ⟨hp,hkx,hky⟩]at hR;have kx:=(zp hx).1 hkx;have ky:=(zp hy).1 hky;have hpn:8<=p.toNat/\p.toNat<=512:=qk hp;have c257:=r257 x y;have cd:∀q:Dy×Dy,q∈prL x y->∀up,Fn 303 [] [.agg (dyC q.1),.agg (dyC q.2),.int .i64 p,.bool up] (dyV (wz q.1 q.2 p.toNat up)) []/\VD (wz q.1 q.2 p.toNat up).1:=fun q hq up=>by
  have ⟨va,vb⟩:=qcq kx ky hq;have h:=r258 va vb p.toNat hpn up;rw[zwd va vb p.toNat hpn up]at h;rw[show((p.toNat:Nat):Int)=p by omega]at h;exact⟨h,kj _ _ _ _ hpn⟩
 have gs:=fun i o=>qc6 (fun a b=>wz a b p.toNat false) (fun a b=>wz a b p.toNat true) x y i o
 unfold jy at hR;generalize hG:f4I (fun a b=>wz a b p.toNat false) (fun a b=>wz a b p.toNat true) x y=G at*;have hG4:∀o,G 4 o=o:=fun o=>by rw[<-hG];rfl
 have hG0:∀o o',G 0 o=G 0 o':=fun o o'=>by rw[<-hG];rfl
 generalize p.toNat=n at*;clear hG kx ky hx hy hpn hkx hky;have hpl:(prL x y).length =4:=rfl;generalize prL x y=l at*;refine fY6 Tryz.func218 rfl ?_;refine gYn h60 ?_;refine gYn h1 ?_;refine gYn h2 ?_;refine gYn c257 ?_;refine⟨Nat×Iv,fun s=>s.1<=4/\(s.1≠0->VD s.2.lo/\VD s.2.hi)/\s.2.all=false/\G s.1 s.2=R,fun s=> [(9,.int .i64 s.1)],fun s=> [(8,.cells (ivC s.2))],fun s=>4-s.1,(0,⟨d0,d0,false⟩),⟨OC,fun h=>absurd rfl h,rfl,by rw[<-hR];exact hG0 _ _⟩,?_,fun s hs=>?_⟩
 .exact KZ0
 obtain⟨i,o⟩:=s;obtain⟨g1,g2,g3,g4⟩:=hs;simp only at g1 g2 g3 g4;refine gYe ?_;refine brI (fun c=>?_) (fun c=>?_)
 .have c:i<4:=by have c:((i:Nat):Int)<4:=Z0 c;omega
  obtain⟨q,hq⟩:∃q,l[i]? =some q:=⟨_,q4 O⟩;obtain⟨cd1,vd1⟩:=cd q (q6 hq) false;obtain⟨cd2,vd2⟩:=cd q (q6 hq) true;have gs:=gs i o c hq;rw[g4]at gs;obtain⟨q1,q2⟩:=q;obtain⟨D,hD⟩:∃D,wz q1 q2 n false=D:=⟨_,rfl⟩;obtain⟨U,hU⟩:∃U,wz q1 q2 n true=U:=⟨_,rfl⟩;simp only at cd1 cd2 vd1 vd2 gs;rw[hD]at cd1 vd1 gs;rw[hU]at cd2 vd2 gs;have hix:∀z:Dy×Dy,l[((i:Nat):Int).toNat]? =some z->z=(q1,q2):=fun z hz=>by rw[q0,hq]at hz;cases hz;rfl
  conv=>whnf
  refine⟨⟨O,OD⟩,fun(zcd11:Dy×Dy)hzcd11=>?_⟩;obtain rfl:=hix zcd11 hzcd11;conv=>whnf
  refine⟨⟨OA,OA⟩,?_⟩;conv=>whnf
  refine⟨⟨O,OD⟩,fun(zcd12:Dy×Dy)hzcd12=>?_⟩;obtain rfl:=hix zcd12 hzcd12;conv=>whnf
  refine⟨⟨OA,OA⟩,?_⟩;conv=>whnf
  refine gZn cd1 ?_;refine gYd ?_;refine⟨⟨O,OD⟩,fun(zcd21:Dy×Dy)hzcd21=>?_⟩;obtain rfl:=hix zcd21 hzcd21;conv=>whnf
  refine⟨⟨OA,OA⟩,?_⟩;conv=>whnf
  refine⟨⟨O,OD⟩,fun(zcd22:Dy×Dy)hzcd22=>?_⟩;obtain rfl:=hix zcd22 hzcd22;conv=>whnf
  refine⟨⟨OA,OA⟩,?_⟩;conv=>whnf
  refine gZn cd2 ?_;refine gYd ?_;refine brI (fun k1=>?_) (fun k1=>?_)
  .have k1:D.2≠0:=by simpa using k1
   rw[Z4 (.inl k1)]at gs;subst gs;conv=>whnf
   refine gYn h61 ?_;exact⟨lr rfl,lh0⟩
  have k1:D.2=0:=by simpa using k1
  conv=>whnf
  refine brI (fun k2=>?_) (fun k2=>?_)
  .have k2:U.2≠0:=by simpa using k2
   rw[Z4 (.inr k2)]at gs;subst gs;conv=>whnf
   refine gYn h61 ?_;exact⟨lr rfl,lh0⟩
  have k2:U.2=0:=by simpa using k2
  rw[Z5 (by rw[k1,k2];simp)]at gs;have vo:VD (nxI i o D U).lo /\VD (nxI i o D U).hi :=by
   by_cases h0:i=0
   .subst h0;rw[nx_0];exact⟨vd1,vd2⟩
   .obtain⟨v1,v2⟩:=g2 h0;unfold nxI;rw[Z5 h0,Z5 h0];exact⟨zcv v1 vd1,zbs v2 vd2⟩
  clear cd1 cd2 cd hix hq c257 h1 h2 h60 h61;conv=>whnf
  refine brI (fun c0=>?_) (fun c0=>?_)
  .have c0:i=0:=by have c0:(((i:Nat):Int)==0)=true:=c0;have:=beq_iff_eq.1 c0;omega
   subst c0;have cl:=r162 vd1 vd1;have ch:=qhx vd2 vd2;have en:nxI 0 o D U=⟨zpa D.1 D.1,zlt U.1 U.1,false⟩:=rfl;rw[en]at gs vo;generalize zpa D.1 D.1=L at*;generalize zlt U.1 U.1=M at*;obtain⟨⟨a1,a2,a3⟩,a4⟩:=D;obtain⟨⟨b1,b2,b3⟩,b4⟩:=U;conv=>whnf
   refine gYn cl ?_;refine gZn ch ?_;refine gYd ?_;refine⟨(0+1,⟨L,M,false⟩),⟨OD,fun _=>vo,rfl,gs.symm⟩,by show 4-(0+1)<4-0;omega,?_⟩;exact KZ0
  .have c0:i≠0:=by have c0:(((i:Nat):Int)==0)=false:=c0;have:=beq_eq_false_iff_ne.1 c0;omega
   obtain⟨v1,v2⟩:=g2 c0;have cl:=r162 v1 vd1;have ch:=qhx v2 vd2;have en:nxI i o D U=⟨zpa o.lo D.1,zlt o.hi U.1,false⟩:=by unfold nxI;rw[Z5 c0,Z5 c0]
   rw[en]at gs vo;generalize zpa o.lo D.1=L at*;generalize zlt o.hi U.1=M at*;obtain⟨⟨a1,a2,a3⟩,a4⟩:=D;obtain⟨⟨b1,b2,b3⟩,b4⟩:=U;obtain⟨⟨o1,o2,o3⟩,⟨o4,o5,o6⟩,o7⟩:=o;conv=>whnf
   refine gYn cl ?_;refine gZn ch ?_;refine gYd ?_;refine⟨(i+1,⟨L,M,false⟩),⟨OD,fun _=>vo,rfl,gs.symm⟩,by show 4-(i+1)<4-i;omega,?_⟩;exact KZ0
 .have c:i=4:=by have c:¬((i:Nat):Int)<4:=Z1 c;omega
  subst c;rw[hG4]at g4;subst g4;conv=>whnf
  exact⟨lr rfl,lh0⟩
theorem qak{x y:Iv}(hx:RI x)(hy:RI y)(p:Int):zwf x y p=zax x y p:=by
 unfold zwf zax;by_cases c:pcB p=true/\kB x=true/\kB y=true
 .rw[Z4 c,Z4 ⟨by rw[c.2.1,c.2.2];rfl,c.1⟩]
 .rw[Z5 c,Z5 fun d=>c ⟨d.2,by have:=d.1;rw[qH]at this;exact this⟩]
def zxo(x y:Iv)(p:Int):Iv:=if pcB p=true/\kB x=true/\kB y=true/\zdr y≠0 then jy (fun a b=>zer a b p.toNat false) (fun a b=>zer a b p.toNat true) x y else wI0
theorem r179(x y:Iv)(hx:RI x)(hy:RI y)(p:Int):Fn 216 [] [.agg (ivC x),.agg (ivC y),.int .i64 p] (.agg (ivC (zxo x y p))) []:=by
 have h60:=r60 p;have h1:=zyx x hx;have h2:=zyx y hy;have h61:=r61;obtain⟨R,hR⟩:∃R,zxo x y p=R:=⟨_,rfl⟩;rw[hR];unfold zxo at hR
 cases hp:pcB p with
 |false=>
  rw[hp]at h60;rw[Z5 (by rw[hp];simp)]at hR;subst hR;refine fY6 Tryz.func216 rfl ?_;refine gYn h60 ?_;refine gYn h61 ?_;exact⟨lr rfl,lh0⟩
 |true=>
 rw[hp]at h60
 cases hkx:kB x with
 |false=>
  rw[hkx]at h1;rw[Z5 (by rw[hkx];simp)]at hR;subst hR;refine fY6 Tryz.func216 rfl ?_;refine gYn h60 ?_;refine gYn h1 ?_;refine gYn h61 ?_;exact⟨lr rfl,lh0⟩
 |true=>
 rw[hkx]at h1
 cases hky:kB y with
 |false=>
  rw[hky]at h2;rw[Z5 (by rw[hky];simp)]at hR;subst hR;refine fY6 Tryz.func216 rfl ?_;refine gYn h60 ?_;refine gYn h1 ?_;refine gYn h2 ?_;refine gYn h61 ?_;exact⟨lr rfl,lh0⟩
 |true=>
 rw[hky]at h2;have h259:=r259 y hy;by_cases hsg:zdr y=0
 .rw[Z5 fun c=>c.2.2.2 hsg]at hR;rw[hsg]at h259;subst hR;refine fY6 Tryz.func216 rfl ?_;refine gYn h60 ?_;refine gYn h1 ?_;refine gYn h2 ?_;refine gYn h259 ?_;refine gYn h61 ?_;exact⟨lr rfl,lh0⟩
 rw[Z4 ⟨hp,hkx,hky,hsg⟩]at hR;have kx:=(zp hx).1 hkx;have ky:=(zp hy).1 hky;have hpn:8<=p.toNat/\p.toNat<=512:=qk hp;have c257:=r257 x y;have cd:∀q:Dy×Dy,q∈prL x y->∀up,Fn 302 [] [.agg (dyC q.1),.agg (dyC q.2),.int .i64 p,.bool up] (dyV (zer q.1 q.2 p.toNat up)) []/\VD (zer q.1 q.2 p.toNat up).1:=fun q hq up=>by
  have ⟨va,vb⟩:=qcq kx ky hq;have h:=r260 va vb p.toNat hpn up;rw[show((p.toNat:Nat):Int)=p by omega]at h;exact⟨h,qhg hpn up⟩
 have gs:=fun i o=>qc6 (fun a b=>zer a b p.toNat false) (fun a b=>zer a b p.toNat true) x y i o
 unfold jy at hR;generalize hG:f4I (fun a b=>zer a b p.toNat false) (fun a b=>zer a b p.toNat true) x y=G at*;have hG4:∀o,G 4 o=o:=fun o=>by rw[<-hG];rfl
 have hG0:∀o o',G 0 o=G 0 o':=fun o o'=>by rw[<-hG];rfl
 generalize p.toNat=n at*;clear hG kx ky hx hy hpn hkx hky;have hpl:(prL x y).length =4:=rfl;generalize prL x y=l at*;refine fY6 Tryz.func216 rfl ?_;refine gYn h60 ?_;refine gYn h1 ?_;refine gYn h2 ?_;refine gYn h259 ?_;refine brI (fun c=>absurd (beq_iff_eq.1 c) hsg) (fun _=>?_);conv=>whnf
 refine gYn c257 ?_;refine⟨Nat×Iv,fun s=>s.1<=4/\(s.1≠0->VD s.2.lo/\VD s.2.hi)/\s.2.all=false/\G s.1 s.2=R,fun s=> [(9,.int .i64 s.1)],fun s=> [(8,.cells (ivC s.2))],fun s=>4-s.1,(0,⟨d0,d0,false⟩),⟨OC,fun h=>absurd rfl h,rfl,by rw[<-hR];exact hG0 _ _⟩,?_,fun s hs=>?_⟩
 .exact KZ0
 obtain⟨i,o⟩:=s;obtain⟨g1,g2,g3,g4⟩:=hs;simp only at g1 g2 g3 g4;refine gYe ?_;refine brI (fun c=>?_) (fun c=>?_)
 .have c:i<4:=by have c:((i:Nat):Int)<4:=Z0 c;omega
  obtain⟨q,hq⟩:∃q,l[i]? =some q:=⟨_,q4 O⟩;obtain⟨cd1,vd1⟩:=cd q (q6 hq) false;obtain⟨cd2,vd2⟩:=cd q (q6 hq) true;have gs:=gs i o c hq;rw[g4]at gs;obtain⟨q1,q2⟩:=q;obtain⟨D,hD⟩:∃D,zer q1 q2 n false=D:=⟨_,rfl⟩;obtain⟨U,hU⟩:∃U,zer q1 q2 n true=U:=⟨_,rfl⟩;simp only at cd1 cd2 vd1 vd2 gs;rw[hD]at cd1 vd1 gs;rw[hU]at cd2 vd2 gs;have hix:∀z:Dy×Dy,l[((i:Nat):Int).toNat]? =some z->z=(q1,q2):=fun z hz=>by rw[q0,hq]at hz;cases hz;rfl
  conv=>whnf
  refine⟨⟨O,OD⟩,fun(zcd11:Dy×Dy)hzcd11=>?_⟩;obtain rfl:=hix zcd11 hzcd11;conv=>whnf
  refine⟨⟨OA,OA⟩,?_⟩;conv=>whnf
  refine⟨⟨O,OD⟩,fun(zcd12:Dy×Dy)hzcd12=>?_⟩;obtain rfl:=hix zcd12 hzcd12;conv=>whnf
  refine⟨⟨OA,OA⟩,?_⟩;conv=>whnf
  refine gZn cd1 ?_;refine gYd ?_;refine⟨⟨O,OD⟩,fun(zcd21:Dy×Dy)hzcd21=>?_⟩;obtain rfl:=hix zcd21 hzcd21;conv=>whnf
  refine⟨⟨OA,OA⟩,?_⟩;conv=>whnf
  refine⟨⟨O,OD⟩,fun(zcd22:Dy×Dy)hzcd22=>?_⟩;obtain rfl:=hix zcd22 hzcd22;conv=>whnf
  refine⟨⟨OA,OA⟩,?_⟩;conv=>whnf
  refine gZn cd2 ?_;refine gYd ?_;refine brI (fun k1=>?_) (fun k1=>?_)
  .have k1:D.2≠0:=by simpa using k1
   rw[Z4 (.inl k1)]at gs;subst gs;conv=>whnf
   refine gYn h61 ?_;exact⟨lr rfl,lh0⟩
  have k1:D.2=0:=by simpa using k1
  conv=>whnf
  refine brI (fun k2=>?_) (fun k2=>?_)
  .have k2:U.2≠0:=by simpa using k2
   rw[Z4 (.inr k2)]at gs;subst gs;conv=>whnf
   refine gYn h61 ?_;exact⟨lr rfl,lh0⟩
  have k2:U.2=0:=by simpa using k2
  rw[Z5 (by rw[k1,k2];simp)]at gs;have vo:VD (nxI i o D U).lo /\VD (nxI i o D U).hi :=by
   by_cases h0:i=0
   .subst h0;rw[nx_0];exact⟨vd1,vd2⟩
   .obtain⟨v1,v2⟩:=g2 h0;unfold nxI;rw[Z5 h0,Z5 h0];exact⟨zcv v1 vd1,zbs v2 vd2⟩
  clear cd1 cd2 cd hix hq c257 h1 h2 h60 h61;conv=>whnf
  refine brI (fun c0=>?_) (fun c0=>?_)
  .have c0:i=0:=by have c0:(((i:Nat):Int)==0)=true:=c0;have:=beq_iff_eq.1 c0;omega
   subst c0;have cl:=r162 vd1 vd1;have ch:=qhx vd2 vd2;have en:nxI 0 o D U=⟨zpa D.1 D.1,zlt U.1 U.1,false⟩:=rfl;rw[en]at gs vo;generalize zpa D.1 D.1=L at*;generalize zlt U.1 U.1=M at*;obtain⟨⟨a1,a2,a3⟩,a4⟩:=D;obtain⟨⟨b1,b2,b3⟩,b4⟩:=U;conv=>whnf
   refine gYn cl ?_;refine gZn ch ?_;refine gYd ?_;refine⟨(0+1,⟨L,M,false⟩),⟨OD,fun _=>vo,rfl,gs.symm⟩,by show 4-(0+1)<4-0;omega,?_⟩;exact KZ0
  .have c0:i≠0:=by have c0:(((i:Nat):Int)==0)=false:=c0;have:=beq_eq_false_iff_ne.1 c0;omega
   obtain⟨v1,v2⟩:=g2 c0;have cl:=r162 v1 vd1;have ch:=qhx v2 vd2;have en:nxI i o D U=⟨zpa o.lo D.1,zlt o.hi U.1,false⟩:=by unfold nxI;rw[Z5 c0,Z5 c0]
   rw[en]at gs vo;generalize zpa o.lo D.1=L at*;generalize zlt o.hi U.1=M at*;obtain⟨⟨a1,a2,a3⟩,a4⟩:=D;obtain⟨⟨b1,b2,b3⟩,b4⟩:=U;obtain⟨⟨o1,o2,o3⟩,⟨o4,o5,o6⟩,o7⟩:=o;conv=>whnf
   refine gYn cl ?_;refine gZn ch ?_;refine gYd ?_;refine⟨(i+1,⟨L,M,false⟩),⟨OD,fun _=>vo,rfl,gs.symm⟩,by show 4-(i+1)<4-i;omega,?_⟩;exact KZ0
 .have c:i=4:=by have c:¬((i:Nat):Int)<4:=Z1 c;omega
  subst c;rw[hG4]at g4;subst g4;conv=>whnf
  exact⟨lr rfl,lh0⟩
theorem sg_nz{y:Iv}(k:KI y)(h:zdr y≠0):nm y.lo≠0/\nm y.hi≠0:=by
 have hle:=k.dle;rcases(ze0 k).1 h with c|c
 .exact⟨fun e=>by rw[xq e]at c;grind,fun e=>by rw[xq e]at hle;grind⟩
 .exact⟨fun e=>by rw[xq e]at hle;grind,fun e=>by rw[xq e]at c;grind⟩
theorem qbb{x y:Iv}(hx:RI x)(hy:RI y)(p:Int):zxo x y p=xr x y p:=by
 unfold zxo xr;by_cases c:pcB p=true/\kB x=true/\kB y=true/\zdr y≠0
 .rw[Z4 c,Z4 ⟨by rw[c.2.1,c.2.2.1];rfl,c.1,c.2.2.2⟩];have kx:=(zp hx).1 c.2.1;have ky:=(zp hy).1 c.2.2.1;have hp:=qk c.1;obtain⟨z1,z2⟩:=sg_nz ky c.2.2.2;refine qgb fun a b ha hb=>?_
  have va:VD a:=by rcases ha with rfl|rfl;exact kx.lo;exact kx.hi
  have vb:VD b/\nm b≠0:=by rcases hb with rfl|rfl;exact⟨ky.lo,z1⟩;exact⟨ky.hi,z2⟩
  exact⟨zpt va vb.1 vb.2 hp false,zpt va vb.1 vb.2 hp true⟩
 .rw[Z5 c,Z5 fun d=>c ⟨d.2.1,by have:=d.1;rw[qH]at this;exact this.1,by have:=d.1;rw[qH]at this;exact this.2,d.2.2⟩]
