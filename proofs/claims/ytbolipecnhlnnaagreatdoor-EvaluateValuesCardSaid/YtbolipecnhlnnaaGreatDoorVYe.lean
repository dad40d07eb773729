/- Seat .Z: the reference's names. -/
import Derived.Test.YtbolipecnhlnnaaGreatDoorVVa
import Derived.Test.YtbolipecnhlnnaaGreatDoorVYa
set_option linter.all false
open And renaming intro->q7
open Bool renaming eq_iff_iff->q1,and_eq_true->q2,or_eq_true->qA
open List renaming drop_of_length_le->q0,getElem?_eq_some_iff->q3,drop_eq_getElem_cons->q4,length_cons->q5,mem_cons->q6,mem_of_getElem?->q8,mem_cons_of_mem->q9,all_cons->qd,take_add_one->qn
namespace Go.Proofs.YtbolipecnhlnnaaGreatDoor
open Go Go.Sx
set_option maxRecDepth 100000
set_option maxHeartbeats 8000000
def ltB(c:Int):Bool:=decide (97<=c/\c<=122)||decide (65<=c/\c<=90)
def qgq(c:Int):Bool:=decide (48<=c/\c<=57)
def rnB(c:Int):Bool:=ltB c||qgq c||decide (c=95)||decide (c=46)
theorem z115(c:Int):Fn 406 [] [.int .u8 c] (.bool (ltB c)) []:=by
 refine fnT hT hmx Tryz.func406 rfl rfl (ex:= []) ?_;conv=>whnf
 repeat' first
  |(refine brI (fun h=>?_) (fun h=>?_)<;>(conv=>whnf))
  |refine q7 (ab0 ?_) lh0
 all_goals (simp only[Z2,Z3]at*;unfold ltB;rw[q1];simp;omega)
theorem z116(c:Int):Fn 407 [] [.int .u8 c] (.bool (qgq c)) []:=by
 refine fnT hT hmx Tryz.func407 rfl rfl (ex:= []) ?_;conv=>whnf
 repeat' first
  |(refine brI (fun h=>?_) (fun h=>?_)<;>(conv=>whnf))
  |refine q7 (ab0 ?_) lh0
 all_goals (simp only[Z2,Z3]at*;unfold qgq;rw[q1];simp;omega)
theorem z114(c:Int):Fn 405 [] [.int .u8 c] (.bool (rnB c)) []:=by
 refine fnT hT hmx Tryz.func405 rfl rfl (ex:= []) ?_;conv=>whnf
 refine cbI [] (ltB c) (z115 c) (fun h1=>?_) (fun h1=>?_)
 .conv=>whnf
  exact⟨ab0 (by simp[rnB,h1]),lh0⟩
 conv=>whnf
 refine cbI [] (qgq c) (z116 c) (fun h2=>?_) (fun h2=>?_)
 .conv=>whnf
  exact⟨ab0 (by simp[rnB,h2]),lh0⟩
 conv=>whnf
 refine brI (fun h3=>?_) (fun h3=>?_)
 .conv=>whnf
  exact⟨ab0 (by simp only[Z2,beq_iff_eq]at h3;simp[rnB,h3]),lh0⟩
 .conv=>whnf
  exact⟨ab0 (by simp only[Z3,beq_eq_false_iff_ne,ne_eq]at h3;unfold rnB;rw[h1,h2,q1];simp[h3]),lh0⟩
theorem qlq(c:UInt8):chB c=(!(decide ((c.toNat:Int)=46))&&rnB c.toNat):=by
 unfold chB cls rnB ltB qgq;rw[q1];simp only[qA,q2,Bool.not_eq_true',Z2,Z3]
 repeat' split
 all_goals omega
theorem qcy(c:UInt8):decide (cls c.toNat=2)=ltB c.toNat:=by
 unfold cls ltB;rw[q1];simp only[qA,Z2]
 repeat' split
 all_goals omega
theorem zy9(s:zg):zeu s=(s.all chB&&match s with| []=>false|c::_=>ltB c.toNat):=by
 cases s with
 |nil=>simp[zeu]
 |cons c s=>
  simp only[zeu,qd,qcy]
  cases h:ltB c.toNat with
  |false=>simp
  |true=>
   have h2:decide (cls c.toNat=2)=true:=by rw[qcy];exact h
   simp[chB,h2]
theorem z101(s:zg)(hs:s.length<9223372036854775808):Fn 385 [] [.str s] (.bool (zeu s)) []:=by
 rw[zy9];refine fnT hT hmx Tryz.func385 rfl rfl (ex:= []) ?_;conv=>whnf
 refine⟨Nat,fun i=>i<=s.length/\(s.drop i).all chB=s.all chB,fun i=> [(3,.int .i64 i)],fun _=> [],fun i=>s.length-i,0,⟨OC,OC⟩,?_,fun i hi=>?_⟩
 .exact KZ0
 refine gYe ?_;obtain⟨hi1,hi2⟩:=hi;refine brI (fun h1=>?_) (fun h1=>?_)
 .conv=>whnf
  have hi:i<s.length:=by simp only[Z2]at h1;omega
  refine⟨⟨O,O⟩,fun c hc=>?_⟩;have hc:s[(i:Int).toNat]? =some c:=hc;have hc:s[i]? =some c:=by simpa using hc
  obtain⟨hl,hg⟩:=q3.1 hc;have hd:s.drop i=c::s.drop (i+1):=by rw[<-hg];exact q4 hl
  rw[hd,qd,qlq]at hi2;conv=>whnf
  refine brI (fun h2=>?_) (fun h2=>?_)
  .have h2:(c.toNat:Int)=46:=by simpa using h2
   conv=>whnf
   refine⟨ab0 ?_,lh0⟩;rw[Z6 h2]at hi2;rw[<-hi2];rfl
  have h2:¬(c.toNat:Int)=46:=by simpa using h2
  rw[Z7 h2]at hi2;conv=>whnf
  refine⟨⟨O,O⟩,fun c' hc'=>?_⟩;have hc':s[(i:Int).toNat]? =some c':=hc';have hc':s[i]? =some c':=by simpa using hc'
  rw[hc]at hc';cases hc'
  conv=>whnf
  refine cbI [] (rnB c.toNat) (z114 c.toNat) (fun h3=>?_) (fun h3=>?_)
  .conv=>whnf
   rw[h3]at hi2;refine⟨i+1,⟨O,by simpa using hi2⟩,by show s.length-(i+1)<s.length-i;omega,?_⟩;exact KZ0
  .conv=>whnf
   refine⟨ab0 ?_,lh0⟩;rw[h3]at hi2;rw[<-hi2];rfl
 have hi:¬i<s.length:=by simp only[Z3]at h1;omega
 rw[q0 O]at hi2;rw[<-hi2];conv=>whnf
 match s,hs with
 | [],_=>
   conv=>whnf
   exact⟨ab0 rfl,lh0⟩
 |c::s,_=>
  conv=>whnf
  refine⟨⟨O,OC⟩,fun c' hc'=>?_⟩;obtain rfl:c=c':=by simpa using hc'
  conv=>whnf
  refine gYn (z115 c.toNat) ?_;exact⟨ab0 OC,lh0⟩
def nuF:zg->Nat->Nat->Option (Nat×Nat)
 | [],a,b=>some (a,b)
 |c::s,a,b=>if(c.toNat:Int)=46 then nuF s (a+1) b else if qgq c.toNat=true then nuF s a (b+1)else none
def nuR(s:zg):Int×Bool:=match nuF s 0 0 with
 |none=>(0,false)
 |some (a,b)=>if 1<a\/s= []\/((s.headD 0).toNat :Int)=46\/(((s.getLast?).getD 0).toNat :Int)=46 then(0,false)else(b,true)
theorem z102(s:zg)(hs:s.length<9223372036854775808):Fn 386 [] [.str s] (.tup [.int .i64 (nuR s).1,.bool (nuR s).2]) []:=by
 obtain⟨A,hA⟩:∃A,nuR s=A:=⟨_,rfl⟩;rw[hA];unfold nuR at hA;refine fnT hT hmx Tryz.func386 rfl rfl (ex:= []) ?_;conv=>whnf
 refine⟨Nat×Nat×Nat,fun x=>x.1<=s.length/\x.2.1<=x.1/\x.2.2<=x.1/\nuF (s.drop x.1) x.2.1 x.2.2=nuF s 0 0,fun x=> [(4,.int .i64 x.2.1),(5,.int .i64 x.2.2),(6,.int .i64 x.1)],fun _=> [],fun x=>s.length-x.1,(0,0,0),⟨OC,OC,OC,rfl⟩,?_,fun x hx=>?_⟩
 .exact KZ0
 refine gYe ?_;obtain⟨i,a,b⟩:=x;obtain⟨hi1,hi2,hi3,hi4⟩:=hx;simp only at hi1 hi2 hi3 hi4;refine brI (fun h1=>?_) (fun h1=>?_)
 .conv=>whnf
  have hi:i<s.length:=by simp only[Z2]at h1;omega
  refine⟨⟨O,OD⟩,fun c hc=>?_⟩;have hc:s[(i:Int).toNat]? =some c:=hc;have hc:s[i]? =some c:=by simpa using hc
  obtain⟨hl,hg⟩:=q3.1 hc;have hd:s.drop i=c::s.drop (i+1):=by rw[<-hg];exact q4 hl
  rw[hd]at hi4;simp only[nuF]at hi4;conv=>whnf
  refine brI (fun h2=>?_) (fun h2=>?_)
  .have h2:(c.toNat:Int)=46:=by simpa using h2
   rw[Z4 h2]at hi4;conv=>whnf
   refine⟨(i+1,a+1,b),⟨OD,OD,OD,hi4⟩,by show s.length-(i+1)<s.length-i;omega,?_⟩;exact KZ0
  have h2:¬(c.toNat:Int)=46:=by simpa using h2
  rw[Z5 h2]at hi4;conv=>whnf
  refine⟨⟨O,OD⟩,fun c' hc'=>?_⟩;have hc':s[(i:Int).toNat]? =some c':=hc';have hc':s[i]? =some c':=by simpa using hc'
  rw[hc]at hc';cases hc'
  conv=>whnf
  refine cbI [] (qgq c.toNat) (z116 c.toNat) (fun h3=>?_) (fun h3=>?_)
  .conv=>whnf
   rw[Z4 h3]at hi4;refine⟨(i+1,a,b+1),⟨OD,OD,OD,hi4⟩,by show s.length-(i+1)<s.length-i;omega,?_⟩;exact KZ0
  .conv=>whnf
   rw[Z5 (by rw[h3];simp)]at hi4;rw[<-hi4]at hA;subst hA;exact⟨lr rfl,lh0⟩
 have hi:¬i<s.length:=by simp only[Z3]at h1;omega
 rw[q0 O]at hi4;simp only[nuF]at hi4;rw[<-hi4]at hA;simp only at hA;conv=>whnf
 refine brI (fun h2=>?_) (fun h2=>?_)
 .have h2:1<a:=by simp only[Z2]at h2;omega
  rw[Z4 (.inl h2)]at hA;subst hA;conv=>whnf
  exact⟨lr rfl,lh0⟩
 have h2:¬1<a:=by simp only[Z3]at h2;omega
 conv=>whnf
 match s,hs with
 | [],_=>
   rw[Z4 (.inr (.inl rfl))]at hA;subst hA;conv=>whnf
   exact⟨lr rfl,lh0⟩
 |c::s,hs=>
  conv=>whnf
  refine⟨⟨O,OC⟩,fun c' hc'=>?_⟩;obtain rfl:c=c':=by simpa using hc'
  conv=>whnf
  refine brI (fun h3=>?_) (fun h3=>?_)
  .have h3:(c.toNat:Int)=46:=by simpa using h3
   rw[Z4 (.inr (.inr (.inl h3)))]at hA;subst hA;conv=>whnf
   exact⟨lr rfl,lh0⟩
  have h3:¬(c.toNat:Int)=46:=by simpa using h3
  conv=>whnf
  have hw:IntKind.i64.wrap (((c::s).length :Int)-1)=(s.length:Int):=by rw[wI O];simp
  refine⟨⟨by rw[hw];omega,by rw[hw];simp only[q5];omega⟩,fun d hd=>?_⟩;have hd:(c::s)[(IntKind.i64.wrap (((c::s).length :Int)-1)).toNat]? =some d:=hd;rw[hw]at hd;have hl:(c::s).getLast? =some d:=by rw[List.getLast?_eq_getElem?];simpa using hd
  rw[hl]at hA;conv=>whnf
  refine brI (fun h4=>?_) (fun h4=>?_)
  .have h4:(d.toNat:Int)=46:=by simpa using h4
   rw[Z4 (.inr (.inr (.inr h4)))]at hA;subst hA;conv=>whnf
   exact⟨lr rfl,lh0⟩
  .have h4:¬(d.toNat:Int)=46:=by simpa using h4
   rw[Z5 (by simp only[List.headD_cons,Option.getD_some];rintro(h|h|h|h)<;>simp_all)]at hA;subst hA;conv=>whnf
   exact⟨lr rfl,lh0⟩
def kdR(s:zg):Int×Int:=if zeu s=true then(if 20<s.length then(0,5)else(1,0))else if(nuR s).2=false then(0,3)else if 18<(nuR s).1 then(0,5)else(2,0)
theorem z78(s:zg)(hs:s.length<9223372036854775808):Fn 348 [] [.str s] (.tup [.int .i64 (kdR s).1,.int .i64 (kdR s).2]) []:=by
 obtain⟨A,hA⟩:∃A,kdR s=A:=⟨_,rfl⟩;rw[hA];unfold kdR at hA;refine fnT hT hmx Tryz.func348 rfl rfl (ex:= []) ?_;conv=>whnf
 refine cbI [] (zeu s) (z101 s hs) (fun h1=>?_) (fun h1=>?_)
 .rw[Z4 h1]at hA;conv=>whnf
  refine brI (fun h2=>?_) (fun h2=>?_)
  .rw[Z4 (by simp only[Z2]at h2;omega)]at hA;subst hA;conv=>whnf
   exact⟨lr rfl,lh0⟩
  .rw[Z5 (by simp only[Z3]at h2;omega)]at hA;subst hA;conv=>whnf
   exact⟨lr rfl,lh0⟩
 rw[Z5 (by rw[h1];simp)]at hA;have h102:=z102 s hs;obtain⟨⟨n,b⟩,hn⟩:∃B,nuR s=B:=⟨_,rfl⟩;rw[hn]at hA h102;simp only at hA h102;conv=>whnf
 refine gYn h102 ?_
 cases b with
 |false=>
  rw[Z4 rfl]at hA;subst hA;conv=>whnf
  exact⟨lr rfl,lh0⟩
 |true=>
  rw[Z5 OC]at hA;conv=>whnf
  refine brI (fun h2=>?_) (fun h2=>?_)
  .rw[Z4 (by simpa using h2)]at hA;subst hA;conv=>whnf
   exact⟨lr rfl,lh0⟩
  .rw[Z5 (by simpa using h2)]at hA;subst hA;conv=>whnf
   exact⟨lr rfl,lh0⟩
theorem z103:Fn 387 [] [] (.sl .str kws) []:=by
 refine fnT hT hmx Tryz.func387 rfl rfl (ex:= []) ?_;conv=>whnf
 exact⟨lr rfl,lh0⟩
theorem qat(s:zg){i:Nat}{k:zg}(h:kws[i]? =some k):(kws.drop i).any (fun k=>s==k)=((s==k)||(kws.drop (i+1)).any fun k=>s==k):=by
 obtain⟨hi,hx⟩:=q3.1 h;rw[q4 hi,hx,List.any_cons]
theorem z79(s:zg):Fn 349 [] [.str s] (.bool (kwB s)) []:=by
 obtain⟨K,hK⟩:∃K,kws=K:=⟨_,rfl⟩;have h103:=z103;have hkl:K.length=15:=by rw[<-hK];rfl
 have hdr:= @qat s;unfold kwB;rw[hK]at h103 hdr⊢;refine fnT hT hmx Tryz.func349 rfl rfl (ex:= []) ?_;conv=>whnf
 refine gYn h103 ?_;refine⟨Nat,fun i=>i<=K.length/\(K.drop i).any (fun k=>s==k)=K.any (fun k=>s==k),fun i=> [(4,.int .i64 i)],fun _=> [],fun i=>K.length-i,0,⟨OC,OC⟩,?_,fun i hi=>?_⟩
 .exact KZ0
 refine gYe ?_;obtain⟨hi1,hi2⟩:=hi;refine brI (fun h1=>?_) (fun h1=>?_)
 .conv=>whnf
  have hi:i<K.length:=by simp only[Z2]at h1;omega
  refine⟨⟨O,O⟩,fun k hk=>?_⟩;have hk:K[i]? =some k:=by simpa using hk
  rw[hdr hk]at hi2;conv=>whnf
  refine brI (fun h2=>?_) (fun h2=>?_)
  .conv=>whnf
   have h2:(k==s)=true:=h2;have h2:(s==k)=true:=by rw[beq_iff_eq]at h2⊢;exact h2.symm
   refine⟨ab0 ?_,lh0⟩;rw[<-hi2,h2,Bool.true_or]
  .conv=>whnf
   have h2:(k==s)=false:=h2;have h2:(s==k)=false:=by rw[beq_eq_false_iff_ne]at h2⊢;exact fun h=>h2 h.symm
   rw[h2,Bool.false_or]at hi2;refine⟨i+1,⟨O,hi2⟩,by show K.length-(i+1)<K.length-i;omega,?_⟩;exact KZ0
 .conv=>whnf
  have hi:¬i<K.length:=by simp only[Z3]at h1;omega
  rw[q0 O]at hi2;exact⟨ab0 (by rw[<-hi2];rfl),lh0⟩
theorem z60(s:zg)(hs:s.length<9223372036854775808):Fn 272 [] [.str s] (.bool (zia s)) []:=by
 have h78:=z78 s hs;have hk:decide ((kdR s).1=1)=(zeu s&&decide (s.length<=20)):=by
  unfold kdR;split
  .rename_i h;rw[h];split
   .rename_i h2;rw[Z7 OC,Z7 O];rfl
   .rename_i h2;rw[Z6 rfl,Z6 O];rfl
  .rename_i h;have h:zeu s=false:=by simpa using h
   rw[h];split
   .rfl
   .split<;>rfl
 obtain⟨⟨n,b⟩,hn⟩:∃B,kdR s=B:=⟨_,rfl⟩;rw[hn]at h78 hk;simp only at h78 hk;refine fnT hT hmx Tryz.func272 rfl rfl (ex:= []) ?_;conv=>whnf
 refine gYn h78 ?_;refine brI (fun h2=>?_) (fun h2=>?_)
 .have h2:n=1:=by simpa using h2
  rw[Z6 h2]at hk;conv=>whnf
  refine gYn (z79 s) ?_;exact⟨ab0 (by rw[zia,<-hk];simp),lh0⟩
 .have h2:¬n=1:=by simpa using h2
  rw[Z7 h2]at hk;conv=>whnf
  exact⟨ab0 (by rw[zia,<-hk];rfl),lh0⟩
mutual
def rcE:Ex->Nat->Nat
 |.mk _ _ _ _ _,0=>1048576
 |.mk k q s p l,n+1=>if ze9 (.mk k q s p l)=true then rcL l n 1 else 1048576
def rcL:List Ex->Nat->Nat->Nat
 | [],_,a=>a
 |x::l,n,a=>if a<=200 then rcL l n (a+rcE x n)else a
end
mutual
theorem qcj:∀(e:Ex)(n:Nat),rcE e n<=1048576+200*n
 |.mk _ _ _ _ _,0=>by simp[rcE]
 |.mk k q s p l,n+1=>by
   have h:=qci l n 1;simp only[rcE];split<;>omega
theorem qci:∀(l:List Ex)(n a:Nat),rcL l n a<=max a (1048776+200*n)
 | [],n,a=>by simp only[rcL];omega
 |x::l,n,a=>by
  have h1:=qcj x n;have h2:=qci l n (a+rcE x n);simp only[rcL];split<;>omega
end
theorem qbd(e:Ex):1<=qde e:=by cases e;simp[qde]
mutual
theorem zva:∀(e:Ex)(n:Nat),(rcE e n<=200<->VS e/\qde e<=n/\zgt e<=200)/\(rcE e n<=200->rcE e n=zgt e)
 |.mk k q s p l,0=>by
   have h:=qbd (.mk k q s p l);simp only[rcE];exact⟨⟨fun h1=>O,fun h1=>O⟩,fun h1=>O⟩
 |.mk k q s p l,n+1=>by
   have ih:=zu9 l n 1;simp only[rcE,VS,qde,zgt];by_cases h:ze9 (.mk k q s p l)=true
   .rw[Z4 h];refine⟨⟨fun h1=>?_,fun h1=>?_⟩,fun h1=>?_⟩
    .have:=ih.1.1 h1;exact⟨⟨h,this.1⟩,O,O⟩
    .exact ih.1.2 ⟨h1.1.2,O,O⟩
    .have:=ih.2 h1;omega
   .rw[Z5 h];exact⟨⟨fun h1=>O,fun h1=>absurd h1.1.1 h⟩,fun h1=>O⟩
theorem zu9:∀(l:List Ex)(n a:Nat),(rcL l n a<=200<->VSL l/\qdd l<=n/\a+zg7 l<=200)/\(rcL l n a<=200->rcL l n a=a+zg7 l)
 | [],n,a=>by
   simp only[rcL,VSL,qdd,zg7];exact⟨⟨fun h=>⟨trivial,O,O⟩,fun h=>O⟩,fun _=>rfl⟩
 |x::l,n,a=>by
  have i1:=zva x n;have i2:=zu9 l n (a+rcE x n);simp only[rcL,VSL,qdd,zg7];by_cases h:a<=200
  .rw[Z4 h];refine⟨⟨fun h1=>?_,fun h1=>?_⟩,fun h1=>?_⟩
   .have h2:=i2.1.1 h1;have h3:=i1.1.1 O;have h4:=i1.2 O;exact⟨⟨h3.1,h2.1⟩,O,O⟩
   .have h3:=i1.1.2 ⟨h1.1.1,O,O⟩;have h4:=i1.2 h3;exact i2.1.2 ⟨h1.1.2,O,O⟩
   .have h2:=i2.1.1 h1;have h4:=i1.2 O;have h5:=i2.2 h1;omega
  .rw[Z5 h];exact⟨⟨fun h1=>absurd h1 h,fun h1=>O⟩,fun h1=>absurd h1 h⟩
end
theorem qjg(e:Ex):decide ((rcE e 20:Int)<=200)=okT e:=by
 rw[q1,Z2,zh8,<-(zva e 20).1];omega
def agR(k:Int):Int:=if k=1\/k=2 then 0 else opn k
theorem z100(k:Int):Fn 271 [] [.int .i64 k] (.int .i64 (agR k)) []:=by
 refine fnT hT hmx Tryz.func271 rfl rfl (ex:= []) ?_;conv=>whnf
 repeat' first
  |(refine brI (fun h=>?_) (fun h=>?_)<;>(conv=>whnf))
  |refine q7 (ai0 ?_) lh0
  |fail
 all_goals (simp only[beq_iff_eq,beq_eq_false_iff_ne,ne_eq]at*;unfold agR opn;repeat' split)
 all_goals first|rfl|omega
theorem opn8:opn 8=1:=rfl
theorem z77(e:Ex)(hs:e.s.length<9223372036854775808):Fn 178 [] [.agg (exC e)] (.bool (ze9 e)) []:=by
 refine fnT hT hmx Tryz.func178 rfl rfl (ex:= []) ?_;conv=>whnf
 refine gYn (z100 e.k) ?_
 repeat' first
  |(refine brI (fun h=>?_) (fun h=>?_)<;>(conv=>whnf))
  |refine q7 (ab0 ?_) lh0
  |(refine gYn (qkx e.q.n e.q.d) ?_)
  |(refine gYn (z60 e.s hs) ?_)
  |(refine q7 Z (q7 Z ?_);conv=>whnf)
  |fail
 all_goals (obtain⟨k,⟨n,d⟩,s,p,l⟩:=e;simp only[Ex.k,Ex.q,Ex.s,Ex.p,Ex.l]at*;by_cases k1:k=1<;>by_cases k2:k=2<;>by_cases k8:k=8<;>simp_all[ze9,numB,varB,powB,opB,agR,opn8,Ex.k,Ex.q,Ex.s,Ex.p,Ex.l])
 .intro _ _ _ _ _;exact Z7 O
 .exact Z6 O
 .rw[q1];constructor
  .intro h5;rw[q2,q2];exact⟨⟨Z6 O,h5⟩,Z6 O⟩
  .intro h5;rw[q2,q2]at h5;exact h5.1.2
 .intro h5 _;have:=Z0 h5;omega
theorem zzy{l:List Ex}{n a:Nat}(h:200<a):rcL l n a=a:=by
 cases l with
 |nil=>rfl
 |cons x l=>simp only[rcL];rw[Z5 O]
theorem z59:∀(e:Ex),Sm e->∀n:Nat,n<=20->Fn 97 [] [.agg (exC e),.int .i64 n] (.int .i64 (rcE e n:Nat)) []:=by
 refine zpp fun k q s p l ih hs=>?_
 simp only[Sm]at hs;intro n hn;have hnode:=z77 (.mk k q s p l) hs.1;obtain⟨A,hA⟩:∃A,rcE (.mk k q s p l) n=A:=⟨_,rfl⟩;rw[hA];show Fn 97 [] [.agg [.int .i64 k,.int .i64 q.n,.int .i64 q.d,.str s,.int .i64 p,.sl .ex l],.int .i64 n] (.int .i64 A) [];refine fnT hT hmx Tryz.func97 rfl rfl (ex:= []) ?_;conv=>whnf
 refine brI (fun h=>?_) (fun h=>?_)
 .have h:n=0:=by simp only[beq_iff_eq]at h;omega
  subst h;simp only[rcE]at hA;subst hA;conv=>whnf
  exact⟨lr rfl,lh0⟩
 have h:n≠0:=by simp only[beq_eq_false_iff_ne]at h;omega
 obtain⟨m,rfl⟩:∃m,n=m+1:=⟨n-1,O⟩;simp only[rcE]at hA;conv=>whnf
 refine cbI [] (ze9 (.mk k q s p l)) hnode (fun h1=>?_) (fun h1=>?_)
 rotate_left
 .rw[Z5 (by rw[h1];simp)]at hA;subst hA;conv=>whnf
  exact⟨lr rfl,lh0⟩
 rw[Z4 h1]at hA;conv=>whnf
 refine⟨Nat×Nat,fun x=>x.1<=l.length/\x.2<=2000000/\rcL (l.drop x.1) m x.2=A,fun x=> [(5,.int .i64 x.2),(6,.int .i64 x.1)],fun _=> [],fun x=>l.length-x.1,(0,1),⟨OC,OC,hA⟩,?_,fun x hx=>?_⟩
 .exact KZ0
 refine gYe ?_;obtain⟨i,a⟩:=x;obtain⟨hi1,hi2,hi3⟩:=hx;simp only at hi1 hi2 hi3;refine brI (fun h2=>?_) (fun h2=>?_)
 .have hi:i<l.length:=by simp only[Z2]at h2;omega
  conv=>whnf
  refine brI (fun h3=>?_) (fun h3=>?_)
  .have h3:a<=200:=by simp only[Z2]at h3;omega
   conv=>whnf
   refine⟨⟨O,OD⟩,fun x hx=>?_⟩;have hx:l[i]? =some x:=by simpa using hx
   have hm:=q8 hx;have hc:=ih x hm (zmj hs.2.2 x hm) m O;have hle:=qcj x m;rw[qe hx]at hi3;simp only[rcL]at hi3;rw[Z4 h3]at hi3;have hw:IntKind.i64.wrap (((m+1:Nat):Int)-1)=(m:Int):=by rw[wI O];omega
   conv=>whnf
   refine⟨[],.int .i64 (rcE x m:Nat),?_,?_⟩
   .show Fn 97 [] [.agg (exC x),.int .i64 (IntKind.i64.wrap (((m+1:Nat):Int)-1))] _ _;rw[hw];exact hc
   conv=>whnf
   refine⟨(i+1,a+rcE x m),⟨OD,OD,hi3⟩,by show l.length-(i+1)<l.length-i;omega,?_⟩;exact KZ0
  .have h3:200<a:=by simp only[Z3]at h3;omega
   rw[zzy h3]at hi3;conv=>whnf
   exact⟨ai0 (by rw[hi3]),lh0⟩
 .have hi:¬i<l.length:=by simp only[Z3]at h2;omega
  rw[q0 O]at hi3;simp only[rcL]at hi3;conv=>whnf
  exact⟨ai0 (by rw[hi3]),lh0⟩
theorem z32(e:Ex)(hs:Sm e):Fn 33 [] [.agg (exC e)] (.bool (okT e)) []:=by
 have h59:=z59 e hs 20 O;refine fnT hT hmx Tryz.func33 rfl rfl (ex:= []) ?_;conv=>whnf
 refine⟨[],.int .i64 (rcE e 20:Nat),?_,?_⟩
 .cases e;exact h59
 conv=>whnf
 exact⟨ab0 (qjg e),lh0⟩
theorem y39(l:List zg)(s:zg)(hlen:l.length<9223372036854775808):Fn 181 [] [.sl .str l,.str s] (.int .i64 (ixP (eqS s) l 0)) []:=by
 refine fY4 Tryz.func181 rfl ?_;refine⟨Nat,fun i=>i<=l.length/\ixP (eqS s) (l.drop i) i=ixP (eqS s) l 0,fun i=> [(5,.int .i64 i)],fun _=> [],fun i=>l.length-i,0,⟨OC,rfl⟩,?_,fun i hi=>?_⟩
 .exact KZ0
 refine gYe ?_;obtain⟨hi1,hi2⟩:=hi;refine brI (fun h1=>?_) (fun h1=>?_)
 .conv=>whnf
  have hi:i<l.length:=by simp only[Z2]at h1;omega
  refine⟨⟨O,O⟩,fun x hx=>?_⟩;have hx:l[i]? =some x:=by simpa using hx
  rw[qe hx]at hi2;simp only[ixP]at hi2;conv=>whnf
  refine brI (fun h2=>?_) (fun h2=>?_)
  .conv=>whnf
   have h2:(x==s)=true:=h2;have h2:eqS s x=true:=by simp only[eqS,beq_iff_eq]at h2⊢;exact h2.symm
   rw[Z4 h2]at hi2;exact⟨ai0 hi2,lh0⟩
  .conv=>whnf
   have h2:(x==s)=false:=h2;have h2:¬eqS s x=true:=by simp only[eqS,beq_iff_eq,beq_eq_false_iff_ne]at h2⊢;exact fun e=>h2 e.symm
   rw[Z5 h2]at hi2;refine⟨i+1,⟨O,hi2⟩,by show l.length-(i+1)<l.length-i;omega,?_⟩;exact KZ0
 .conv=>whnf
  have hi:¬i<l.length:=by simp only[Z3]at h1;omega
  rw[q0 O]at hi2;exact⟨ai0 hi2,lh0⟩
theorem qc1(l:List zg){i:Nat}{x:zg}(hx:l[i]? =some x):ixP (eqS x) l 0<i<->x∈l.take i:=by
 have key:∀(l:List zg)(i j:Nat),l[i]? =some x->(ixP (eqS x) l j<(j+i:Nat)<->x∈l.take i)/\(j:Int)<=ixP (eqS x) l j:=by
  intro l
  induction l with
  |nil=>intro i j h;simp at h
  |cons y l ih=>
   intro i j h;by_cases he:x=y
   .subst he;have:ixP (eqS x) (x::l) j=j:=by simp[ixP,eqS]
    rw[this];refine⟨?_,Int.le_refl _⟩
    cases i with
    |zero=>simp
    |succ i=>simp;omega
   .have hne:¬eqS x y=true:=by simpa[eqS]using he
    simp only[ixP,Z5 hne]
    cases i with
    |zero=>exact absurd (by simpa using h) (fun e:y=x=>he e.symm)
    |succ i=>
     obtain⟨h1,h2⟩:=ih i (j+1) (by simpa using h);refine⟨?_,O⟩;rw[(O:j+(i+1)=(j+1)+i),h1];simp[he]
 simpa using(key l i 0 hx).1
theorem zjp(l:List zg){i:Nat}{x:zg}(hx:l[i]? =some x):(l.take (i+1)).Nodup <->(l.take i).Nodup /\x∉l.take i:=by
 rw[qn,hx];simp only[Option.toList_some];rw[List.nodup_append];constructor
 .rintro⟨h1,_,h3⟩;exact⟨h1,fun hm=>h3 x hm x OC rfl⟩
 .rintro⟨h1,h2⟩;exact⟨h1,OC,fun a ha b hb e=>by simp at hb;subst hb;exact h2 (e▸ha)⟩
def qh1(l:List zg):Bool:=decide (l.Nodup/\l.length<=200)
theorem y18(l:List zg)(hlen:l.length<9223372036854775808):Fn 102 [] [.sl .str l] (.bool (qh1 l)) []:=by
 have h39:=fun s=>y39 l s hlen
 refine fY4 Tryz.func102 rfl ?_;refine⟨Nat,fun i=>i<=l.length/\(l.take i).Nodup,fun i=> [(3,.int .i64 i)],fun _=> [],fun i=>l.length-i,0,⟨OC,OC⟩,?_,fun i hi=>?_⟩
 .exact KZ0
 refine gYe ?_;obtain⟨hi1,hi2⟩:=hi;refine brI (fun h1=>?_) (fun h1=>?_)
 .conv=>whnf
  have hi:i<l.length:=by simp only[Z2]at h1;omega
  refine⟨⟨O,O⟩,fun x hx=>?_⟩;have hx:l[i]? =some x:=by simpa using hx
  conv=>whnf
  refine gYn (h39 x) ?_;refine brI (fun h2=>?_) (fun h2=>?_)
  .have h2:=(qc1 l hx).1 (Z0 h2);conv=>whnf
   refine⟨ab0 (Eq.symm (Z7 fun hh=>?_)),lh0⟩;have:=(zjp l hx).1 (hh.1.sublist (List.take_sublist _ _));exact this.2 h2
  .have h2:=fun hm=>Z1 h2 ((qc1 l hx).2 hm)
   conv=>whnf
   refine⟨i+1,⟨O,(zjp l hx).2 ⟨hi2,h2⟩⟩,by show l.length-(i+1)<l.length-i;omega,?_⟩;exact KZ0
 .conv=>whnf
  have hi:¬i<l.length:=by simp only[Z3]at h1;omega
  rw[List.take_of_length_le O]at hi2;exact⟨ab0 (by unfold qh1;rw[q1,Z2,Z2];simp only[hi2,true_and];omega),lh0⟩
theorem zzn{l:List Ex}{x:Ex}(h:x∈l):zgt x<=zg7 l:=by
 induction l with
 |nil=>cases h
 |cons y l ih=>
  simp only[zg7];rcases q6.1 h with rfl|h
  .omega
  .have:=ih h;omega
noncomputable def qlw:Code:=Tryz.f98.body.getD .skip
theorem y42:∀(e:Ex),zgt e<=1000->Fn 98 [] [.agg (exC e)] (.sl .ex (ue e)) []:=by
 refine zpp fun k q s p l ih hs=>?_
 have hs1:zg7 l<1000:=by simp only[zgt]at hs;omega
 show Fn 98 [] [.agg [.int .i64 k,.int .i64 q.n,.int .i64 q.d,.str s,.int .i64 p,.sl .ex l]] _ [];obtain⟨A,hA⟩:∃A,ue (.mk k q s p l)=A:=⟨_,rfl⟩;have hAl:A.length<=1000:=by rw[<-hA,zc3];exact hs
 have hll:l.length<=1000:=by
  have:∀l:List Ex,l.length<=zg7 l:=by
   intro l
   induction l with
   |nil=>simp
   |cons x l ih=>cases x;simp only[zg7,zgt,q5];omega
  have:=this l;omega
 rw[hA];refine jk (code:=qlw) hT4 hmx Tryz.func98 rfl rfl (ex:= []) ?_;conv=>whnf
 refine ze1 hT4 hmx [1] ?_;conv=>whnf
 refine qec hT4 1 21 ?_;conv=>whnf
 refine⟨Nat×List Ex,fun x=>x.1<=l.length/\x.2++zbx (l.drop x.1)=A,fun x=> [(4,.int .i64 x.1),(3,.own 21),(6,.any)],fun x=> [(21,.buf 63 .ex x.2)],fun x=>l.length-x.1,(0,[.mk k q s p l]),⟨OC,by rw[<-hA];simp[ue]⟩,?_,fun x hx=>?_⟩
 .exact KZ0
 refine gYe ?_;obtain⟨i,out⟩:=x;obtain⟨hi1,hi2⟩:=hx;simp only at hi1 hi2;refine brI (fun h1=>?_) (fun h1=>?_)
 .conv=>whnf
  have hi:i<l.length:=by simp only[Z2]at h1;omega
  refine⟨⟨O,OD⟩,fun x hx=>?_⟩;have hx:l[i]? =some x:=by simpa using hx
  have hm:=q8 hx;have hsx:=zzn hm;have h42:=ih x hm O;rw[qe hx]at hi2;simp only[zbx]at hi2;have hl2:=congrArg List.length hi2;simp only[List.length_append]at hl2;conv=>whnf
  refine gYn h42 ?_;refine⟨OD,?_⟩;conv=>whnf
  refine⟨(i+1,out++ue x),⟨OD,by simp only[List.append_assoc];exact hi2⟩,by show l.length-(i+1)<l.length-i;omega,?_⟩;exact KZ0
 .conv=>whnf
  have hi:¬i<l.length:=by simp only[Z3]at h1;omega
  rw[q0 O]at hi2;simp only[zbx,List.append_nil]at hi2;exact⟨wb hi2,lh0⟩
def zpk(s:zg):List zg->List zg
 | []=> [s]
 |x::l=>if Op.bytesLess x s=true then x::zpk s l else if x=s then x::l else s::x::l
theorem zre(s:zg):∀(l:List zg)(y:zg),y∈zpk s l<->y=s\/y∈l
 | [],y=>by simp[zpk]
 |x::l,y=>by
  have ih:=zre s l y;simp only[zpk];split
  .simp only[q6,ih];constructor<;>rintro(h|h|h)<;>simp[h]
  .split
   .rename_i h;subst h;simp
   .simp
theorem zl3(s:zg):∀l:List zg,(zpk s l).length <=l.length+1
 | []=>by simp[zpk]
 |x::l=>by
  have ih:=zl3 s l;simp only[zpk];split
  .simp only[q5];omega
  .split<;>simp
theorem y71(l:List zg)(s:zg)(hl:l.length<=1000):Fn 275 [] [.sl .str l,.str s] (.sl .str (zpk s l)) []:=by
 obtain⟨A,hA⟩:∃A,zpk s l=A:=⟨_,rfl⟩;rw[hA];refine fY4 Tryz.func275 rfl ?_;refine⟨Nat,fun i=>i<=l.length/\l.take i++zpk s (l.drop i)=A,fun i=> [(5,.int .i64 i)],fun _=> [],fun i=>l.length-i,0,⟨OC,by simpa using hA⟩,?_,fun i hi=>?_⟩
 .exact KZ0
 refine gYe ?_;obtain⟨hi1,hi2⟩:=hi;refine brI (fun h1=>?_) (fun h1=>?_)
 .have hi:i<l.length:=by simp only[Z2]at h1;omega
  conv=>whnf
  refine⟨⟨O,O⟩,fun x hx=>?_⟩;have hx:l[i]? =some x:=by simpa using hx
  have hd:=qe hx;rw[hd]at hi2;simp only[zpk]at hi2;conv=>whnf
  refine brI (fun h2=>?_) (fun h2=>?_)
  .have h2:Op.bytesLess x s=true:=h2;rw[Z4 h2]at hi2;conv=>whnf
   refine⟨i+1,⟨O,by rw[qn,hx];simpa using hi2⟩,by show l.length-(i+1)<l.length-i;omega,?_⟩;exact KZ0
  .have h2:Op.bytesLess x s=false:=h2;rw[Z5 (by rw[h2];simp)]at hi2;conv=>whnf
   refine brI (fun _=>?_) (fun h3=>absurd hi (by simp only[Z3]at h3;omega));conv=>whnf
   refine⟨⟨O,O⟩,fun x' hx'=>?_⟩;have hx':l[i]? =some x':=by simpa using hx'
   obtain rfl:x=x':=by rw[hx]at hx';exact Option.some.inj hx'
   conv=>whnf
   refine brI (fun h3=>?_) (fun h3=>?_)
   .have h3:(x==s)=true:=h3;have h3:x=s:=by simpa using h3
    rw[Z4 h3,<-hd,List.take_append_drop]at hi2;conv=>whnf
    exact⟨wb hi2,lh0⟩
   .have h3:(x==s)=false:=h3;have h3:¬x=s:=by simpa using h3
    rw[Z5 h3,<-hd]at hi2;conv=>whnf
    refine⟨⟨O,O,O⟩,?_⟩;conv=>whnf
    refine⟨OE,?_⟩;conv=>whnf
    refine⟨OE,?_⟩;conv=>whnf
    refine⟨⟨O,O,O⟩,?_⟩;conv=>whnf
    refine⟨OE,?_⟩;conv=>whnf
    exact⟨wb (by rw[<-hi2];simp),lh0⟩
 .have hi:¬i<l.length:=by simp only[Z3]at h1;omega
  obtain rfl:i=l.length:=O;have hA2:A=l++ [s]:=by rw[<-hi2];simp[zpk]
  conv=>whnf
  refine brI (fun h3=>absurd (Z0 h3) O) (fun _=>?_);conv=>whnf
  refine⟨⟨O,O,O⟩,?_⟩;conv=>whnf
  refine⟨OE,?_⟩;conv=>whnf
  refine⟨OE,?_⟩;conv=>whnf
  refine⟨⟨O,O,O⟩,?_⟩;conv=>whnf
  refine⟨OE,?_⟩;conv=>whnf
  exact⟨wb (by rw[hA2];simp),lh0⟩
def nmR:List Ex->List zg->List zg
 | [],acc=>acc
 |y::l,acc=>if y.k=2 then nmR l (zpk y.s acc)else nmR l acc
theorem zo5:∀(l:List Ex)(acc:List zg)(s:zg),s∈nmR l acc<->s∈acc\/∃y∈l,y.k=2/\y.s=s
 | [],acc,s=>by simp[nmR]
 |y::l,acc,s=>by
  simp only[nmR];split
  .rename_i h;rw[zo5 l _ s,zre];constructor
   .rintro((h1|h1)|⟨z,h1,h2,h3⟩)
    .exact .inr ⟨y,List.mem_cons_self,h,h1.symm⟩
    .exact .inl h1
    .exact .inr ⟨z,q9 _ h1,h2,h3⟩
   .rintro(h1|⟨z,h1,h2,h3⟩)
    .exact .inl (.inr h1)
    .rcases q6.1 h1 with rfl|h1
     .exact .inl (.inl h3.symm)
     .exact .inr ⟨z,h1,h2,h3⟩
  .rename_i h;rw[zo5 l _ s];constructor
   .rintro(h1|⟨z,h1,h2,h3⟩)
    .exact .inl h1
    .exact .inr ⟨z,q9 _ h1,h2,h3⟩
   .rintro(h1|⟨z,h1,h2,h3⟩)
    .exact .inl h1
    .rcases q6.1 h1 with rfl|h1
     .exact absurd h2 h
     .exact .inr ⟨z,h1,h2,h3⟩
theorem zo3:∀(l:List Ex)(acc:List zg),(nmR l acc).length <=acc.length+l.length
 | [],acc=>by simp[nmR]
 |y::l,acc=>by
  have h1:=zo3 l (zpk y.s acc);have h2:=zo3 l acc;have h3:=zl3 y.s acc;simp only[nmR,q5];split<;>omega
theorem y41(e:Ex)(he:zgt e<=500):Fn 182 [] [.agg (exC e)] (.sl .str (nmR (ue e) [])) []:=by
 have h42:=y42 e O;have hl:(ue e).length <=500:=by rw[zc3];exact he
 generalize ue e=l at h42 hl;cases e
 refine fY4 Tryz.func182 rfl ?_;refine gYn h42 ?_;refine⟨Nat×List zg,fun x=>x.1<=l.length/\nmR (l.drop x.1) x.2=nmR l []/\x.2.length<=x.1,fun x=> [(5,.int .i64 x.1),(3,.sl .str x.2)],fun _=> [],fun x=>l.length-x.1,(0,[]),⟨OC,OC,OC⟩,?_,fun x hx=>?_⟩
 .exact KZ0
 refine gYe ?_;obtain⟨i,acc⟩:=x;obtain⟨hi1,hi2,hi3⟩:=hx;simp only at hi1 hi2 hi3;refine brI (fun h1=>?_) (fun h1=>?_)
 .have hi:i<l.length:=by simp only[Z2]at h1;omega
  conv=>whnf
  refine⟨⟨O,OD⟩,fun(x:Ex)hx=>?_⟩;have hx:l[i]? =some x:=by simpa using hx
  rw[qe hx]at hi2;simp only[nmR]at hi2;conv=>whnf
  refine brI (fun h2=>?_) (fun h2=>?_)
  .have h2:(x.k==2)=true:=h2;have h2:x.k=2:=by simpa using h2
   rw[Z4 h2]at hi2;have h71:=y71 acc x.s O;have h3:=zl3 x.s acc;conv=>whnf
   refine⟨⟨O,OD⟩,fun(x':Ex)hx'=>?_⟩;have hx':l[i]? =some x':=by simpa using hx'
   obtain rfl:x=x':=by rw[hx]at hx';exact Option.some.inj hx'
   conv=>whnf
   refine gYn h71 ?_;refine⟨(i+1,zpk x.s acc),⟨OD,hi2,OD⟩,by show l.length-(i+1)<l.length-i;omega,?_⟩;exact KZ0
  .have h2:(x.k==2)=false:=h2;have h2:¬x.k=2:=by simpa using h2
   rw[Z5 h2]at hi2;conv=>whnf
   refine⟨(i+1,acc),⟨OD,hi2,OD⟩,by show l.length-(i+1)<l.length-i;omega,?_⟩;exact KZ0
 .have hi:¬i<l.length:=by simp only[Z3]at h1;omega
  rw[q0 O]at hi2;conv=>whnf
  exact⟨wb hi2,lh0⟩
def knB(e:Ex)(ns:List zg):Bool:=okT e&&decide (∀y∈ue e,y.k=2->y.s∈ns)
theorem zws(s:zg)(l:List zg):ixP (eqS s) l 0<0<->s∉l:=by
 have h:=zl1 (eqS s) l 0;have h2:l.any (eqS s)=true<->s∈l:=by
  rw[List.any_eq_true];constructor
  .rintro⟨x,h1,h2⟩;have:s=x:=by simpa[eqS]using h2
   rw[this];exact h1
  .intro h;exact⟨s,h,by simp[eqS]⟩
 rw[<-h2,<-h];omega
theorem qef{e:Ex}(h:okT e=true):zgt e<=200:=by
 rw[zh8]at h;exact h.2.2
theorem y19(e:Ex)(ns:List zg)(he:Sm e)(hn:ns.length<9223372036854775808):Fn 103 [] [.agg (exC e),.sl .str ns] (.bool (knB e ns)) []:=by
 have h40:=z32 e he;unfold knB
 cases hok:okT e with
 |false=>
  rw[hok]at h40;cases e
  refine fY4 Tryz.func103 rfl ?_;refine gYn h40 ?_;exact⟨lr rfl,lh0⟩
 |true=>
  rw[hok]at h40;have hsz:=qef hok;have h41:=y41 e O;have hmem:=zo5 (ue e) [];have hlen:=zo3 (ue e) [];rw[zc3]at hlen;generalize nmR (ue e) []=l at h41 hmem hlen;have hA:(decide (∀y∈ue e,y.k=2->y.s∈ns))=l.all fun s=>decide (s∈ns):=by
   rw[q1,Z2,List.all_eq_true];constructor
   .intro h s hs;obtain h1|⟨y,h1,h2,rfl⟩:=(hmem s).1 hs
    .cases h1
    .exact Z6 (h y h1 h2)
   .intro h y hy hk;exact Z0 (h y.s ((hmem y.s).2 (.inr ⟨y,hy,hk,rfl⟩)))
  rw[hA];have hlen:l.length<=200:=by simpa using Nat.le_trans hlen (by simpa using hsz)
  clear hmem hA;cases e
  refine fY4 Tryz.func103 rfl ?_;refine gYn h40 ?_;refine gYn h41 ?_;refine⟨Nat,fun i=>i<=l.length/\((l.drop i).all fun s=>decide (s∈ns))=l.all fun s=>decide (s∈ns),fun i=> [(6,.int .i64 i)],fun _=> [],fun i=>l.length-i,0,⟨OC,OC⟩,?_,fun i hi=>?_⟩
  .exact KZ0
  refine gYe ?_;obtain⟨hi1,hi2⟩:=hi;refine brI (fun h1=>?_) (fun h1=>?_)
  .have hi:i<l.length:=by simp only[Z2]at h1;omega
   conv=>whnf
   refine⟨⟨O,O⟩,fun x hx=>?_⟩;have hx:l[i]? =some x:=by simpa using hx
   rw[qe hx,qd]at hi2;conv=>whnf
   refine gYn (y39 ns x hn) ?_;refine brI (fun h2=>?_) (fun h2=>?_)
   .have h2:=(zws x ns).1 (Z0 h2);conv=>whnf
    exact⟨ab0 (by rw[<-hi2,Z7 h2];rfl),lh0⟩
   .have h2:x∈ns:=Classical.byContradiction fun hc=>Z1 h2 ((zws x ns).2 hc)
    rw[Z6 h2]at hi2;conv=>whnf
    refine⟨i+1,⟨O,by simpa using hi2⟩,by show l.length-(i+1)<l.length-i;omega,?_⟩;exact KZ0
  .have hi:¬i<l.length:=by simp only[Z3]at h1;omega
   rw[q0 O]at hi2;conv=>whnf
   exact⟨ab0 hi2,lh0⟩
theorem zd3(a b:zg):zl0 .str a b=decide (a=b):=by
 rw[q1,Z2];exact beq_iff_eq (α:=List UInt8)
