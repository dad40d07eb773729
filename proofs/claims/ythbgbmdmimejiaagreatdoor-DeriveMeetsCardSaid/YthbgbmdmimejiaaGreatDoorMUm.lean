/- Simple forms: operations with two operands, of the kind 3. -/
import Derived.Test.YthbgbmdmimejiaaGreatDoorMVa
set_option linter.all false
open And renaming intro->q2
open List renaming drop_of_length_le->q3,mem_of_getElem?->q4,length_nil->q5,length_cons->q6,not_mem_nil->q7,mem_cons->q8
namespace Go.Proofs.YthbgbmdmimejiaaGreatDoor
open Go Go.Sx
set_option maxRecDepth 100000
set_option maxHeartbeats 8000000
theorem qc5(a b:Ex):Fn 62 [] [exV 3 ⟨0,0⟩ [] 0 [a,b]] (.agg (exC (op2 3 a b))) []:=by
 have h145:=zw8 3 0 ⟨0,0⟩ [] [a,b] O OC OC OC;cases hf:jy 3 0 [a,b]with
 |some r=>
  rw[hf]at h145;simp only[op2,hf];refine fnT hT hmx Tryz.func62 rfl rfl (ex:= []) ?_;conv=>whnf
  refine gYn h145 ?_
  (refine q2 ?_ ?_;repeat' first|exact ln0|exact lh0|exact la0|exact lr rfl|exact li0 rfl|refine lg0 ?_|refine lt0 ?_|exact bf0|exact bd0|refine lc ?_ ?_|refine lh1 ?_ ?_|refine bc0 ?_|fail)
 |none=>
  rw[hf]at h145;simp only[op2,hf];have hw1:IntKind.i64.wrap (([a,b].length :Int)-1)=1:=by rw[wI OC];simp
  refine fnT hT hmx Tryz.func62 rfl rfl (ex:= []) ?_;conv=>whnf
  refine gYn h145 ?_;refine⟨⟨O,OC⟩,fun x hx=>?_⟩;obtain rfl:a=x:=by simpa using hx
  conv=>whnf
  rw[hw1];refine⟨⟨O,OC⟩,fun x hx=>?_⟩;obtain rfl:b=x:=by simpa using hx
  conv=>whnf
  repeat' first
   |(refine brI (fun h=>?_) (fun h=>?_)<;>(conv=>whnf))
   |refine q2 ?_ lh0
   |(refine gYn (zfh a 0) ?_)
   |(refine gYn (zfh a 1) ?_)
   |(refine gYn (zfh b 0) ?_)
   |(refine gYn (zfh b 1) ?_)
   |(refine gYn (f74 0) ?_)
   |fail
  all_goals first
   |(have e:zb0 3 a b=opE 3 0 [a,b]:=by simp_all[zb0]
     rw[e];exact lr rfl)
   |(have e:zb0 3 a b=a:=by simp_all[zb0]
     rw[e];exact zo rfl)
   |(have e:zb0 3 a b=b:=by simp_all[zb0]
     rw[e];exact zo rfl)
   |(have e:zb0 3 a b=ud 0:=by simp_all[zb0]
     rw[e];exact zo rfl)
   |fail
theorem qc4(a b:Ex)(hb:b.k=7->b.l≠ []):Fn 62 [] [exV 4 ⟨0,0⟩ [] 0 [a,b]] (.agg (exC (op2 4 a b))) []:=by
 have h145:=zw8 4 0 ⟨0,0⟩ [] [a,b] O OC OC OC;cases hf:jy 4 0 [a,b]with
 |some r=>
  rw[hf]at h145;simp only[op2,hf];refine fnT hT hmx Tryz.func62 rfl rfl (ex:= []) ?_;conv=>whnf
  refine gYn h145 ?_
  (refine q2 ?_ ?_;repeat' first|exact ln0|exact lh0|exact la0|exact lr rfl|exact li0 rfl|refine lg0 ?_|refine lt0 ?_|exact bf0|exact bd0|refine lc ?_ ?_|refine lh1 ?_ ?_|refine bc0 ?_|fail)
 |none=>
  rw[hf]at h145;simp only[op2,hf];have hw1:IntKind.i64.wrap (([a,b].length :Int)-1)=1:=by rw[wI OC];simp
  refine fnT hT hmx Tryz.func62 rfl rfl (ex:= []) ?_;conv=>whnf
  refine gYn h145 ?_;refine⟨⟨O,OC⟩,fun x hx=>?_⟩;obtain rfl:a=x:=by simpa using hx
  conv=>whnf
  rw[hw1];refine⟨⟨O,OC⟩,fun x hx=>?_⟩;obtain rfl:b=x:=by simpa using hx
  conv=>whnf
  repeat' first
   |(refine brI (fun h=>?_) (fun h=>?_)<;>(conv=>whnf))
   |refine q2 ?_ lh0
   |(refine gYn (zfh a 0) ?_)
   |(refine gYn (zfh a 1) ?_)
   |(refine gYn (zfh b 0) ?_)
   |(refine gYn (zfh b 1) ?_)
   |(refine gYn (qc6 b hb) ?_)
   |(refine gYn (f74 0) ?_)
   |fail
  all_goals first
   |(have e:zb0 4 a b=opE 4 0 [a,b]:=by simp_all[zb0,zfr]
     rw[e];exact lr rfl)
   |(have e:zb0 4 a b=a:=by simp_all[zb0,zfr]
     rw[e];exact zo rfl)
   |(have e:zb0 4 a b=b:=by simp_all[zb0,zfr]
     rw[e];exact zo rfl)
   |(have e:zb0 4 a b=ud 0:=by simp_all[zb0,zfr]
     rw[e];exact zo rfl)
   |(have e:zb0 4 a b=op1 7 0 b:=by simp_all[zb0,zfr]
     rw[e];exact zo rfl)
   |fail
theorem qc3(a b:Ex):Fn 62 [] [exV 5 ⟨0,0⟩ [] 0 [a,b]] (.agg (exC (op2 5 a b))) []:=by
 have h145:=zw8 5 0 ⟨0,0⟩ [] [a,b] O OC OC OC;cases hf:jy 5 0 [a,b]with
 |some r=>
  rw[hf]at h145;simp only[op2,hf];refine fnT hT hmx Tryz.func62 rfl rfl (ex:= []) ?_;conv=>whnf
  refine gYn h145 ?_
  (refine q2 ?_ ?_;repeat' first|exact ln0|exact lh0|exact la0|exact lr rfl|exact li0 rfl|refine lg0 ?_|refine lt0 ?_|exact bf0|exact bd0|refine lc ?_ ?_|refine lh1 ?_ ?_|refine bc0 ?_|fail)
 |none=>
  rw[hf]at h145;simp only[op2,hf];have hw1:IntKind.i64.wrap (([a,b].length :Int)-1)=1:=by rw[wI OC];simp
  refine fnT hT hmx Tryz.func62 rfl rfl (ex:= []) ?_;conv=>whnf
  refine gYn h145 ?_;refine⟨⟨O,OC⟩,fun x hx=>?_⟩;obtain rfl:a=x:=by simpa using hx
  conv=>whnf
  rw[hw1];refine⟨⟨O,OC⟩,fun x hx=>?_⟩;obtain rfl:b=x:=by simpa using hx
  conv=>whnf
  repeat' first
   |(refine brI (fun h=>?_) (fun h=>?_)<;>(conv=>whnf))
   |refine q2 ?_ lh0
   |(refine gYn (zfh a 0) ?_)
   |(refine gYn (zfh a 1) ?_)
   |(refine gYn (zfh b 0) ?_)
   |(refine gYn (zfh b 1) ?_)
   |(refine gYn (f74 0) ?_)
   |fail
  all_goals first
   |(have e:zb0 5 a b=opE 5 0 [a,b]:=by simp_all[zb0]
     rw[e];exact lr rfl)
   |(have e:zb0 5 a b=a:=by simp_all[zb0]
     rw[e];exact zo rfl)
   |(have e:zb0 5 a b=b:=by simp_all[zb0]
     rw[e];exact zo rfl)
   |(have e:zb0 5 a b=ud 0:=by simp_all[zb0]
     rw[e];exact zo rfl)
   |fail
theorem qc2(a b:Ex):Fn 62 [] [exV 6 ⟨0,0⟩ [] 0 [a,b]] (.agg (exC (op2 6 a b))) []:=by
 have h145:=zw8 6 0 ⟨0,0⟩ [] [a,b] O OC OC OC;cases hf:jy 6 0 [a,b]with
 |some r=>
  rw[hf]at h145;simp only[op2,hf];refine fnT hT hmx Tryz.func62 rfl rfl (ex:= []) ?_;conv=>whnf
  refine gYn h145 ?_
  (refine q2 ?_ ?_;repeat' first|exact ln0|exact lh0|exact la0|exact lr rfl|exact li0 rfl|refine lg0 ?_|refine lt0 ?_|exact bf0|exact bd0|refine lc ?_ ?_|refine lh1 ?_ ?_|refine bc0 ?_|fail)
 |none=>
  rw[hf]at h145;simp only[op2,hf];have hw1:IntKind.i64.wrap (([a,b].length :Int)-1)=1:=by rw[wI OC];simp
  refine fnT hT hmx Tryz.func62 rfl rfl (ex:= []) ?_;conv=>whnf
  refine gYn h145 ?_;refine⟨⟨O,OC⟩,fun x hx=>?_⟩;obtain rfl:a=x:=by simpa using hx
  conv=>whnf
  rw[hw1];refine⟨⟨O,OC⟩,fun x hx=>?_⟩;obtain rfl:b=x:=by simpa using hx
  conv=>whnf
  repeat' first
   |(refine brI (fun h=>?_) (fun h=>?_)<;>(conv=>whnf))
   |refine q2 ?_ lh0
   |(refine gYn (zfh a 0) ?_)
   |(refine gYn (zfh a 1) ?_)
   |(refine gYn (zfh b 0) ?_)
   |(refine gYn (zfh b 1) ?_)
   |(refine gYn (f74 0) ?_)
   |fail
  all_goals first
   |(have e:zb0 6 a b=opE 6 0 [a,b]:=by simp_all[zb0]
     rw[e];exact lr rfl)
   |(have e:zb0 6 a b=a:=by simp_all[zb0]
     rw[e];exact zo rfl)
   |(have e:zb0 6 a b=b:=by simp_all[zb0]
     rw[e];exact zo rfl)
   |(have e:zb0 6 a b=ud 0:=by simp_all[zb0]
     rw[e];exact zo rfl)
   |fail
theorem VT_l{e:Ex}(h:VT e):e.k=7->e.l≠ []:=by
 cases h with
 |num r hr=>simp[xq,Ex.k]
 |var s hs=>simp[zcg,Ex.k]
 |un k a hk ha=>simp[opE,Ex.l]
 |pow n a h1 h2 ha=>simp[opE,Ex.l]
 |bin k a b hk ha hb=>simp[opE,Ex.l]
theorem qhy{k:Int}{a:Ex}(hk:K1 k)(ha:VT a):Fn 85 [] [.int .i64 k,.agg (exC a)] (.agg (exC (op1 k 0 a))) []:=by
 rcases hk with rfl|rfl|rfl|rfl|rfl|rfl
 .exact qc6 a (VT_l ha)
 .refine fnT hT hmx Tryz.func85 rfl rfl (ex:= []) ?_;conv=>whnf
  rw[Ex.eta2];refine gYn (qcz 0 a O) ?_;exact⟨zo rfl,lh0⟩
 .refine fnT hT hmx Tryz.func85 rfl rfl (ex:= []) ?_;conv=>whnf
  rw[Ex.eta2];refine gYn (zxc 0 a O) ?_;exact⟨zo rfl,lh0⟩
 .refine fnT hT hmx Tryz.func85 rfl rfl (ex:= []) ?_;conv=>whnf
  rw[Ex.eta2];refine gYn (zxb 0 a O) ?_;exact⟨zo rfl,lh0⟩
 .refine fnT hT hmx Tryz.func85 rfl rfl (ex:= []) ?_;conv=>whnf
  rw[Ex.eta2];refine gYn (zxa 0 a O) ?_;exact⟨zo rfl,lh0⟩
 .refine fnT hT hmx Tryz.func85 rfl rfl (ex:= []) ?_;conv=>whnf
  rw[Ex.eta2];refine gYn (zw9 0 a O) ?_;exact⟨zo rfl,lh0⟩
theorem f116{n:Int}{a:Ex}(hn:n<=1000):Fn 86 [] [.agg (exC a),.int .i64 n] (.agg (exC (op1 8 n a))) []:=by
 refine fnT hT hmx Tryz.func86 rfl rfl (ex:= []) ?_;conv=>whnf
 rw[Ex.eta2];refine gYn (qc0 n a hn) ?_;exact⟨zo rfl,lh0⟩
theorem f75{k:Int}{a b:Ex}(hk:K2 k)(hb:VT b):Fn 53 [] [.int .i64 k,.agg (exC a),.agg (exC b)] (.agg (exC (op2 k a b))) []:=by
 rcases hk with rfl|rfl|rfl|rfl
 .refine fnT hT hmx Tryz.func53 rfl rfl (ex:= []) ?_;conv=>whnf
  rw[Ex.eta2,Ex.eta2];refine gYn (qc5 a b) ?_;exact⟨zo rfl,lh0⟩
 .refine fnT hT hmx Tryz.func53 rfl rfl (ex:= []) ?_;conv=>whnf
  rw[Ex.eta2,Ex.eta2];refine gYn (qc4 a b (VT_l hb)) ?_;exact⟨zo rfl,lh0⟩
 .refine fnT hT hmx Tryz.func53 rfl rfl (ex:= []) ?_;conv=>whnf
  rw[Ex.eta2,Ex.eta2];refine gYn (qc3 a b) ?_;exact⟨zo rfl,lh0⟩
 .refine fnT hT hmx Tryz.func53 rfl rfl (ex:= []) ?_;conv=>whnf
  rw[Ex.eta2,Ex.eta2];refine gYn (qc2 a b) ?_;exact⟨zo rfl,lh0⟩
abbrev zpo(e:Ex):Prop:=Fn 28 [] [.agg (exC e)] (.agg (exC (yq e))) []
def qh0(k n:Int)(l:List Ex):Prop:=Fn 62 [] [exV k ⟨0,0⟩ [] n l] (.agg (exC (opS k n l))) []
theorem qi1{k:Int}{a:Ex}(hk:K1 k)(ha:VT a):qh0 k 0 [a]:=by
 unfold qh0 opS;rcases hk with rfl|rfl|rfl|rfl|rfl|rfl
 .exact qc1 0 a O (VT_l ha)
 .exact qcz 0 a O
 .exact zxc 0 a O
 .exact zxb 0 a O
 .exact zxa 0 a O
 .exact zw9 0 a O
theorem qi0{n:Int}{a:Ex}(hn:n<=1000):qh0 8 n [a]:=qc0 n a hn
theorem qiz{k:Int}{a b:Ex}(hk:K2 k)(hb:VT b):qh0 k 0 [a,b]:=by
 unfold qh0 opS;rcases hk with rfl|rfl|rfl|rfl
 .exact qc5 a b
 .exact qc4 a b (VT_l hb)
 .exact qc3 a b
 .exact qc2 a b
theorem zw7(k n:Int)(l:List Ex)(h1:k≠1)(h2:k≠2)(hl:∀x∈l,zpo x)(hlen:l.length<=2)(hs:qh0 k n (l.map yq)):
 Fn 28 [] [exV k ⟨0,0⟩ [] n l] (.agg (exC (opS k n (l.map yq)))) []:=by
 refine fnT hT hmx Tryz.func28 rfl rfl (ex:= []) ?_;conv=>whnf
 refine brI (fun h=>absurd (by simpa using h) h1) (fun h=>?_);conv=>whnf
 refine brI (fun h=>absurd (by simpa using h) h2) (fun h=>?_);conv=>whnf
 refine⟨Nat,fun i=>i<=l.length,fun i=> [(23,.int .i64 i)],fun i=> [(3,.cells [.int .i64 k,.int .i64 0,.int .i64 0,.str [],.int .i64 n,.own 32]),(32,.buf 26 .ex ((l.take i).map yq))],fun i=>l.length-i,0,OC,?_,fun i hi=>?_⟩
 ·((conv=>whnf);refine q2 ?_ ?_;repeat' first|exact ln0|exact lh0|exact la0|exact lr rfl|exact li0 rfl|refine lg0 ?_|refine lt0 ?_|exact bf0|exact bd0|refine lc ?_ ?_|refine lh1 ?_ ?_|refine bc0 ?_|fail)
  .exact trivial
  .exact⟨rfl,rfl⟩
 .refine gYe ?_;refine brI (fun h3=>?_) (fun h3=>?_)
  .conv=>whnf
   have h3:i<l.length:=by simp only[Z2]at h3;omega
   refine⟨⟨O,O⟩,fun x hx=>?_⟩;have hx:l[i]? =some x:=by simpa using hx
   have hmem:x∈l:=q4 hx;conv=>whnf
   refine gYn (hl x hmem) ?_;rw[Ex.eta2];refine⟨by simp only[List.length_map,List.length_take,q6,q5];omega,?_⟩;conv=>whnf
   refine gYd ?_;refine⟨i+1,by show i+1<=l.length;omega,by show l.length-(i+1)<l.length-i;omega,?_⟩
   ((conv=>whnf);refine q2 ?_ ?_;repeat' first|exact ln0|exact lh0|exact la0|exact lr rfl|exact li0 rfl|refine lg0 ?_|refine lt0 ?_|exact bf0|exact bd0|refine lc ?_ ?_|refine lh1 ?_ ?_|refine bc0 ?_|fail)
   .exact ai0 (by rw[wI O];omega)
   .exact bb0 (by rw[List.take_add_one,hx];simp)
  .conv=>whnf
   have h3:¬i<l.length:=by simp only[Z3]at h3;omega
   rw[List.take_of_length_le O];refine gYn hs ?_;exact⟨zo rfl,lh0⟩
theorem zrm(e:Ex)(h:e.k=1\/e.k=2):zpo e:=by
 have he:yq e=e:=by cases e;exact Z4 h
 unfold zpo;rw[he];refine fnT hT hmx Tryz.func28 rfl rfl (ex:= []) ?_;conv=>whnf
 refine brI (fun h1=>?_) (fun h1=>?_)
 .conv=>whnf
  exact⟨zo rfl,lh0⟩
 .conv=>whnf
  refine brI (fun h2=>?_) (fun h2=>?_)
  .conv=>whnf
   exact⟨zo rfl,lh0⟩
  .exfalso;have h1:e.k≠1:=by simpa using h1
   have h2:e.k≠2:=by simpa using h2
   omega
theorem f64{e:Ex}(h:VT e):zpo e:=by
 induction h with
 |num r hr=>exact zrm _ (.inl rfl)
 |var s hs=>exact zrm _ (.inr rfl)
 |un k a hk ha ih=>
  unfold zpo;rw[xo a (zgx hk)];exact zw7 k 0 [a] (zgx hk).1 (zgx hk).2 (by simpa using ih) OC (qi1 hk (jn ha))
 |pow n a h1 h2 ha ih=>
  unfold zpo;rw[xo a O];exact zw7 8 n [a] O O (by simpa using ih) OC (qi0 O)
 |bin k a b hk ha hb ih1 ih2=>
  unfold zpo;rw[zfk a b (zf8 hk)];exact zw7 k 0 [a,b] (zf8 hk).1 (zf8 hk).2 (by simpa using⟨ih1,ih2⟩) OC (qiz hk (jn hb))
theorem f63_7{a x:Ex}{nm:zn}(ha:VT a)(hx:VT x)(ih:Fn 51 [] [.agg (exC a),.str nm] (.agg (exC x)) []):Fn 51 [] [exV 7 ⟨0,0⟩ [] 0 [a],.str nm] (.agg (exC (zkg 7 0 a x))) []:=by
 rw[show zkg 7 0 a x=op1 7 0 x from rfl];refine fnT hT hmx Tryz.func51 rfl rfl (ex:= []) ?_;conv=>whnf
 refine ix0 ?_;conv=>whnf
 refine gYn ih ?_;refine gZn (qhy (k:=7) (a:=x) (by unfold K1;omega) hx) ?_;conv=>whnf
 exact⟨zo rfl,lh0⟩
theorem f63_9{a x:Ex}{nm:zn}(ha:VT a)(hx:VT x)(ih:Fn 51 [] [.agg (exC a),.str nm] (.agg (exC x)) []):Fn 51 [] [exV 9 ⟨0,0⟩ [] 0 [a],.str nm] (.agg (exC (zkg 9 0 a x))) []:=by
 rw[show zkg 9 0 a x=op2 5 (op1 9 0 a) x from rfl];refine fnT hT hmx Tryz.func51 rfl rfl (ex:= []) ?_;conv=>whnf
 refine ix0 ?_;conv=>whnf
 refine gYn ih ?_;refine gZn (qhy (k:=9) (a:=a) (by unfold K1;omega) ha) ?_;conv=>whnf
 refine gZn (f75 (k:=5) (a:=op1 9 0 a) (b:=x) (by unfold K2;omega) hx) ?_;conv=>whnf
 refine gYd ?_;exact⟨zo rfl,lh0⟩
theorem qld{a x:Ex}{nm:zn}(ha:VT a)(hx:VT x)(ih:Fn 51 [] [.agg (exC a),.str nm] (.agg (exC x)) []):Fn 51 [] [exV 10 ⟨0,0⟩ [] 0 [a],.str nm] (.agg (exC (zkg 10 0 a x))) []:=by
 rw[show zkg 10 0 a x=op2 6 x a from rfl];refine fnT hT hmx Tryz.func51 rfl rfl (ex:= []) ?_;conv=>whnf
 refine ix0 ?_;conv=>whnf
 refine gYn ih ?_;refine gZn (f75 (k:=6) (a:=x) (b:=a) (by unfold K2;omega) ha) ?_;conv=>whnf
 exact⟨zo rfl,lh0⟩
theorem qlc{a x:Ex}{nm:zn}(ha:VT a)(hx:VT x)(ih:Fn 51 [] [.agg (exC a),.str nm] (.agg (exC x)) []):Fn 51 [] [exV 11 ⟨0,0⟩ [] 0 [a],.str nm] (.agg (exC (zkg 11 0 a x))) []:=by
 rw[show zkg 11 0 a x=op2 5 (op1 12 0 a) x from rfl];refine fnT hT hmx Tryz.func51 rfl rfl (ex:= []) ?_;conv=>whnf
 refine ix0 ?_;conv=>whnf
 refine gYn ih ?_;refine gZn (qhy (k:=12) (a:=a) (by unfold K1;omega) ha) ?_;conv=>whnf
 refine gZn (f75 (k:=5) (a:=op1 12 0 a) (b:=x) (by unfold K2;omega) hx) ?_;conv=>whnf
 refine gYd ?_;exact⟨zo rfl,lh0⟩
theorem qlb{a x:Ex}{nm:zn}(ha:VT a)(hx:VT x)(ih:Fn 51 [] [.agg (exC a),.str nm] (.agg (exC x)) []):Fn 51 [] [exV 12 ⟨0,0⟩ [] 0 [a],.str nm] (.agg (exC (zkg 12 0 a x))) []:=by
 rw[show zkg 12 0 a x=op1 7 0 (op2 5 (op1 11 0 a) x)from rfl];refine fnT hT hmx Tryz.func51 rfl rfl (ex:= []) ?_;conv=>whnf
 refine ix0 ?_;conv=>whnf
 refine gYn ih ?_;refine gZn (qhy (k:=11) (a:=a) (by unfold K1;omega) ha) ?_;conv=>whnf
 refine gZn (f75 (k:=5) (a:=op1 11 0 a) (b:=x) (by unfold K2;omega) hx) ?_;conv=>whnf
 refine gZn (qhy (k:=7) (a:=op2 5 (op1 11 0 a) x) (by unfold K1;omega) (zfc (by unfold K2;omega) (zb6 (.inl ⟨(by unfold K1;omega),rfl⟩) ha) hx)) ?_;conv=>whnf
 refine gYd ?_;exact⟨zo rfl,lh0⟩
theorem qla{a x:Ex}{nm:zn}(ha:VT a)(hx:VT x)(ih:Fn 51 [] [.agg (exC a),.str nm] (.agg (exC x)) []):Fn 51 [] [exV 13 ⟨0,0⟩ [] 0 [a],.str nm] (.agg (exC (zkg 13 0 a x))) []:=by
 rw[show zkg 13 0 a x=op2 6 x (op2 5 (ud 2) (op1 13 0 a))from rfl];refine fnT hT hmx Tryz.func51 rfl rfl (ex:= []) ?_;conv=>whnf
 refine ix0 ?_;conv=>whnf
 refine gYn ih ?_;refine gYn (f74 2) ?_;refine gZn (qhy (k:=13) (a:=a) (by unfold K1;omega) ha) ?_;conv=>whnf
 refine gZn (f75 (k:=5) (a:=ud 2) (b:=op1 13 0 a) (by unfold K2;omega) (zb6 (.inl ⟨(by unfold K1;omega),rfl⟩) ha)) ?_;conv=>whnf
 refine gZn (f75 (k:=6) (a:=x) (b:=op2 5 (ud 2) (op1 13 0 a)) (by unfold K2;omega) (zfc (by unfold K2;omega) (zc4 O) (zb6 (.inl ⟨(by unfold K1;omega),rfl⟩) ha))) ?_;conv=>whnf
 refine gYd ?_;exact⟨zo rfl,lh0⟩
theorem qf8(r:Rt)(nm:zn):Fn 51 [] [.agg (exC (xq r)),.str nm] (.agg (exC (ud 0))) []:=by
 refine fnT hT hmx Tryz.func51 rfl rfl (ex:= []) ?_;conv=>whnf
 refine gYn (f74 0) ?_;exact⟨zo rfl,lh0⟩
theorem qf7(s nm:zn):Fn 51 [] [.agg (exC (zcg s)),.str nm] (.agg (exC (if s=nm then ud 1 else ud 0))) []:=by
 refine fnT hT hmx Tryz.func51 rfl rfl (ex:= []) ?_;conv=>whnf
 refine brI (fun h=>?_) (fun h=>?_)
 .conv=>whnf
  rw[Z4 (show s=nm from by have h:(s==nm)=true:=h;simpa using h)];refine gYn (f74 1) ?_;exact⟨zo rfl,lh0⟩
 .conv=>whnf
  rw[Z5 (show ¬s=nm from by have h:(s==nm)=false:=h;simpa using h)];refine gYn (f74 0) ?_;exact⟨zo rfl,lh0⟩
theorem f63_8{a x:Ex}{n:Int}{nm:zn}(h0:0<=n)(h16:n<=16)(ha:VT a)(hx:VT x)(ih:Fn 51 [] [.agg (exC a),.str nm] (.agg (exC x)) []):Fn 51 [] [exV 8 ⟨0,0⟩ [] n [a],.str nm] (.agg (exC (zkg 8 n a x))) []:=by
 refine fnT hT hmx Tryz.func51 rfl rfl (ex:= []) ?_;conv=>whnf
 refine ix0 ?_;conv=>whnf
 refine gYn ih ?_;refine brI (fun h=>?_) (fun h=>?_)
 .conv=>whnf
  have h:n=0:=by simpa using h
  rw[show zkg 8 n a x=ud 0 by subst h;rfl];refine gYn (f74 0) ?_;exact⟨zo rfl,lh0⟩
 .conv=>whnf
  have h:n≠0:=by simpa using h
  have hd:zkg 8 n a x=op2 5 (op2 5 (ud n) (op1 8 (n-1) a)) x:=by simp only[zkg];rw[Z5 O,Z4 trivial,Z5 h]
  have hq:VT (op1 8 (n-1) a):=zb6 (.inr ⟨rfl,O,O⟩) ha;rw[hd];refine gYn (f74 n) ?_;rw[wI (x:=n-1) O];refine gYn (f116 (n:=n-1) (a:=a) O) ?_;refine gZn (f75 (k:=5) (a:=ud n) (b:=op1 8 (n-1) a) (by unfold K2;omega) hq) ?_;conv=>whnf
  refine gZn (f75 (k:=5) (a:=op2 5 (ud n) (op1 8 (n-1) a)) (b:=x) (by unfold K2;omega) hx) ?_;conv=>whnf
  refine gYd ?_;exact⟨zo rfl,lh0⟩
theorem f63_3{a b x y:Ex}{nm:zn}(hy:VT y)(ih:Fn 51 [] [.agg (exC a),.str nm] (.agg (exC x)) [])(ih2:Fn 51 [] [.agg (exC b),.str nm] (.agg (exC y)) []):Fn 51 [] [exV 3 ⟨0,0⟩ [] 0 [a,b],.str nm] (.agg (exC (zph 3 a b x y))) []:=by
 rw[show zph 3 a b x y=op2 3 x y from rfl];refine fnT hT hmx Tryz.func51 rfl rfl (ex:= []) ?_;conv=>whnf
 refine ix0 ?_;conv=>whnf
 refine gYn ih ?_;refine ix1 ?_;conv=>whnf
 refine gYn ih2 ?_;refine gZn (f75 (k:=3) (a:=x) (b:=y) (by unfold K2;omega) hy) ?_;conv=>whnf
 refine gYd ?_;exact⟨zo rfl,lh0⟩
theorem f63_4{a b x y:Ex}{nm:zn}(hy:VT y)(ih:Fn 51 [] [.agg (exC a),.str nm] (.agg (exC x)) [])(ih2:Fn 51 [] [.agg (exC b),.str nm] (.agg (exC y)) []):Fn 51 [] [exV 4 ⟨0,0⟩ [] 0 [a,b],.str nm] (.agg (exC (zph 4 a b x y))) []:=by
 rw[show zph 4 a b x y=op2 4 x y from rfl];refine fnT hT hmx Tryz.func51 rfl rfl (ex:= []) ?_;conv=>whnf
 refine ix0 ?_;conv=>whnf
 refine gYn ih ?_;refine ix1 ?_;conv=>whnf
 refine gYn ih2 ?_;refine gZn (f75 (k:=4) (a:=x) (b:=y) (by unfold K2;omega) hy) ?_;conv=>whnf
 refine gYd ?_;exact⟨zo rfl,lh0⟩
theorem f63_5{a b x y:Ex}{nm:zn}(ha:VT a)(hb:VT b)(hx:VT x)(hy:VT y)(ih:Fn 51 [] [.agg (exC a),.str nm] (.agg (exC x)) [])(ih2:Fn 51 [] [.agg (exC b),.str nm] (.agg (exC y)) []):Fn 51 [] [exV 5 ⟨0,0⟩ [] 0 [a,b],.str nm] (.agg (exC (zph 5 a b x y))) []:=by
 rw[show zph 5 a b x y=op2 3 (op2 5 x b) (op2 5 a y)from rfl];refine fnT hT hmx Tryz.func51 rfl rfl (ex:= []) ?_;conv=>whnf
 refine ix0 ?_;conv=>whnf
 refine gYn ih ?_;refine ix1 ?_;conv=>whnf
 refine gZn (f75 (k:=5) (a:=x) (b:=b) (by unfold K2;omega) hb) ?_;conv=>whnf
 refine gYn ih2 ?_;refine gZn (f75 (k:=5) (a:=a) (b:=y) (by unfold K2;omega) hy) ?_;conv=>whnf
 refine gZn (f75 (k:=3) (a:=op2 5 x b) (b:=op2 5 a y) (by unfold K2;omega) (zfc (by unfold K2;omega) ha hy)) ?_;conv=>whnf
 refine gYd ?_;exact⟨zo rfl,lh0⟩
theorem f63_6{a b x y:Ex}{nm:zn}(ha:VT a)(hb:VT b)(hx:VT x)(hy:VT y)(ih:Fn 51 [] [.agg (exC a),.str nm] (.agg (exC x)) [])(ih2:Fn 51 [] [.agg (exC b),.str nm] (.agg (exC y)) []):Fn 51 [] [exV 6 ⟨0,0⟩ [] 0 [a,b],.str nm] (.agg (exC (zph 6 a b x y))) []:=by
 refine fnT hT hmx Tryz.func51 rfl rfl (ex:= []) ?_;conv=>whnf
 refine ix0 ?_;conv=>whnf
 refine gYn ih ?_;refine ix1 ?_;conv=>whnf
 refine brI (fun h=>?_) (fun h=>?_)
 .conv=>whnf
  have h:b.k=1:=by simpa using h
  rw[show zph 6 a b x y=op2 6 x b by simp[zph,h]];refine gZn (f75 (k:=6) (a:=x) (b:=b) (by unfold K2;omega) hb) ?_;conv=>whnf
  exact⟨zo rfl,lh0⟩
 .conv=>whnf
  have h:b.k≠1:=by simpa using h
  rw[show zph 6 a b x y=op2 6 (op2 4 (op2 5 x b) (op2 5 a y)) (op1 8 2 b) by simp[zph,h]];refine gZn (f75 (k:=5) (a:=x) (b:=b) (by unfold K2;omega) hb) ?_;conv=>whnf
  refine gYn ih2 ?_;refine gZn (f75 (k:=5) (a:=a) (b:=y) (by unfold K2;omega) hy) ?_;conv=>whnf
  refine gZn (f75 (k:=4) (a:=op2 5 x b) (b:=op2 5 a y) (by unfold K2;omega) (zfc (by unfold K2;omega) ha hy)) ?_;conv=>whnf
  refine gYn (f116 (n:=2) (a:=b) O) ?_;refine gZn (f75 (k:=6) (a:=op2 4 (op2 5 x b) (op2 5 a y)) (b:=op1 8 2 b) (by unfold K2;omega) (zb6 (.inr ⟨rfl,O,O⟩) hb)) ?_;conv=>whnf
  refine gYd ?_;exact⟨zo rfl,lh0⟩
theorem f63{e:Ex}(nm:zn)(h:VT e):Fn 51 [] [.agg (exC e),.str nm] (.agg (exC (zau nm e))) []:=by
 induction h with
 |num r hr=>rw[zrw];exact qf8 r nm
 |var s hs=>rw[zru];exact qf7 s nm
 |un k a hk ha ih=>
  rw[zhd nm a (zgx hk)];have hx:=zf7 nm ha;rcases hk with rfl|rfl|rfl|rfl|rfl|rfl
  .exact f63_7 ha hx ih
  .exact f63_9 ha hx ih
  .exact qld ha hx ih
  .exact qlc ha hx ih
  .exact qlb ha hx ih
  .exact qla ha hx ih
 |pow n a h1 h2 ha ih=>
  rw[zhd nm a O];exact f63_8 h1 h2 ha (zf7 nm ha) ih
 |bin k a b hk ha hb ih1 ih2=>
  rw[zrv nm a b (zf8 hk)];have hx:=zf7 nm ha;have hy:=zf7 nm hb;rcases hk with rfl|rfl|rfl|rfl
  .exact f63_3 hy ih1 ih2
  .exact f63_4 hy ih1 ih2
  .exact f63_5 ha hb hx hy ih1 ih2
  .exact f63_6 ha hb hx hy ih1 ih2
theorem qjw(s:zn):okT (zcg s)=zat s:=by
 rw[Bool.eq_iff_iff,zfq];constructor
 .rintro⟨h,_⟩;have h:zdy (zcg s)=true/\True:=h;have h:(decide ((⟨0,0⟩:Rt)=⟨0,0⟩)&&zat s&&decide ((0:Int)=0)&&decide (([]:List Ex).length =0))=true:=h.1;simpa using h
 .intro h;exact⟨ql9 (VT.var s h),by simp[zcg,zi8,zry],by simp[zcg,zdn,zgz]⟩
theorem zyp{s:zn}(h:s.length<9223372036854775808):Sm (zcg s):=by
 simp only[zcg,Sm,SmL,q5];exact⟨h,O,trivial⟩
theorem f62(s:zn)(h:s.length<9223372036854775808):Fn 50 [] [.str s] (.bool (zat s)) []:=by
 rw[<-qjw];refine fnT hT hmx Tryz.func50 rfl rfl (ex:= []) ?_;conv=>whnf
 refine gYn (nil1 (f17 (zcg s) (zyp h))) ?_;exact⟨lr rfl,lh0⟩
theorem f18(s:zn):Fn 16 [] [.str s] (.agg (exC (zcg s))) []:=by
 refine fnT hT hmx Tryz.func16 rfl rfl (ex:= []) ?_;conv=>whnf
 (refine q2 ?_ ?_;repeat' first|exact ln0|exact lh0|exact la0|exact lr rfl|exact li0 rfl|refine lg0 ?_|refine lt0 ?_|exact bf0|exact bd0|refine lc ?_ ?_|refine lh1 ?_ ?_|refine bc0 ?_|fail)
theorem qgn{e:Ex}{nm:zn}(h:okT e=false):dfE e nm=(zbp,1):=by simp[dfE,h]
theorem qgm{e:Ex}{nm:zn}(h:zat nm=false):dfE e nm=(zbp,1):=by simp[dfE,h]
theorem zxv{e:Ex}{nm:zn}(h:okT e=true)(h2:zat nm=true)(h3:okT (zau nm (yq e))=false):dfE e nm=(zbp,5):=by simp[dfE,h,h2,h3]
theorem zxu{e:Ex}{nm:zn}(h:okT e=true)(h2:zat nm=true)(h3:okT (zau nm (yq e))=true):dfE e nm=(zau nm (yq e),0):=by simp[dfE,h,h2,h3]
abbrev dfV(p:Ex×Int):AV:=.tup [.agg (exC p.1),.int .i64 p.2]
theorem zwn{h h':Hp}{a:Ex}{n:Int}{p:Ex×Int}(hp:p=(a,n)):leA h h' (.tup [.agg (exC a),.int .i64 n]) (dfV p):=by subst hp;exact lr rfl
theorem xc{h h':Hp}{n:Int}{p:Ex×Int}(hp:p=(zbp,n)):leA h h' (.tup [.agg [.int .i64 0,.int .i64 0,.int .i64 0,.str [],.int .i64 0,.nilsl],.int .i64 n]) (dfV p):=by
 subst hp;exact lt0 (lc (lg0 (lc (lr rfl) (lc (lr rfl) (lc (lr rfl) (lc (lr rfl) (lc (lr rfl) (lc (li0 rfl) ln0))))))) (lc (lr rfl) ln0))
theorem f16(e:Ex)(nm:zn)(he:Sm e)(hn:nm.length<9223372036854775808):Fn 18 [] [.agg (exC e),.str nm] (dfV (dfE e nm)) []:=by
 refine fnT hT hmx Tryz.func18 rfl rfl (ex:= []) ?_;conv=>whnf
 refine cbI [] (okT e) (f17 e he) (fun h1=>?_) (fun h1=>?_)
 .conv=>whnf
  refine cbI [] (zat nm) (f62 nm hn) (fun h2=>?_) (fun h2=>?_)
  .conv=>whnf
   have hv:=zb2 h1;refine gYn (f64 hv) ?_;refine gYn (f63 nm (jn hv)) ?_;refine cbI [] (okT (zau nm (yq e))) (f17 (zau nm (yq e)) (qbe (zf7 nm (jn hv)))) (fun h3=>?_) (fun h3=>?_)
   .conv=>whnf
    exact⟨zwn (zxu h1 h2 h3),lh0⟩
   .conv=>whnf
    exact⟨xc (zxv h1 h2 h3),lh0⟩
  .conv=>whnf
   exact⟨xc (qgm h2),lh0⟩
 .conv=>whnf
  exact⟨xc (qgn h1),lh0⟩
def siE(e:Ex):Ex:=if okT e then yq e else zbp
theorem f25(e:Ex)(he:Sm e):Fn 8 [] [.agg (exC e)] (.agg (exC (siE e))) []:=by
 refine fnT hT hmx Tryz.func8 rfl rfl (ex:= []) ?_;conv=>whnf
 refine cbI [] (okT e) (f17 e he) (fun h1=>?_) (fun h1=>?_)
 .conv=>whnf
  rw[show siE e=yq e by simp[siE,h1]];refine gYn (f64 (zb2 h1)) ?_;exact⟨zo rfl,lh0⟩
 .conv=>whnf
  rw[show siE e=zbp by simp[siE,h1]]
  (refine q2 ?_ ?_;repeat' first|exact ln0|exact lh0|exact la0|exact lr rfl|exact li0 rfl|refine lg0 ?_|refine lt0 ?_|exact bf0|exact bd0|refine lc ?_ ?_|refine lh1 ?_ ?_|refine bc0 ?_|fail)
def zzg(e:Ex):List Eqn->Bool->Ex->Option Ex
 | [],_,s=>some s
 |q::r,f,s=>if(dfE e q.s).2=0 then zzg e r false (if f then op2 5 (dfE e q.s).1 (yq q.e)else op2 3 s (op2 5 (dfE e q.s).1 (yq q.e)))else none
def zy3:List Eqn->List (zn×Bool)->Bool
 | [],_=>false
 |q::r,es=>if zob .str q.s false es then true else zy3 r (zm7 .str q.s true es)
def zrk(fl:List Eqn):Bool:=fl.all fun q=>okT q.e&&zat q.s
def alE(e:Ex)(fl:List Eqn):Ex×Int:=if 8<fl.length then(zbp,5)else if(okT e&&zrk fl)=true then(if zy3 fl []=true then(zbp,8)else match zzg e fl true (ud 0)with|none=>(zbp,5)|some s=>if okT s=true then(s,0)else(zbp,5))else(zbp,1)
theorem al_1{e:Ex}{fl:List Eqn}(h:8<fl.length):alE e fl=(zbp,5):=by simp[alE,h]
theorem al_2{e:Ex}{fl:List Eqn}(h:¬8<fl.length)(h2:(okT e&&zrk fl)=false):alE e fl=(zbp,1):=by simp only[alE,Z5 h,h2];simp
theorem al_3{e:Ex}{fl:List Eqn}(h:¬8<fl.length)(h2:okT e=true)(h3:zrk fl=true)(h4:zy3 fl []=true):alE e fl=(zbp,8):=by simp only[alE,Z5 h,h2,h3,h4];simp
theorem al_4{e:Ex}{fl:List Eqn}(h:¬8<fl.length)(h2:okT e=true)(h3:zrk fl=true)(h4:zy3 fl []=false)(h5:zzg e fl true (ud 0)=none):alE e fl=(zbp,5):=by simp only[alE,Z5 h,h2,h3,h4,h5];simp
theorem al_5{e:Ex}{fl:List Eqn}(h:¬8<fl.length)(h2:okT e=true)(h3:zrk fl=true)(h4:zy3 fl []=false){s:Ex}(h5:zzg e fl true (ud 0)=some s)(h6:okT s=false):alE e fl=(zbp,5):=by simp only[alE,Z5 h,h2,h3,h4,h5,h6];simp
theorem al_6{e:Ex}{fl:List Eqn}(h:¬8<fl.length)(h2:okT e=true)(h3:zrk fl=true)(h4:zy3 fl []=false){s:Ex}(h5:zzg e fl true (ud 0)=some s)(h6:okT s=true):alE e fl=(s,0):=by simp only[alE,Z5 h,h2,h3,h4,h5,h6];simp
theorem qgl{e:Ex}{nm:zn}(h:okT e=true)(h2:zat nm=true):(∃d,dfE e nm=(d,0)/\VT d)\/dfE e nm=(zbp,5):=by
 cases h3:okT (zau nm (yq e))with
 |true=>exact .inl ⟨_,zxu h h2 h3,zf7 nm (jn (zb2 h))⟩
 |false=>exact .inr (zxv h h2 h3)
theorem qax{fl:List Eqn}(h:zrk fl=true){q:Eqn}(hq:q∈fl):okT q.e=true/\zat q.s=true:=by
 have:=List.all_eq_true.1 h q hq;simpa using this
theorem f36(e:Ex)(fl:List Eqn)(he:Sm e)(hfl:∀q∈fl,Sm q.e/\q.s.length<9223372036854775808)(hlen:fl.length<9223372036854775808):
 Fn 19 [] [.agg (exC e),.sl .eqn fl] (dfV (alE e fl)) []:=by
 obtain⟨A,hA⟩:∃A,alE e fl=A:=⟨_,rfl⟩;rw[hA];refine fnT hT hmx Tryz.func19 rfl rfl (ex:= []) ?_;conv=>whnf
 refine brI (fun h0=>?_) (fun h0=>?_)
 .conv=>whnf
  have h0:8<fl.length:=by simp only[Z2]at h0;omega
  exact⟨xc (hA.symm.trans <| al_1 h0),lh0⟩
 have h0:¬8<fl.length:=by simp only[Z3]at h0;omega
 conv=>whnf
 refine cbI [] (okT e) (f17 e he) (fun h1=>?_) (fun h1=>?_)
 rotate_left
 .conv=>whnf
  exact⟨xc (hA.symm.trans <| al_2 h0 (by rw[h1];rfl)),lh0⟩
 conv=>whnf
 refine⟨Nat,fun i=>i<=fl.length/\zrk (fl.drop i)=zrk fl,fun i=> [(27,.int .i64 i)],fun _=> [],fun i=>fl.length-i,0,⟨OC,rfl⟩,?_,fun i hi=>?_⟩
 .exact KZ0
 refine gYe ?_;obtain⟨hi1,hi2⟩:=hi;refine brI (fun h3=>?_) (fun h3=>?_)
 .conv=>whnf
  have h3:i<fl.length:=by simp only[Z2]at h3;omega
  refine⟨⟨O,O⟩,fun q hq=>?_⟩;have hq:fl[i]? =some q:=by simpa using hq
  have hm:=q4 hq;rw[wv hq]at hi2;simp only[zrk,List.all_cons]at hi2;conv=>whnf
  refine cbI [] (okT q.e) (f17 q.e (hfl q hm).1) (fun h4=>?_) (fun h4=>?_)
  .conv=>whnf
   refine cbI [] (zat q.s) (f62 q.s (hfl q hm).2) (fun h5=>?_) (fun h5=>?_)
   .conv=>whnf
    refine⟨i+1,⟨O,by rw[h4,h5]at hi2;simpa[zrk]using hi2⟩,by show fl.length-(i+1)<fl.length-i;omega,?_⟩;exact KZ0
   .conv=>whnf
    exact⟨xc (hA.symm.trans <| al_2 h0 (by rw[h5]at hi2;simp[zrk,<-hi2])),lh0⟩
  .conv=>whnf
   exact⟨xc (hA.symm.trans <| al_2 h0 (by rw[h4]at hi2;simp[zrk,<-hi2])),lh0⟩
 have h3:¬i<fl.length:=by simp only[Z3]at h3;omega
 have hok:zrk fl=true:=by rw[<-hi2,q3 O];rfl
 clear hi1 hi2 h3;conv=>whnf
 refine⟨Nat×List (zn×Bool),fun x=>x.1<=fl.length/\zy3 (fl.drop x.1) x.2=zy3 fl [],fun x=> [(46,.int .i64 x.1)],fun x=> [(43,.map .str .bool x.2)],fun x=>fl.length-x.1,(0,[]),⟨OC,rfl⟩,?_,fun x hx=>?_⟩
 .exact KZ0
 refine gYe ?_;obtain⟨j,es⟩:=x;obtain⟨hj1,hj2⟩:=hx;simp only at hj1 hj2;refine brI (fun h3=>?_) (fun h3=>?_)
 .conv=>whnf
  have h3:j<fl.length:=by simp only[Z2]at h3;omega
  refine⟨⟨O,O⟩,fun q hq=>?_⟩;have hq:fl[j]? =some q:=by simpa using hq
  rw[wv hq]at hj2;simp only[zy3]at hj2;conv=>whnf
  refine brI (fun h4=>?_) (fun h4=>?_)
  .conv=>whnf
   rw[Z4 h4]at hj2;exact⟨xc (hA.symm.trans <| al_3 h0 h1 hok hj2.symm),lh0⟩
  .conv=>whnf
   rw[Z5 (by rw[h4];simp)]at hj2;refine⟨(j+1,zm7 .str q.s true es),⟨OD,hj2⟩,by show fl.length-(j+1)<fl.length-j;omega,?_⟩;exact KZ0
 have h3:¬j<fl.length:=by simp only[Z3]at h3;omega
 have hdup:zy3 fl []=false:=by rw[<-hj2,q3 O];rfl
 clear hj1 hj2 h3;conv=>whnf
 refine gYn (f74 0) ?_;refine⟨Nat×Ex,fun x=>x.1<=fl.length/\zzg e (fl.drop x.1) (x.1==0) x.2=zzg e fl true (ud 0)/\VT x.2,fun x=> [(62,.int .i64 x.1)],fun x=> [(11,.cells (exC x.2))],fun x=>fl.length-x.1,(0,ud 0),⟨OC,rfl,zc4 O⟩,?_,fun x hx=>?_⟩
 .exact KZ0
 refine gYe ?_;obtain⟨k,s⟩:=x;obtain⟨hk1,hk2,hk3⟩:=hx;simp only at hk1 hk2 hk3;refine brI (fun h3=>?_) (fun h3=>?_)
 .conv=>whnf
  have h3:k<fl.length:=by simp only[Z2]at h3;omega
  refine⟨⟨O,O⟩,fun q hq=>?_⟩;have hq:fl[k]? =some q:=by simpa using hq
  have hm:=q4 hq;have hqo:=qax hok hm;rw[wv hq]at hk2;simp only[zzg]at hk2;have h16:=f16 e q.s he (hfl q hm).2;conv=>whnf
  rcases qgl h1 hqo.2 with ⟨d,hd,hvd⟩|hd
  .rw[hd]at h16 hk2;simp only[if_true]at hk2;refine gYn h16 ?_;have hvq:=jn (zb2 hqo.1);refine gYn (f64 (zb2 hqo.1)) ?_;refine gZn (f75 (k:=5) (a:=d) (b:=yq q.e) (by unfold K2;omega) hvq) ?_;conv=>whnf
   refine gYd ?_;have hvp:VT (op2 5 d (yq q.e)):=zfc (by unfold K2;omega) hvd hvq;refine brI (fun h4=>?_) (fun h4=>?_)
   .conv=>whnf
    have h4:k=0:=by simp only[beq_iff_eq]at h4;omega
    refine⟨(k+1,op2 5 d (yq q.e)),⟨OD,by rw[h4]at hk2;simpa[h4]using hk2,hvp⟩,by show fl.length-(k+1)<fl.length-k;omega,?_⟩;exact KZ0
   .conv=>whnf
    have h4:k≠0:=by simp only[beq_eq_false_iff_ne,ne_eq]at h4;omega
    refine gZn (f75 (k:=3) (a:=s) (b:=op2 5 d (yq q.e)) (by unfold K2;omega) hvp) ?_;conv=>whnf
    refine⟨(k+1,op2 3 s (op2 5 d (yq q.e))),⟨OD,by rw[show(k==0)=false by simpa using h4]at hk2;simpa using hk2,zfc (by unfold K2;omega) hk3 hvp⟩,by show fl.length-(k+1)<fl.length-k;omega,?_⟩;exact KZ0
  .rw[hd]at h16 hk2;refine gYn h16 ?_;exact⟨xc (hA.symm.trans <| al_4 h0 h1 hok hdup (by rw[<-hk2];simp)),lh0⟩
 have h3:¬k<fl.length:=by simp only[Z3]at h3;omega
 rw[q3 O]at hk2;simp only[zzg]at hk2;conv=>whnf
 refine cbI [] (okT s) (f17 s (qbe hk3)) (fun h6=>?_) (fun h6=>?_)
 .conv=>whnf
  exact⟨zwn (hA.symm.trans <| al_6 h0 h1 hok hdup hk2.symm h6),lh0⟩
 .conv=>whnf
  exact⟨xc (hA.symm.trans <| al_5 h0 h1 hok hdup hk2.symm h6),lh0⟩
def divB(l:List Ex):Bool:=match l with
 | _::b::_=>(b.k==1)&&(b.q.n != 0)
 | _=>false
mutual
def zca:Ex->Bool
 |.mk k _ _ _ l=>if 9<=k then false else if k=6 then divB l&&zgq l else zgq l
def zgq:List Ex->Bool
 | []=>true
 |x::l=>zca x&&zgq l
end
theorem qe1(r:Rt):zca (xq r)=true:=by simp[xq,zca,zgq]
theorem qez(s:zn):zca (zcg s)=true:=by simp[zcg,zca,zgq]
theorem zvs{k n:Int}{a:Ex}(hk:k=7\/k=8):zca (opE k n [a])=zca a:=by
 rcases hk with rfl|rfl<;>simp[opE,zca,zgq]
theorem qe2{k n:Int}{l:List Ex}(hk:9<=k):zca (opE k n l)=false:=by simp[opE,zca,hk]
theorem qe0{k:Int}{a b:Ex}(hk:k=3\/k=4\/k=5):zca (opE k 0 [a,b])=(zca a&&zca b):=by
 rcases hk with rfl|rfl|rfl<;>simp[opE,zca,zgq]
theorem qe3{a b:Ex}:zca (opE 6 0 [a,b])=((b.k==1)&&(b.q.n != 0)&&(zca a&&zca b)):=by
 simp[opE,zca,zgq,divB]
abbrev zjh(e:Ex):Prop:=Fn 55 [] [.agg (exC e)] (.bool (zca e)) []
theorem zvt{l:List Ex}{i:Nat}{x:Ex}(hx:l[i]? =some x)(h:zgq (l.drop i)=zgq l):zgq l=(zca x&&zgq (l.drop (i+1))):=by
 rw[<-h,wv hx];rfl
theorem zcx(k:Int)(q:Rt)(s:zn)(n:Int)(l:List Ex)(h6:k≠6)(h9:k<9)(hl:∀x∈l,zjh x)(hlen:l.length<9223372036854775808):
 Fn 55 [] [exV k q s n l] (.bool (zgq l)) []:=by
 refine fnT hT hmx Tryz.func55 rfl rfl (ex:= []) ?_;conv=>whnf
 refine brI (fun h=>absurd (show k=9 by simpa using h) O) (fun _=>?_);conv=>whnf
 refine brI (fun h=>absurd (show k=10 by simpa using h) O) (fun _=>?_);conv=>whnf
 refine brI (fun h=>absurd (show k=11 by simpa using h) O) (fun _=>?_);conv=>whnf
 refine brI (fun h=>absurd (show k=12 by simpa using h) O) (fun _=>?_);conv=>whnf
 refine brI (fun h=>absurd (show k=13 by simpa using h) O) (fun _=>?_);conv=>whnf
 refine brI (fun h=>absurd (show k=6 by simpa using h) h6) (fun _=>?_);conv=>whnf
 refine⟨Nat,fun i=>i<=l.length/\zgq (l.drop i)=zgq l,fun i=> [(32,.int .i64 i)],fun _=> [],fun i=>l.length-i,0,⟨OC,rfl⟩,?_,fun i hi=>?_⟩
 ·((conv=>whnf);refine q2 ?_ ?_;repeat' first|exact ln0|exact lh0|exact la0|exact lr rfl|exact li0 rfl|refine lg0 ?_|refine lt0 ?_|exact bf0|exact bd0|refine lc ?_ ?_|refine lh1 ?_ ?_|refine bc0 ?_|fail)
 .refine gYe ?_;obtain⟨hi1,hi2⟩:=hi;refine brI (fun h3=>?_) (fun h3=>?_)
  .conv=>whnf
   have h3:i<l.length:=by simp only[Z2]at h3;omega
   refine⟨⟨O,O⟩,fun x hx=>?_⟩;have hx:l[(i:Int).toNat]? =some x:=hx;have hx:l[i]? =some x:=by simpa using hx
   conv=>whnf
   have hp:=zvt hx hi2;refine cbI [] (zca x) (hl x (q4 hx)) (fun h4=>?_) (fun h4=>?_)
   .conv=>whnf
    refine⟨i+1,⟨O,by rw[hp,h4];simp⟩,by show l.length-(i+1)<l.length-i;omega,?_⟩
    ((conv=>whnf);refine q2 ?_ ?_;repeat' first|exact ln0|exact lh0|exact la0|exact lr rfl|exact li0 rfl|refine lg0 ?_|refine lt0 ?_|exact bf0|exact bd0|refine lc ?_ ?_|refine lh1 ?_ ?_|refine bc0 ?_|fail)
    exact ai0 (by rw[wI O];omega)
   .conv=>whnf
    exact⟨ab0 (by rw[hp,h4];simp),lh0⟩
  .conv=>whnf
   have h3:¬i<l.length:=by simp only[Z3]at h3;omega
   rw[q3 O]at hi2;exact⟨ab0 (by rw[<-hi2];rfl),lh0⟩
theorem qf5(k:Int)(q:Rt)(s:zn)(n:Int)(l:List Ex)(h9:k=9\/k=10\/k=11\/k=12\/k=13):Fn 55 [] [exV k q s n l] (.bool false) []:=by
 rcases h9 with rfl|rfl|rfl|rfl|rfl<;>(refine fnT hT hmx Tryz.func55 rfl rfl (ex:= []) ?_;(conv=>whnf);exact⟨lr rfl,lh0⟩)
theorem qf6(q:Rt)(s:zn)(n:Int)(a b:Ex)(ha:zjh a)(hb:zjh b):Fn 55 [] [exV 6 q s n [a,b]] (.bool ((b.k==1)&&(b.q.n != 0)&&(zca a&&zca b))) []:=by
 refine fnT hT hmx Tryz.func55 rfl rfl (ex:= []) ?_;conv=>whnf
 refine ix1 ?_;conv=>whnf
 have hloop:∀i:Nat,i<=2->(i=0\/(i=1/\zca a=true)\/(i=2/\zca a=true/\zca b=true))->True:=fun _ _ _=>trivial
 refine brI (fun h1=>?_) (fun h1=>?_)
 .conv=>whnf
  have h1:b.k≠1:=by simpa using h1
  exact⟨ab0 (by simp[h1]),lh0⟩
 .conv=>whnf
  have h1:b.k=1:=by simpa using h1
  refine brI (fun h2=>?_) (fun h2=>?_)
  .conv=>whnf
   have h2:b.q.n=0:=by simpa using h2
   exact⟨ab0 (by simp[h2]),lh0⟩
  .conv=>whnf
   have h2:b.q.n≠0:=by simpa using h2
   refine⟨Nat,fun i=>i<=2/\zgq ([a,b].drop i)=(zca a&&zca b),fun i=> [(32,.int .i64 i)],fun _=> [],fun i=>2-i,0,⟨O,by simp[zgq]⟩,?_,fun i hi=>?_⟩
   ·((conv=>whnf);refine q2 ?_ ?_;repeat' first|exact ln0|exact lh0|exact la0|exact lr rfl|exact li0 rfl|refine lg0 ?_|refine lt0 ?_|exact bf0|exact bd0|refine lc ?_ ?_|refine lh1 ?_ ?_|refine bc0 ?_|fail)
   .refine gYe ?_;obtain⟨hi1,hi2⟩:=hi;refine brI (fun h3=>?_) (fun h3=>?_)
    .conv=>whnf
     have h3:decide ((i:Int)<(([a,b]:List Ex).length :Int))=true:=h3;have h3:i<2:=by simp only[Z2,q6,q5]at h3;omega
     refine⟨⟨O,by simp only[q6,q5];omega⟩,fun x hx=>?_⟩;have hx:([a,b]:List Ex)[(i:Int).toNat]? =some x:=hx;have hx:([a,b]:List Ex)[i]? =some x:=by rw[Int.toNat_natCast]at hx;exact hx
     have hm:x∈ [a,b]:=q4 hx;have hpx:zjh x:=by
      simp only[q8,q7,or_false]at hm;rcases hm with rfl|rfl
      .exact ha
      .exact hb
     conv=>whnf
     have hp:(zca a&&zca b)=(zca x&&zgq ([a,b].drop (i+1))):=by rw[<-hi2,wv hx];rfl
     refine cbI [] (zca x) hpx (fun h4=>?_) (fun h4=>?_)
     .conv=>whnf
      refine⟨i+1,⟨O,by rw[hp,h4];simp⟩,by show 2-(i+1)<2-i;omega,?_⟩
      ((conv=>whnf);refine q2 ?_ ?_;repeat' first|exact ln0|exact lh0|exact la0|exact lr rfl|exact li0 rfl|refine lg0 ?_|refine lt0 ?_|exact bf0|exact bd0|refine lc ?_ ?_|refine lh1 ?_ ?_|refine bc0 ?_|fail)
      exact ai0 (by rw[wI O];omega)
     .conv=>whnf
      exact⟨ab0 (by rw[hp,h4];simp),lh0⟩
    .conv=>whnf
     have h3:decide ((i:Int)<(([a,b]:List Ex).length :Int))=false:=h3;have h3:¬i<2:=by simp only[Z3,q6,q5]at h3;omega
     rw[q3 OE]at hi2;exact⟨ab0 (by rw[<-hi2];simp[h1,h2,zgq]),lh0⟩
theorem f69{e:Ex}(h:VT e):zjh e:=by
 induction h with
 |num r hr=>
  unfold zjh;rw[qe1];exact zcx 1 r [] 0 [] O O OC OC
 |var s hs=>
  unfold zjh;rw[qez];exact zcx 2 ⟨0,0⟩ s 0 [] O O OC OC
 |un k a hk ha ih=>
  unfold zjh;by_cases h7:k=7
  .subst h7;rw[zvs (.inl rfl),show zca a=zgq [a] by simp[zgq]];exact zcx 7 ⟨0,0⟩ [] 0 [a] O O (by simpa using ih) OC
  .rw[qe2 (by unfold K1 at hk;omega)];exact qf5 k ⟨0,0⟩ [] 0 [a] (by unfold K1 at hk;omega)
 |pow n a h1 h2 ha ih=>
  unfold zjh;rw[zvs (.inr rfl),show zca a=zgq [a] by simp[zgq]];exact zcx 8 ⟨0,0⟩ [] n [a] O O (by simpa using ih) OC
 |bin k a b hk ha hb ih1 ih2=>
  unfold zjh;by_cases h6:k=6
  .subst h6;rw[qe3];exact qf6 ⟨0,0⟩ [] 0 a b ih1 ih2
  .have h3:k=3\/k=4\/k=5:=by unfold K2 at hk;omega
   rw[qe0 h3,show(zca a&&zca b)=zgq [a,b] by simp[zgq]];exact zcx k ⟨0,0⟩ [] 0 [a,b] h6 O (by simpa using⟨ih1,ih2⟩) OC
def poB(e:Ex):Bool:=okT e&&zca e
theorem f22(e:Ex)(he:Sm e):Fn 21 [] [.agg (exC e)] (.bool (poB e)) []:=by
 refine fnT hT hmx Tryz.func21 rfl rfl (ex:= []) ?_;conv=>whnf
 refine cbI [] (okT e) (f17 e he) (fun h1=>?_) (fun h1=>?_)
 .conv=>whnf
  refine gYn (f69 (zb2 h1)) ?_;exact⟨ab0 (by simp[poB,h1]),lh0⟩
 .conv=>whnf
  exact⟨ab0 (by simp[poB,h1]),lh0⟩
abbrev xEl:Ex:=zcg [120]
abbrev yE:Ex:=zcg [121]
abbrev exE:Ex:=opE 3 0 [opE 5 0 [xEl,yE],ud 3]
abbrev flE:List Eqn:= [⟨[120],opE 7 0 [yE]⟩,⟨[121],xEl⟩]
theorem Sm_x:Sm xEl:=zyp OA
theorem Sm_y:Sm yE:=zyp OA
theorem Sm_n:Sm (ud 3):=qbe (zc4 O)
theorem qg9{k n:Int}{l:List Ex}(h:l.length<9223372036854775808)(hl:SmL l):Sm (opE k n l):=by
 simp only[opE,Sm];exact⟨OC,h,hl⟩
theorem Sm_e:Sm exE:=qg9 OA ⟨qg9 OA ⟨Sm_x,Sm_y,trivial⟩,Sm_n,trivial⟩
theorem aw_d:dfE exE [120]=(yE,0):=Z
theorem aw_a:alE xEl flE=(opE 7 0 [yE],0):=Z
theorem aw_p:poB exE=true:=Z
theorem aw_s1:zmn yE yE=true:=Z
theorem aw_s2:zmn (opE 7 0 [yE]) (opE 7 0 [yE])=true:=Z
theorem f14:Fn 5 [] [] (.bool true) []:=by
 have h16:Fn 18 [] [.agg (exC exE),.str [120]] (dfV (yE,0)) []:=by rw[<-aw_d];exact f16 exE [120] Sm_e OA
 have h36:Fn 19 [] [.agg (exC xEl),.sl .eqn flE] (dfV (opE 7 0 [yE],0)) []:=by
  rw[<-aw_a];refine f36 xEl flE Sm_x ?_ OA;intro q hq;simp only[q8,q7,or_false]at hq;rcases hq with rfl|rfl
  .exact⟨qg9 OA ⟨Sm_y,trivial⟩,OA⟩
  .exact⟨Sm_x,OA⟩
 have h22:Fn 21 [] [.agg (exC exE)] (.bool true) []:=by rw[<-aw_p];exact f22 exE Sm_e
 have hs1:Fn 20 [] [.agg (exC yE),.agg (exC yE)] (.bool true) []:=by rw[<-aw_s1];exact f19 yE yE
 have hs2:Fn 20 [] [.agg (exC (opE 7 0 [yE])),.agg (exC (opE 7 0 [yE]))] (.bool true) []:=by rw[<-aw_s2];exact f19 _ _
 refine fnT hT hmx Tryz.func5 rfl rfl (ex:= []) ?_;conv=>whnf
 refine gYn (f18 [120]) ?_;refine gYn (f18 [121]) ?_;refine gYn (f59 3) ?_;refine gYd ?_;refine gYn h16 ?_;refine gYn h36 ?_;refine gYn hs1 ?_;refine gYn hs2 ?_;refine gYn h22 ?_;exact⟨lr rfl,lh0⟩
