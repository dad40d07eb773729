/- The tape: valid operations. -/
import Derived.Test.YthbgbmdmimejiaaGreatDoorJTa
set_option linter.all false
open Bool renaming eq_iff_iff->q1,and_eq_true->q2,true_and->q6
open List renaming take_of_length_le->q0,drop_of_length_le->q3,take_add_one->q4,mem_of_getElem?->q5,any_cons->q7,any_nil->q8
namespace Go.Proofs.YthbgbmdmimejiaaGreatDoor
open Go Go.Sx
set_option maxRecDepth 100000
set_option maxHeartbeats 8000000
def zeb(k:Int):Int:=if k=1 then 0 else if k=3\/k=4\/k=5\/k=6 then 2 else if k=7\/k=8\/k=9\/k=10\/k=11\/k=12\/k=13 then 1 else-1
theorem f129(k:Int):Fn 40 [] [.int .i64 k] (.int .i64 (zeb k)) []:=by
 refine fnT hT2 hmx Tryz.func40 rfl rfl (ex:= []) ?_;conv=>whnf
 repeat' first
  |(refine brI (fun h=>?_) (fun h=>?_)<;>(conv=>whnf))
  |refine And.intro (ai0 ?_) lh0
  |fail
 all_goals (simp only[beq_iff_eq,beq_eq_false_iff_ne,ne_eq]at*;unfold zeb;repeat' split)
 all_goals first|rfl|omega
def ibO(a n:Int):Bool:=decide (0<=a)&&decide (a<n)
def tB(o:TOp)(n:Int):Bool:=
 if o.k=1 then(o.a==0&&(o.b==0&&(o.n==0&&rOk o.c)))
 else if o.k=3\/o.k=4\/o.k=5\/o.k=6 then(ibO o.a n&&(ibO o.b n&&(o.n==0&&(o.c.n==0&&o.c.d==0))))
 else if o.k=8 then(ibO o.a n&&(o.b==0&&(decide (0<=o.n)&&decide (o.n<=16)&&(o.c.n==0&&o.c.d==0))))
 else if o.k=7\/o.k=9\/o.k=10\/o.k=11\/o.k=12\/o.k=13 then(ibO o.a n&&(o.b==0&&(o.n==0&&(o.c.n==0&&o.c.d==0))))
 else false
theorem f81(o:TOp)(n:Int):Fn 43 [] [.agg (Elt.op.cells o),.int .i64 n] (.bool (tB o n)) []:=by
 obtain⟨k,a,b,p,⟨c,d⟩⟩:=o;have h129:=f129 k;by_cases h1:k=1
 .subst h1;have h54:=f54 c d;obtain⟨v,hv⟩:∃v,rOk ⟨c,d⟩=v:=⟨_,rfl⟩;rw[hv]at h54;refine fnT hT2 hmx Tryz.func43 rfl rfl (ex:= []) ?_;conv=>whnf
  refine⟨[],.int .i64 0,h129,?_⟩;conv=>whnf
  cases v with
  |false=>
   refine⟨[],.bool false,h54,?_⟩;conv=>whnf
   exact⟨ab0 (by simp[tB,hv]),lh0⟩
  |true=>
   refine⟨[],.bool true,h54,?_⟩;conv=>whnf
   exact⟨ab0 (by simp[tB,hv]),lh0⟩
 by_cases h2:k=3\/k=4\/k=5\/k=6
 .rw[show zeb k=2 by unfold zeb;rw[Z5 h1,Z4 h2]]at h129;refine fnT hT2 hmx Tryz.func43 rfl rfl (ex:= []) ?_;conv=>whnf
  refine⟨[],.int .i64 2,h129,?_⟩;conv=>whnf
  refine brI (fun h=>absurd (show k=8 by simpa using h) O) (fun _=>?_);conv=>whnf
  repeat' first
   |(refine brI (fun h=>?_) (fun h=>?_)<;>(conv=>whnf))
   |refine And.intro (ab0 ?_) lh0
   |fail
  all_goals (simp only[Z2,Z3,beq_eq_false_iff_ne,beq_iff_eq,ne_eq]at*;rw[q1];simp[tB,ibO,h1,h2];try omega)
 by_cases h3:k=8
 .subst h3;rw[show zeb 8=1 from rfl]at h129;refine fnT hT2 hmx Tryz.func43 rfl rfl (ex:= []) ?_;conv=>whnf
  refine⟨[],.int .i64 1,h129,?_⟩;conv=>whnf
  repeat' first
   |(refine brI (fun h=>?_) (fun h=>?_)<;>(conv=>whnf))
   |refine And.intro (ab0 ?_) lh0
   |fail
  all_goals (simp only[Z2,Z3,beq_eq_false_iff_ne,beq_iff_eq,ne_eq]at*;rw[q1];simp[tB,ibO];try omega)
 by_cases h4:k=7\/k=9\/k=10\/k=11\/k=12\/k=13
 .rw[show zeb k=1 by unfold zeb;rw[Z5 h1,Z5 h2,Z4 O]]at h129;refine fnT hT2 hmx Tryz.func43 rfl rfl (ex:= []) ?_;conv=>whnf
  refine⟨[],.int .i64 1,h129,?_⟩;conv=>whnf
  refine brI (fun h=>absurd (show k=8 by simpa using h) h3) (fun _=>?_);conv=>whnf
  repeat' first
   |(refine brI (fun h=>?_) (fun h=>?_)<;>(conv=>whnf))
   |refine And.intro (ab0 ?_) lh0
   |fail
  all_goals (simp only[Z2,Z3,beq_eq_false_iff_ne,beq_iff_eq,ne_eq]at*;rw[q1];simp[tB,ibO,h1,h2,h3,h4];try omega)
 .rw[show zeb k= -1 by unfold zeb;rw[Z5 h1,Z5 h2,Z5 O]]at h129;refine fnT hT2 hmx Tryz.func43 rfl rfl (ex:= []) ?_;conv=>whnf
  refine⟨[],.int .i64 (-1),h129,?_⟩;conv=>whnf
  exact⟨ab0 (by simp[tB,h1,h2,h3,h4]),lh0⟩
abbrev Ht(t:Tp):Hp:= [(1000003,.cells (tpC t))]
theorem qdr(t:Tp){h h':Hp}:leH h h' (Ht t) (Ht t):=lh1 (bc0 (lc (lr rfl) (lc (lr rfl) (lc (lr rfl) ln0)))) lh0
def zp7(t:Tp)(k:Int):Bool:=decide (k<0)||decide (t.ins+t.ops.length<=k)
theorem f83(t:Tp)(k:Int)(ht:0<=t.ins/\t.ins<=8/\t.ops.length<=200):Fn 45 (Ht t) [.int .i64 k,.ptr 1000003 0] (.bool (zp7 t k)) (Ht t):=by
 refine fnT hT2 hmx Tryz.func45 rfl rfl (ex:= []) ?_;conv=>whnf
 refine brI (fun h=>?_) (fun h=>?_)
 .conv=>whnf
  refine⟨ab0 ?_,qdr t⟩;simp only[Z2]at h;simp[zp7,h]
 .conv=>whnf
  refine⟨ab0 ?_,qdr t⟩;simp only[Z3]at h;rw[wI O];simp[zp7,h]
theorem f130t(t:Tp)(ht:0<=t.ins/\t.ins<=8/\t.ops.length<=200)(l:List Int)(hlen:l.length<9223372036854775808):Fn 82 (Ht t) [.sl .int l,.fn 45 [.ptr 1000003 0]] (.int .i64 (ixP (zp7 t) l 0)) (Ht t):=by
 refine fnT hT2 hmx Tryz.func82 rfl rfl (ex:= []) ?_;conv=>whnf
 refine⟨Nat,fun i=>i<=l.length/\ixP (zp7 t) (l.drop i) i=ixP (zp7 t) l 0,fun i=> [(8,.int .i64 i)],fun _=> [],fun i=>l.length-i,0,⟨OC,rfl⟩,?_,fun i hi=>?_⟩
 .exact KZ0
 refine gYe ?_;obtain⟨hi1,hi2⟩:=hi;refine brI (fun h1=>?_) (fun h1=>?_)
 .conv=>whnf
  have hi:i<l.length:=by simp only[Z2]at h1;omega
  refine⟨⟨O,O⟩,fun x hx=>?_⟩;have hx:l[i]? =some x:=by simpa using hx
  have hm:=q5 hx;rw[va hx]at hi2;simp only[ixP]at hi2;conv=>whnf
  refine cbI [.cells (tpC t)] ((zp7 t) x) (f83 t x ht) (fun h2=>?_) (fun h2=>?_)
  .conv=>whnf
   rw[Z4 h2]at hi2;exact⟨ai0 hi2,qdr t⟩
  .conv=>whnf
   rw[Z5 (by rw[h2];simp)]at hi2;refine⟨i+1,⟨O,hi2⟩,by show l.length-(i+1)<l.length-i;omega,?_⟩;exact KZ0
 .conv=>whnf
  have hi:¬i<l.length:=by simp only[Z3]at h1;omega
  rw[q3 O]at hi2;exact⟨ai0 hi2,qdr t⟩
theorem f82t(t:Tp)(ht:0<=t.ins/\t.ins<=8/\t.ops.length<=200)(l:List Int)(hlen:l.length<9223372036854775808):Fn 44 (Ht t) [.sl .int l,.fn 45 [.ptr 1000003 0]] (.bool (l.any (zp7 t))) (Ht t):=by
 refine fnT hT2 hmx Tryz.func44 rfl rfl (ex:= []) ?_;conv=>whnf
 refine⟨[.cells (tpC t)],_,f130t t ht l hlen,?_⟩;conv=>whnf
 exact⟨ab0 (by rw[q1,Z2];exact za6 (zp7 t) l 0),qdr t⟩
def zwc(o:TOp):Bool:=decide (o.k>8)
theorem f86(o:TOp):Fn 77 [] [.agg (Elt.op.cells o)] (.bool (zwc o)) []:=by
 refine fnT hT2 hmx Tryz.func77 rfl rfl (ex:= []) ?_;conv=>whnf
 exact⟨ab0 rfl,lh0⟩
theorem f133t(l:List TOp)(hlen:l.length<9223372036854775808):Fn 119 [] [.sl .op l,.fn 77 []] (.int .i64 (ixP zwc l 0)) []:=by
 refine fnT hT2 hmx Tryz.func119 rfl rfl (ex:= []) ?_;conv=>whnf
 refine⟨Nat,fun i=>i<=l.length/\ixP zwc (l.drop i) i=ixP zwc l 0,fun i=> [(8,.int .i64 i)],fun _=> [],fun i=>l.length-i,0,⟨OC,rfl⟩,?_,fun i hi=>?_⟩
 .exact KZ0
 refine gYe ?_;obtain⟨hi1,hi2⟩:=hi;refine brI (fun h1=>?_) (fun h1=>?_)
 .conv=>whnf
  have hi:i<l.length:=by simp only[Z2]at h1;omega
  refine⟨⟨O,O⟩,fun x hx=>?_⟩;have hx:l[i]? =some x:=by simpa using hx
  have hm:=q5 hx;rw[va hx]at hi2;simp only[ixP]at hi2;conv=>whnf
  refine cbI [] (zwc x) (f86 x) (fun h2=>?_) (fun h2=>?_)
  .conv=>whnf
   rw[Z4 h2]at hi2;exact⟨ai0 hi2,lh0⟩
  .conv=>whnf
   rw[Z5 (by rw[h2];simp)]at hi2;refine⟨i+1,⟨O,hi2⟩,by show l.length-(i+1)<l.length-i;omega,?_⟩;exact KZ0
 .conv=>whnf
  have hi:¬i<l.length:=by simp only[Z3]at h1;omega
  rw[q3 O]at hi2;exact⟨ai0 hi2,lh0⟩
theorem f85t(l:List TOp)(hlen:l.length<9223372036854775808):Fn 76 [] [.sl .op l,.fn 77 []] (.bool (l.any zwc)) []:=by
 refine fnT hT2 hmx Tryz.func76 rfl rfl (ex:= []) ?_;conv=>whnf
 refine gYn (f133t l hlen) ?_;exact⟨ab0 (by rw[q1,Z2];exact za6 zwc l 0),lh0⟩
def zdv:List TOp->Int->Bool
 | [],_=>true
 |o::l,n=>tB o n&&zdv l (n+1)
def tvB(t:Tp):Bool:=decide (0<=t.ins/\t.ins<=8/\t.ops.length<=200/\t.outs.length<=200)&&(zdv t.ops t.ins&& !t.outs.any (zp7 t))
theorem f41(t:Tp)(h1:t.ops.length<9223372036854775808)(h2:t.outs.length<9223372036854775808):Fn 12 [] [.agg (tpC t)] (.bool (tvB t)) []:=by
 obtain⟨V,hV⟩:∃V,tvB t=V:=⟨_,rfl⟩;rw[hV];unfold tvB at hV;refine fnT hT2 hmx Tryz.func12 rfl rfl (ex:= []) ?_;conv=>whnf
 refine brI (fun h=>?_) (fun h=>?_)
 .conv=>whnf
  exact⟨ab0 (by rw[<-hV];simp only[Z2]at h;simp;omega),lh0⟩
 have c1:¬t.ins<0:=by simpa using h
 conv=>whnf
 refine brI (fun h=>?_) (fun h=>?_)
 .conv=>whnf
  exact⟨ab0 (by rw[<-hV];simp only[Z2]at h;simp;omega),lh0⟩
 have c2:¬t.ins>8:=by simpa using h
 conv=>whnf
 refine brI (fun h=>?_) (fun h=>?_)
 .conv=>whnf
  exact⟨ab0 (by rw[<-hV];simp only[Z2]at h;simp;omega),lh0⟩
 have c3:¬(t.ops.length:Int)>200:=by simpa using h
 conv=>whnf
 refine brI (fun h=>?_) (fun h=>?_)
 .conv=>whnf
  exact⟨ab0 (by rw[<-hV];simp only[Z2]at h;simp;omega),lh0⟩
 have c4:¬(t.outs.length:Int)>200:=by simpa using h
 have ht:0<=t.ins/\t.ins<=8/\t.ops.length<=200:=O;rw[Z6 O,q6]at hV;conv=>whnf
 refine⟨Nat,fun i=>i<=t.ops.length/\zdv (t.ops.drop i) (t.ins+i)=zdv t.ops t.ins,fun i=> [(28,.int .i64 i)],fun _=> [],fun i=>t.ops.length-i,0,⟨OC,OC⟩,?_,fun i hi=>?_⟩
 .exact KZ0
 refine gYe ?_;obtain⟨hi1,hi2⟩:=hi;refine brI (fun h=>?_) (fun h=>?_)
 .conv=>whnf
  have hi:i<t.ops.length:=by simp only[Z2]at h;omega
  refine⟨⟨O,O⟩,fun x hx=>?_⟩;have hx:t.ops[i]? =some x:=by simpa using hx
  rw[va hx]at hi2;simp only[zdv]at hi2;conv=>whnf
  have h81:Fn 43 [] [.agg (Elt.op.cells x),.int .i64 (IntKind.i64.wrap (t.ins+(i:Int)))] (.bool (tB x (t.ins+i))) []:=by
   rw[wI O];exact f81 x (t.ins+i)
  refine cbI [] (tB x (t.ins+i)) h81 (fun h5=>?_) (fun h5=>?_)
  .conv=>whnf
   rw[h5]at hi2;refine⟨i+1,⟨O,by rw[<-hi2,q6];congr 1;omega⟩,by show t.ops.length-(i+1)<t.ops.length-i;omega,?_⟩;exact KZ0
  .conv=>whnf
   rw[h5,Bool.false_and]at hi2;exact⟨ab0 (by rw[<-hV,<-hi2];rfl),lh0⟩
 have hi:¬i<t.ops.length:=by simp only[Z3]at h;omega
 have hb:zdv t.ops t.ins=true:=by rw[<-hi2,q3 O];rfl
 rw[hb,q6]at hV;conv=>whnf
 refine cbI [.cells (tpC t)] (t.outs.any (zp7 t)) ((f82t t ht t.outs h2).sw [(1,1000003)] rfl) (fun h5=>?_) (fun h5=>?_)
 .conv=>whnf
  exact⟨ab0 (by rw[<-hV,h5]),lh0⟩
 .conv=>whnf
  exact⟨ab0 (by rw[<-hV,h5]),lh0⟩
def trB(t:Tp):Bool:=tvB t&& !t.ops.any zwc
theorem f43(t:Tp)(h1:t.ops.length<9223372036854775808)(h2:t.outs.length<9223372036854775808):Fn 38 [] [.agg (tpC t)] (.bool (trB t)) []:=by
 refine fnT hT2 hmx Tryz.func38 rfl rfl (ex:= []) ?_;conv=>whnf
 refine cbI [] (tvB t) (f41 t h1 h2) (fun h=>?_) (fun h=>?_)
 .conv=>whnf
  refine cbI [] (t.ops.any zwc) (f85t t.ops h1) (fun h5=>?_) (fun h5=>?_)
  .conv=>whnf
   exact⟨ab0 (by simp[trB,h,h5]),lh0⟩
  .conv=>whnf
   exact⟨ab0 (by simp[trB,h,h5]),lh0⟩
 .conv=>whnf
  exact⟨ab0 (by simp[trB,h]),lh0⟩
theorem zc1:∀ {l:List TOp}{n:Int}{j:Nat}{o:TOp},zdv l n=true->l[j]? =some o->tB o (n+j)=true
 | [],_,j,o,_,h=>by simp at h
 |x::l,n,0,o,hb,h=>by
  simp only[zdv,q2]at hb;simp at h;subst h;simpa using hb.1
 |x::l,n,j+1,o,hb,h=>by
  simp only[zdv,q2]at hb;have:=zc1 hb.2 (by simpa using h);have e:n+((j+1:Nat):Int)=n+1+(j:Int):=O;rw[e];exact this
theorem ze8{o:TOp}{n:Int}(h:tB o n=true):(zeb o.k=0)\/(zeb o.k=1/\0<=o.a/\o.a<n)\/(zeb o.k=2/\(0<=o.a/\o.a<n)/\0<=o.b/\o.b<n):=by
 unfold tB at h;unfold zeb;by_cases h1:o.k=1
 .simp[h1]
 .by_cases h2:o.k=3\/o.k=4\/o.k=5\/o.k=6
  .rw[Z5 h1,Z4 h2]at h;simp only[ibO,q2,Z2]at h;rw[Z5 h1,Z4 h2];exact .inr (.inr ⟨rfl,h.1,h.2.1⟩)
  .by_cases h3:o.k=8
   .rw[Z5 h1,Z5 h2,Z4 h3]at h;simp only[ibO,q2,Z2]at h;rw[Z5 h1,Z5 h2,Z4 O];exact .inr (.inl ⟨rfl,h.1⟩)
   .by_cases h4:o.k=7\/o.k=9\/o.k=10\/o.k=11\/o.k=12\/o.k=13
    .rw[Z5 h1,Z5 h2,Z5 h3,Z4 h4]at h;simp only[ibO,q2,Z2]at h;rw[Z5 h1,Z5 h2,Z4 O];exact .inr (.inl ⟨rfl,h.1⟩)
    .rw[Z5 h1,Z5 h2,Z5 h3,Z5 h4]at h;cases h
theorem f78(s:zp):Fn 34 [] [.str s] (.agg (exC (zup s))) []:=by
 refine fnT hT2 hmx Tryz.func34 rfl rfl (ex:= []) ?_;conv=>whnf
 exact⟨lg0 (lc (lr rfl) (lc (lr rfl) (lc (lr rfl) (lc (lr rfl) (lc (lr rfl) (lc (li0 rfl) ln0)))))),lh0⟩
theorem f77(k:Int)(a b:Ex):Fn 33 [] [.int .i64 k,.agg (exC a),.agg (exC b)] (.agg (exC (opE k 0 [a,b]))) []:=by
 cases a
 cases b
 refine fnT hT2 hmx Tryz.func33 rfl rfl (ex:= []) ?_;conv=>whnf
 exact⟨lr rfl,lh0⟩
theorem f79(l m:List TOp)(hl:l.length<9223372036854775808):Fn 36 [] [.sl .op l,.sl .op m] (.bool (decide (l=m))) []:=by
 refine fnT hT2 hmx Tryz.func36 rfl rfl (ex:= []) ?_;conv=>whnf
 refine brI (fun h1=>?_) (fun h1=>?_)
 .conv=>whnf
  have h1:l.length≠m.length:=by simp only[bne_iff_ne,ne_eq]at h1;omega
  exact⟨ab0 (Z7 (p:=l=m) fun e=>h1 (by rw[e])).symm,lh0⟩
 have h1:l.length=m.length:=by simp only[bne_eq_false_iff_eq]at h1;omega
 conv=>whnf
 refine⟨Nat,fun i=>i<=l.length/\l.take i=m.take i,fun i=> [(13,.int .i64 i)],fun _=> [],fun i=>l.length-i,0,⟨O,OC⟩,?_,fun i hi=>?_⟩
 .exact KZ0
 refine gYe ?_;obtain⟨hi1,hi2⟩:=hi;refine brI (fun h2=>?_) (fun h2=>?_)
 .conv=>whnf
  have hi:i<l.length:=by simp only[Z2]at h2;omega
  refine⟨⟨O,O⟩,fun(x:TOp)hx=>?_⟩;have hx:l[i]? =some x:=by simpa using hx
  conv=>whnf
  refine⟨⟨O,O⟩,fun(y:TOp)hy=>?_⟩;have hy:m[i]? =some y:=by simpa using hy
  conv=>whnf
  refine gYd ?_;refine brI (fun h3=>?_) (fun h3=>?_)
  .conv=>whnf
   have h3:x≠y:=by
    intro e;subst e;simp at h3
   refine⟨ab0 (Z7 (p:=l=m) fun e=>h3 ?_).symm,lh0⟩;rw[e,hy]at hx;exact(Option.some.inj hx).symm
  .conv=>whnf
   have h3:x=y:=by
    obtain⟨k,a,b,p,⟨c,d⟩⟩:=x;obtain⟨k',a',b',p',⟨c',d'⟩⟩:=y;simpa using h3
   refine⟨i+1,⟨O,?_⟩,by show l.length-(i+1)<l.length-i;omega,?_⟩
   .rw[q4,q4,hi2,hx,hy,h3]
   .exact KZ0
 .conv=>whnf
  have hi:¬i<l.length:=by simp only[Z3]at h2;omega
  rw[q0 O,q0 O]at hi2;exact⟨ab0 (Z6 hi2).symm,lh0⟩
theorem f80(l m:List Int)(hl:l.length<9223372036854775808):Fn 37 [] [.sl .int l,.sl .int m] (.bool (decide (l=m))) []:=by
 refine fnT hT2 hmx Tryz.func37 rfl rfl (ex:= []) ?_;conv=>whnf
 refine brI (fun h1=>?_) (fun h1=>?_)
 .conv=>whnf
  have h1:l.length≠m.length:=by simp only[bne_iff_ne,ne_eq]at h1;omega
  exact⟨ab0 (Z7 (p:=l=m) fun e=>h1 (by rw[e])).symm,lh0⟩
 have h1:l.length=m.length:=by simp only[bne_eq_false_iff_eq]at h1;omega
 conv=>whnf
 refine⟨Nat,fun i=>i<=l.length/\l.take i=m.take i,fun i=> [(13,.int .i64 i)],fun _=> [],fun i=>l.length-i,0,⟨O,OC⟩,?_,fun i hi=>?_⟩
 .exact KZ0
 refine gYe ?_;obtain⟨hi1,hi2⟩:=hi;refine brI (fun h2=>?_) (fun h2=>?_)
 .conv=>whnf
  have hi:i<l.length:=by simp only[Z2]at h2;omega
  refine⟨⟨O,O⟩,fun(x:Int)hx=>?_⟩;have hx:l[i]? =some x:=by simpa using hx
  conv=>whnf
  refine⟨⟨O,O⟩,fun(y:Int)hy=>?_⟩;have hy:m[i]? =some y:=by simpa using hy
  conv=>whnf
  refine gYd ?_;refine brI (fun h3=>?_) (fun h3=>?_)
  .conv=>whnf
   have h3:x≠y:=by
    intro e;subst e;simp at h3
   refine⟨ab0 (Z7 (p:=l=m) fun e=>h3 ?_).symm,lh0⟩;rw[e,hy]at hx;exact(Option.some.inj hx).symm
  .conv=>whnf
   have h3:x=y:=by
    simpa using h3
   refine⟨i+1,⟨O,?_⟩,by show l.length-(i+1)<l.length-i;omega,?_⟩
   .rw[q4,q4,hi2,hx,hy,h3]
   .exact KZ0
 .conv=>whnf
  have hi:¬i<l.length:=by simp only[Z3]at h2;omega
  rw[q0 O,q0 O]at hi2;exact⟨ab0 (Z6 hi2).symm,lh0⟩
abbrev awX:Ex:=opE 5 0 [zup [120],zup [121]]
abbrev awU:Ex:=zzc ⟨1,1⟩
abbrev awA:Ex:=opE 3 0 [awX,awX]
abbrev awB:Ex:=opE 4 0 [awU,awX]
abbrev awN:List zp:= [[120],[121]]
abbrev awO:List TOp:= [⟨5,0,1,0,⟨0,0⟩⟩,⟨3,2,2,0,⟨0,0⟩⟩,⟨1,0,0,0,⟨1,1⟩⟩,⟨4,4,2,0,⟨0,0⟩⟩]
abbrev awT:Tp:=⟨2,awO,[3,5]⟩
theorem zxp{ns:List zp}{e:Ex}(h:okT e=true):zvp ns e=false<->∀y∈zjt e,y.k=2->y.s∈ns:=by
 unfold zvp;rw[List.any_eq_false];have key:∀s:zp,¬zqc ns s=true<->s∈ns:=fun s=>by
  unfold zqc;rw[Bool.not_eq_true',Bool.not_eq_false,List.any_eq_true];constructor
  .rintro⟨x,hx,he⟩;have:s=x:=by simpa[eqS]using he
   rw[this];exact hx
  .intro hs;exact⟨s,hs,by simp[eqS]⟩
 constructor
 .intro h1 y hy h2;exact(key _).1 (h1 y.s ((zsm h).2 ⟨y,hy,h2,rfl⟩))
 .intro h1 s hs;obtain⟨y,hy,h2,rfl⟩:=(zsm h).1 hs;exact(key _).2 (h1 y hy h2)
theorem zt3:okT awA=true:=OB
theorem zt2:okT awB=true:=OB
theorem aw_cp:cpE [awA,awB] awN=(awT,0):=by
 unfold cpE;rw[Z5 (by simp only[q7,q8,zox,zt3,zt2];decide+kernel),Z5 OA,Z5 OB,Z5 ?_,Z5 OB]
 .kernel_rfl
 .simp only[q7,q8,Bool.or_false,Bool.or_eq_true,Bool.not_eq_true,not_or];refine⟨(zxp zt3).2 ?_,(zxp zt2).2 ?_⟩
  .decide+kernel
  .decide+kernel
theorem f40:Fn 10 [] [] (.bool true) []:=by
 have h46:=f46 [awA,awB] awN (fun x hx=>by
  simp only[List.mem_cons,List.not_mem_nil,or_false]at hx;rcases hx with rfl|rfl
  .exact qe9 (zni zt3)
  .exact qe9 (zni zt2)) OA OA OA
 rw[aw_cp]at h46;have h41:=f41 awT OA OA;have h43:=f43 awT OA OA;rw[(OB:tvB awT=true)]at h41;rw[(OB:trB awT=true)]at h43;have h79:=f79 awO awO OA;have h80:=f80 [3,5] [3,5] OA;rw[Z6 rfl]at h79 h80;refine fnT hT2 hmx Tryz.func10 rfl rfl (ex:= []) ?_;conv=>whnf
 refine gYn (f78 [120]) ?_;refine gYn (f78 [121]) ?_;refine gYn (f77 5 (zup [120]) (zup [121])) ?_;refine gYn (f77 3 awX awX) ?_;refine gYn (nil2 (k:=1) (q:=⟨1,1⟩) (s:= []) (p:=0) (f77 4 awU awX)) ?_;refine gYn h46 ?_;refine gYd ?_;refine gYn h79 ?_;refine gYn h80 ?_;refine gYn h41 ?_;refine gYn h43 ?_;exact⟨lr rfl,lh0⟩
theorem zqg(a b:TOp):zn0 .op a b=decide (a=b):=by
 rw[q1,Z2];exact beq_iff_eq (α:=TOp)
theorem zz0(x y:TOp)(r z:Int):∀es:List (TOp×Int),zjc .op x z (zed .op y r es)=if x=y then r else zjc .op x z es
 | []=>by
   by_cases h:x=y
   .subst h;simp[zed,zjc,zqg]
   .simp[zed,zjc,zqg,h]
 |(w,v)::l=>by
  have ih:=zz0 x y r z l;by_cases h:y=w
  .subst h;by_cases h2:x=y
   .subst h2;simp[zed,zjc,zqg]
   .simp[zed,zjc,zqg,h2]
  .by_cases h2:x=w
   .subst h2;have h':¬x=y:=fun e=>h e.symm
    simp[zed,zjc,zqg,h,h']
   .simp[zed,zjc,zqg,h,h2];simpa using ih
theorem zsl(x y:TOp)(r:Int):∀es:List (TOp×Int),zdo .op x (zed .op y r es)=(decide (x=y)||zdo .op x es)
 | []=>by
   by_cases h:x=y
   .subst h;simp[zed,zdo,zqg]
   .simp[zed,zdo,zqg,h]
 |(w,v)::l=>by
  have ih:=zsl x y r l;by_cases h:y=w
  .subst h;by_cases h2:x=y
   .subst h2;simp[zed,zdo,zqg]
   .simp[zed,zdo,zqg,h2]
  .by_cases h2:x=w
   .subst h2;simp[zed,zdo,zqg,h]
   .simp[zed,zdo,zqg,h,h2];simpa using ih
def BInv(ins:Int)(st:BS):Prop:=zdv st.1 ins=true/\(∀x,zdo .op x st.2=true->∃j:Nat,st.1[j]? =some x/\zjc .op x 0 st.2=ins+j)/\∀x∈st.1,zdo .op x st.2=true
theorem znf:∀(l:List TOp)(n:Int)(x:TOp),zdv (l++ [x]) n=(zdv l n&&tB x (n+l.length))
 | [],n,x=>by simp[zdv]
 |o::l,n,x=>by
  simp only[List.cons_append,zdv,znf l,List.length_cons,Bool.and_assoc];have e:n+1+(l.length:Int)=n+((l.length+1:Nat):Int):=O;rw[e]
theorem zzf{ins:Int}{x:TOp}{st:BS}(h:BInv ins st)(hx:tB x (ins+st.1.length)=true):
 BInv ins (zdu ins x st).2/\(∃tl,(zdu ins x st).2.1=st.1++tl)/\∃j:Nat,(zdu ins x st).1=ins+j/\(zdu ins x st).2.1[j]? =some x:=by
 obtain⟨h1,h2,h3⟩:=h;unfold zdu
 cases hh:zdo .op x st.2 with
 |true=>
  obtain⟨j,h4,h5⟩:=h2 x hh;simp only[if_true];exact⟨⟨h1,h2,h3⟩,⟨[],OC⟩,j,h5,h4⟩
 |false=>
  simp only[Bool.false_eq_true,if_false];refine⟨⟨?_,fun y hy=>?_,fun y hy=>?_⟩,⟨[x],rfl⟩,st.1.length,rfl,OC⟩
  .simp only;rw[znf,h1,hx];rfl
  .simp only at hy⊢;rw[zsl]at hy;rw[zz0];by_cases e:y=x
   .subst e;exact⟨st.1.length,OC,OC⟩
   .have hy:zdo .op y st.2=true:=by simpa[e]using hy
    obtain⟨j,h4,h5⟩:=h2 y hy;refine⟨j,?_,by simp[e,h5]⟩;rw[List.getElem?_append_left (List.getElem?_eq_some_iff.1 h4).1];exact h4
  .simp only at hy⊢;rw[zsl];rcases List.mem_append.1 hy with hy|hy
   .rw[h3 y hy,Bool.or_true]
   .have:y=x:=by simpa using hy
    simp[this]
