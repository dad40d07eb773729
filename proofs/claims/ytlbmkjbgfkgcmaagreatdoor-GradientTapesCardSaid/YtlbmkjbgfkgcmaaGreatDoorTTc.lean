/- The tape: valid operations. -/
import Derived.Test.YtlbmkjbgfkgcmaaGreatDoorTTa
set_option linter.all false
open And renaming intro->q2
open Bool renaming eq_iff_iff->q0,and_eq_true->q3,true_and->q4,true_or->qB,false_and->qC,false_or->qD
open List renaming drop_of_length_le->q1,any_cons->qA
namespace Go.Proofs.YtlbmkjbgfkgcmaaGreatDoor
open Go Go.Sx
set_option maxRecDepth 100000
set_option maxHeartbeats 8000000
def zjy(k:Int):Int:=if k=1 then 0 else if k=3\/k=4\/k=5\/k=6 then 2 else if k=7\/k=8\/k=9\/k=10\/k=11\/k=12\/k=13 then 1 else-1
theorem f129(k:Int):Fn 65 [] [.int .i64 k] (.int .i64 (zjy k)) []:=by
 refine fnT hT2 hmx Tryz.func65 rfl rfl (ex:= []) ?_;conv=>whnf
 repeat' first
  |(refine brI (fun h=>?_) (fun h=>?_)<;>(conv=>whnf))
  |refine q2 (ai0 ?_) lh0
  |fail
 all_goals (simp only[beq_iff_eq,beq_eq_false_iff_ne,ne_eq]at*;unfold zjy;repeat' split)
 all_goals first|rfl|omega
def ibO(a n:Int):Bool:=decide (0<=a)&&decide (a<n)
def tB(o:TOp)(n:Int):Bool:=
 if o.k=1 then(o.a==0&&(o.b==0&&(o.n==0&&rOk o.c)))
 else if o.k=3\/o.k=4\/o.k=5\/o.k=6 then(ibO o.a n&&(ibO o.b n&&(o.n==0&&(o.c.n==0&&o.c.d==0))))
 else if o.k=8 then(ibO o.a n&&(o.b==0&&(decide (0<=o.n)&&decide (o.n<=16)&&(o.c.n==0&&o.c.d==0))))
 else if o.k=7\/o.k=9\/o.k=10\/o.k=11\/o.k=12\/o.k=13 then(ibO o.a n&&(o.b==0&&(o.n==0&&(o.c.n==0&&o.c.d==0))))
 else false
theorem f132(r:Rt):Fn 134 [] [.agg [.int .i64 r.n,.int .i64 r.d]] (.bool (r.n==0&&r.d==0)) []:=by
 refine fnT hT2 hmx Tryz.func134 rfl rfl (ex:= []) ?_;conv=>whnf
 repeat' first
  |(refine brI (fun h=>?_) (fun h=>?_)<;>(conv=>whnf))
  |refine q2 (ab0 ?_) lh0
  |fail
 all_goals (simp only[beq_iff_eq,beq_eq_false_iff_ne,ne_eq]at*;simp[*])
theorem f81(o:TOp)(n:Int):Fn 107 [] [.agg (Elt.op.cells o),.int .i64 n] (.bool (tB o n)) []:=by
 obtain⟨k,a,b,p,⟨c,d⟩⟩:=o;have h129:=f129 k;by_cases h1:k=1
 .subst h1;have h54:=f54 c d;obtain⟨v,hv⟩:∃v,rOk ⟨c,d⟩=v:=⟨_,rfl⟩;rw[hv]at h54;refine fnT hT2 hmx Tryz.func107 rfl rfl (ex:= []) ?_;conv=>whnf
  refine⟨[],.int .i64 0,h129,?_⟩;conv=>whnf
  cases v with
  |false=>
   refine⟨[],.bool false,h54,?_⟩;conv=>whnf
   exact⟨ab0 (by simp[tB,hv]),lh0⟩
  |true=>
   refine⟨[],.bool true,h54,?_⟩;conv=>whnf
   exact⟨ab0 (by simp[tB,hv]),lh0⟩
 by_cases h2:k=3\/k=4\/k=5\/k=6
 .rw[show zjy k=2 by unfold zjy;rw[Z7 h1,Z6 h2]]at h129;refine fnT hT2 hmx Tryz.func107 rfl rfl (ex:= []) ?_;conv=>whnf
  refine⟨[],.int .i64 2,h129,?_⟩;conv=>whnf
  refine brI (fun h=>absurd (show k=8 by simpa using h) O) (fun _=>?_);conv=>whnf
  repeat' first
   |(refine brI (fun h=>?_) (fun h=>?_)<;>(conv=>whnf))
   |refine q2 (ab0 ?_) lh0
   |fail
  all_goals (simp only[Z4,Z5,beq_eq_false_iff_ne,beq_iff_eq,ne_eq]at*;rw[q0];simp[tB,ibO,h1,h2];try omega)
 by_cases h3:k=8
 .subst h3;rw[show zjy 8=1 from rfl]at h129;refine fnT hT2 hmx Tryz.func107 rfl rfl (ex:= []) ?_;conv=>whnf
  refine⟨[],.int .i64 1,h129,?_⟩;conv=>whnf
  repeat' first
   |(refine brI (fun h=>?_) (fun h=>?_)<;>(conv=>whnf))
   |refine q2 (ab0 ?_) lh0
   |fail
  all_goals (simp only[Z4,Z5,beq_eq_false_iff_ne,beq_iff_eq,ne_eq]at*;rw[q0];simp[tB,ibO];try omega)
 by_cases h4:k=7\/k=9\/k=10\/k=11\/k=12\/k=13
 .rw[show zjy k=1 by unfold zjy;rw[Z7 h1,Z7 h2,Z6 O]]at h129;refine fnT hT2 hmx Tryz.func107 rfl rfl (ex:= []) ?_;conv=>whnf
  refine⟨[],.int .i64 1,h129,?_⟩;conv=>whnf
  refine brI (fun h=>absurd (show k=8 by simpa using h) h3) (fun _=>?_);conv=>whnf
  repeat' first
   |(refine brI (fun h=>?_) (fun h=>?_)<;>(conv=>whnf))
   |refine q2 (ab0 ?_) lh0
   |fail
  all_goals (simp only[Z4,Z5,beq_eq_false_iff_ne,beq_iff_eq,ne_eq]at*;rw[q0];simp[tB,ibO,h1,h2,h3,h4];try omega)
 .rw[show zjy k= -1 by unfold zjy;rw[Z7 h1,Z7 h2,Z7 O]]at h129;refine fnT hT2 hmx Tryz.func107 rfl rfl (ex:= []) ?_;conv=>whnf
  refine⟨[],.int .i64 (-1),h129,?_⟩;conv=>whnf
  exact⟨ab0 (by simp[tB,h1,h2,h3,h4]),lh0⟩
noncomputable def qfw:Code:=Tryz.f70.body.getD .skip
theorem f84(o:TOp)(n:Int):Fn 70 [] [.agg (Elt.op.cells o),.int .i64 n] (.bool (tB o n)) []:=by
 obtain⟨k,a,b,p,⟨c,d⟩⟩:=o;have h132:=f132 ⟨c,d⟩;obtain⟨z,hz⟩:∃z,(c==0&&d==0)=z:=⟨_,rfl⟩;have h132:Fn 134 [] [.agg [.int .i64 c,.int .i64 d]] (.bool z) []:=by rw[<-hz];exact h132
 have h131:=f131 c d;obtain⟨v,hv⟩:∃v,rOk ⟨c,d⟩=v:=⟨_,rfl⟩;rw[hv]at h131;refine qr (code:=qfw) hT2 hmx Tryz.func70 rfl rfl (ex:= []) ?_;conv=>whnf
 refine jm hT2 hmx 3 (fun _:Unit=>⟨[.any,.int .i64 n,.ptr 2 0,.any,.any,.bool (ibO a n),.bool (ibO b n)]++uo 105,[(2,.cells [.int .i64 k,.int .i64 a,.int .i64 b,.int .i64 p,.int .i64 c,.int .i64 d])]⟩) (fun _=>Z) ?_ (fun _=>?_)
 .conv=>whnf
  refine brI (fun h1=>?_) (fun h1=>?_)
  .conv=>whnf
   refine brI (fun h2=>?_) (fun h2=>?_)
   .conv=>whnf
    refine⟨(),?_⟩
    ((conv=>whnf);refine q2 ?_ ?_;repeat' first|refine lc ?_ ?_|refine lh1 ?_ ?_|refine bc0 ?_|exact KXY|refine lg0 ?_|refine lt0 ?_)
    all_goals (refine ab0 ?_;simp only[Z4,Z5]at*;rw[q0];simp[ibO];try omega)
   .conv=>whnf
    refine⟨(),?_⟩
    ((conv=>whnf);refine q2 ?_ ?_;repeat' first|refine lc ?_ ?_|refine lh1 ?_ ?_|refine bc0 ?_|exact KXY|refine lg0 ?_|refine lt0 ?_)
    all_goals (refine ab0 ?_;simp only[Z4,Z5]at*;rw[q0];simp[ibO];try omega)
  .conv=>whnf
   refine brI (fun h2=>?_) (fun h2=>?_)
   .conv=>whnf
    refine⟨(),?_⟩
    ((conv=>whnf);refine q2 ?_ ?_;repeat' first|refine lc ?_ ?_|refine lh1 ?_ ?_|refine bc0 ?_|exact KXY|refine lg0 ?_|refine lt0 ?_)
    all_goals (refine ab0 ?_;simp only[Z4,Z5]at*;rw[q0];simp[ibO];try omega)
   .conv=>whnf
    refine⟨(),?_⟩
    ((conv=>whnf);refine q2 ?_ ?_;repeat' first|refine lc ?_ ?_|refine lh1 ?_ ?_|refine bc0 ?_|exact KXY|refine lg0 ?_|refine lt0 ?_)
    all_goals (refine ab0 ?_;simp only[Z4,Z5]at*;rw[q0];simp[ibO];try omega)
 obtain⟨A,hA⟩:∃A,ibO a n=A:=⟨_,rfl⟩;obtain⟨B,hB⟩:∃B,ibO b n=B:=⟨_,rfl⟩;rw[hA,hB];by_cases h1:k=1
 .subst h1;refine ww hT2 hmx ?_;conv=>whnf
  repeat' first
   |(refine brI (fun h=>?_) (fun h=>?_)<;>(conv=>whnf))
   |(refine gZn h131 ?_;(conv=>whnf))
   |refine q2 (ab0 ?_) lh0
   |fail
  all_goals (simp only[beq_eq_false_iff_ne,beq_iff_eq,ne_eq]at*;simp[tB, *])
 by_cases h2:k=3\/k=4\/k=5\/k=6
 .rcases h2 with rfl|rfl|rfl|rfl
  all_goals
   refine ww hT2 hmx ?_;conv=>whnf
   repeat' first
    |(refine brI (fun h=>?_) (fun h=>?_)<;>(conv=>whnf))
    |(refine gZn h132 ?_;(conv=>whnf))
    |refine q2 (ab0 ?_) lh0
    |fail
   all_goals (simp only[beq_eq_false_iff_ne,beq_iff_eq,ne_eq]at*;simp[tB, *])
 by_cases h3:k=8
 .subst h3;refine ww hT2 hmx ?_;conv=>whnf
  repeat' first
   |(refine brI (fun h=>?_) (fun h=>?_)<;>(conv=>whnf))
   |(refine gZn h132 ?_;(conv=>whnf))
   |refine q2 (ab0 ?_) lh0
   |fail
  all_goals (simp only[Z4,Z5,beq_eq_false_iff_ne,beq_iff_eq,ne_eq]at*;simp[tB, *])
 by_cases h4:k=7\/k=9\/k=10\/k=11\/k=12\/k=13
 .rcases h4 with rfl|rfl|rfl|rfl|rfl|rfl
  all_goals
   refine ww hT2 hmx ?_;conv=>whnf
   repeat' first
    |(refine brI (fun h=>?_) (fun h=>?_)<;>(conv=>whnf))
    |(refine gZn h132 ?_;(conv=>whnf))
    |refine q2 (ab0 ?_) lh0
    |fail
   all_goals (simp only[beq_eq_false_iff_ne,beq_iff_eq,ne_eq]at*;simp[tB, *])
 .refine ww hT2 hmx ?_;conv=>whnf
  refine brI (fun h=>absurd (show k=1 by simpa using h) h1) (fun _=>?_);conv=>whnf
  refine brI (fun h=>absurd (show k=3 by simpa using h) O) (fun _=>?_);conv=>whnf
  refine brI (fun h=>absurd (show k=4 by simpa using h) O) (fun _=>?_);conv=>whnf
  refine brI (fun h=>absurd (show k=5 by simpa using h) O) (fun _=>?_);conv=>whnf
  refine brI (fun h=>absurd (show k=6 by simpa using h) O) (fun _=>?_);conv=>whnf
  refine brI (fun h=>absurd (show k=7 by simpa using h) O) (fun _=>?_);conv=>whnf
  refine brI (fun h=>absurd (show k=9 by simpa using h) O) (fun _=>?_);conv=>whnf
  refine brI (fun h=>absurd (show k=10 by simpa using h) O) (fun _=>?_);conv=>whnf
  refine brI (fun h=>absurd (show k=11 by simpa using h) O) (fun _=>?_);conv=>whnf
  refine brI (fun h=>absurd (show k=12 by simpa using h) O) (fun _=>?_);conv=>whnf
  refine brI (fun h=>absurd (show k=13 by simpa using h) O) (fun _=>?_);conv=>whnf
  refine brI (fun h=>absurd (show k=8 by simpa using h) h3) (fun _=>?_);conv=>whnf
  exact⟨ab0 (by simp[tB,h1,h2,h3,h4]),lh0⟩
abbrev Ht(t:Tp):Hp:= [(1000003,.cells (tpC t))]
theorem qes(t:Tp){h h':Hp}:leH h h' (Ht t) (Ht t):=lh1 (bc0 (lc (lr rfl) (lc (lr rfl) (lc (lr rfl) ln0)))) lh0
def zh6(t:Tp)(k:Int):Bool:=decide (k<0)||decide (t.ins+t.ops.length<=k)
theorem f83(t:Tp)(k:Int)(ht:0<=t.ins/\t.ins<=8/\t.ops.length<=200):Fn 109 (Ht t) [.int .i64 k,.ptr 1000003 0] (.bool (zh6 t k)) (Ht t):=by
 refine fnT hT2 hmx Tryz.func109 rfl rfl (ex:= []) ?_;conv=>whnf
 refine brI (fun h=>?_) (fun h=>?_)
 .conv=>whnf
  refine⟨ab0 ?_,qes t⟩;simp only[Z4]at h;simp[zh6,h]
 .conv=>whnf
  refine⟨ab0 ?_,qes t⟩;simp only[Z5]at h;rw[wI O];simp[zh6,h]
theorem f130t(t:Tp)(ht:0<=t.ins/\t.ins<=8/\t.ops.length<=200)(l:List Int)(hlen:l.length<9223372036854775808):Fn 176 (Ht t) [.sl .int l,.fn 109 [.ptr 1000003 0]] (.int .i64 (ixP (zh6 t) l 0)) (Ht t):=by
 refine fnT hT2 hmx Tryz.func176 rfl rfl (ex:= []) ?_;conv=>whnf
 refine⟨Nat,fun i=>i<=l.length/\ixP (zh6 t) (l.drop i) i=ixP (zh6 t) l 0,fun i=> [(8,.int .i64 i)],fun _=> [],fun i=>l.length-i,0,⟨OC,rfl⟩,?_,fun i hi=>?_⟩
 .exact KZ0
 refine gYe ?_;obtain⟨hi1,hi2⟩:=hi;refine brI (fun h1=>?_) (fun h1=>?_)
 .conv=>whnf
  have hi:i<l.length:=by simp only[Z4]at h1;omega
  refine⟨⟨O,O⟩,fun x hx=>?_⟩;have hx:l[i]? =some x:=by simpa using hx
  have hm:=List.mem_of_getElem? hx;rw[qh hx]at hi2;simp only[ixP]at hi2;conv=>whnf
  refine cbI [.cells (tpC t)] ((zh6 t) x) (f83 t x ht) (fun h2=>?_) (fun h2=>?_)
  .conv=>whnf
   rw[Z6 h2]at hi2;exact⟨ai0 hi2,qes t⟩
  .conv=>whnf
   rw[Z7 (by rw[h2];simp)]at hi2;refine⟨i+1,⟨O,hi2⟩,by show l.length-(i+1)<l.length-i;omega,?_⟩;exact KZ0
 .conv=>whnf
  have hi:¬i<l.length:=by simp only[Z5]at h1;omega
  rw[q1 O]at hi2;exact⟨ai0 hi2,qes t⟩
theorem f82t(t:Tp)(ht:0<=t.ins/\t.ins<=8/\t.ops.length<=200)(l:List Int)(hlen:l.length<9223372036854775808):Fn 108 (Ht t) [.sl .int l,.fn 109 [.ptr 1000003 0]] (.bool (l.any (zh6 t))) (Ht t):=by
 refine fnT hT2 hmx Tryz.func108 rfl rfl (ex:= []) ?_;conv=>whnf
 refine⟨[.cells (tpC t)],_,f130t t ht l hlen,?_⟩;conv=>whnf
 exact⟨ab0 (by rw[q0,Z4];exact zgt (zh6 t) l 0),qes t⟩
def qe6(o:TOp):Bool:=decide (o.k>8)
def zfm:List TOp->Int->Bool
 | [],_=>true
 |o::l,n=>tB o n&&zfm l (n+1)
def tvB(t:Tp):Bool:=decide (0<=t.ins/\t.ins<=8/\t.ops.length<=200/\t.outs.length<=200)&&(zfm t.ops t.ins&& !t.outs.any (zh6 t))
theorem f41(t:Tp)(h1:t.ops.length<9223372036854775808)(h2:t.outs.length<9223372036854775808):Fn 62 [] [.agg (tpC t)] (.bool (tvB t)) []:=by
 obtain⟨V,hV⟩:∃V,tvB t=V:=⟨_,rfl⟩;rw[hV];unfold tvB at hV;refine fnT hT2 hmx Tryz.func62 rfl rfl (ex:= []) ?_;conv=>whnf
 refine brI (fun h=>?_) (fun h=>?_)
 .conv=>whnf
  exact⟨ab0 (by rw[<-hV];simp only[Z4]at h;simp;omega),lh0⟩
 have c1:¬t.ins<0:=by simpa using h
 conv=>whnf
 refine brI (fun h=>?_) (fun h=>?_)
 .conv=>whnf
  exact⟨ab0 (by rw[<-hV];simp only[Z4]at h;simp;omega),lh0⟩
 have c2:¬t.ins>8:=by simpa using h
 conv=>whnf
 refine brI (fun h=>?_) (fun h=>?_)
 .conv=>whnf
  exact⟨ab0 (by rw[<-hV];simp only[Z4]at h;simp;omega),lh0⟩
 have c3:¬(t.ops.length:Int)>200:=by simpa using h
 conv=>whnf
 refine brI (fun h=>?_) (fun h=>?_)
 .conv=>whnf
  exact⟨ab0 (by rw[<-hV];simp only[Z4]at h;simp;omega),lh0⟩
 have c4:¬(t.outs.length:Int)>200:=by simpa using h
 have ht:0<=t.ins/\t.ins<=8/\t.ops.length<=200:=O;rw[Z8 O,q4]at hV;conv=>whnf
 refine⟨Nat,fun i=>i<=t.ops.length/\zfm (t.ops.drop i) (t.ins+i)=zfm t.ops t.ins,fun i=> [(28,.int .i64 i)],fun _=> [],fun i=>t.ops.length-i,0,⟨OC,OC⟩,?_,fun i hi=>?_⟩
 .exact KZ0
 refine gYe ?_;obtain⟨hi1,hi2⟩:=hi;refine brI (fun h=>?_) (fun h=>?_)
 .conv=>whnf
  have hi:i<t.ops.length:=by simp only[Z4]at h;omega
  refine⟨⟨O,O⟩,fun x hx=>?_⟩;have hx:t.ops[i]? =some x:=by simpa using hx
  rw[qh hx]at hi2;simp only[zfm]at hi2;conv=>whnf
  have h81:Fn 107 [] [.agg (Elt.op.cells x),.int .i64 (IntKind.i64.wrap (t.ins+(i:Int)))] (.bool (tB x (t.ins+i))) []:=by
   rw[wI O];exact f81 x (t.ins+i)
  refine cbI [] (tB x (t.ins+i)) h81 (fun h5=>?_) (fun h5=>?_)
  .conv=>whnf
   rw[h5]at hi2;refine⟨i+1,⟨O,by rw[<-hi2,q4];congr 1;omega⟩,by show t.ops.length-(i+1)<t.ops.length-i;omega,?_⟩;exact KZ0
  .conv=>whnf
   rw[h5,qC]at hi2;exact⟨ab0 (by rw[<-hV,<-hi2];rfl),lh0⟩
 have hi:¬i<t.ops.length:=by simp only[Z5]at h;omega
 have hb:zfm t.ops t.ins=true:=by rw[<-hi2,q1 O];rfl
 rw[hb,q4]at hV;conv=>whnf
 refine cbI [.cells (tpC t)] (t.outs.any (zh6 t)) ((f82t t ht t.outs h2).sw [(1,1000003)] rfl) (fun h5=>?_) (fun h5=>?_)
 .conv=>whnf
  exact⟨ab0 (by rw[<-hV,h5]),lh0⟩
 .conv=>whnf
  exact⟨ab0 (by rw[<-hV,h5]),lh0⟩
theorem f42(t:Tp)(h1:t.ops.length<9223372036854775808)(h2:t.outs.length<9223372036854775808):Fn 36 [] [.agg (tpC t)] (.bool (tvB t)) []:=by
 obtain⟨V,hV⟩:∃V,tvB t=V:=⟨_,rfl⟩;rw[hV];unfold tvB at hV;refine fnT hT2 hmx Tryz.func36 rfl rfl (ex:= []) ?_;conv=>whnf
 refine brI (fun h=>?_) (fun h=>?_)
 .conv=>whnf
  exact⟨ab0 (by rw[<-hV];simp only[Z4]at h;simp;omega),lh0⟩
 have c1:¬t.ins<0:=by simpa using h
 conv=>whnf
 refine brI (fun h=>?_) (fun h=>?_)
 .conv=>whnf
  exact⟨ab0 (by rw[<-hV];simp only[Z4]at h;simp;omega),lh0⟩
 have c2:¬t.ins>8:=by simpa using h
 conv=>whnf
 refine brI (fun h=>?_) (fun h=>?_)
 .conv=>whnf
  exact⟨ab0 (by rw[<-hV];simp only[Z4]at h;simp;omega),lh0⟩
 have c3:¬(t.ops.length:Int)>200:=by simpa using h
 conv=>whnf
 refine brI (fun h=>?_) (fun h=>?_)
 .conv=>whnf
  exact⟨ab0 (by rw[<-hV];simp only[Z4]at h;simp;omega),lh0⟩
 have c4:¬(t.outs.length:Int)>200:=by simpa using h
 rw[Z8 O,q4]at hV;conv=>whnf
 refine⟨Nat,fun i=>i<=t.ops.length/\zfm (t.ops.drop i) (t.ins+i)=zfm t.ops t.ins,fun i=> [(3,.int .i64 i)],fun _=> [],fun i=>t.ops.length-i,0,⟨OC,OC⟩,?_,fun i hi=>?_⟩
 .exact KZ0
 refine gYe ?_;obtain⟨hi1,hi2⟩:=hi;refine brI (fun h=>?_) (fun h=>?_)
 .conv=>whnf
  have hi:i<t.ops.length:=by simp only[Z4]at h;omega
  refine⟨⟨O,O⟩,fun x hx=>?_⟩;have hx:t.ops[i]? =some x:=by simpa using hx
  rw[qh hx]at hi2;simp only[zfm]at hi2;conv=>whnf
  have h84:Fn 70 [] [.agg (Elt.op.cells x),.int .i64 (IntKind.i64.wrap (t.ins+(i:Int)))] (.bool (tB x (t.ins+i))) []:=by
   rw[wI O];exact f84 x (t.ins+i)
  refine cbI [] (tB x (t.ins+i)) h84 (fun h5=>?_) (fun h5=>?_)
  .conv=>whnf
   refine gYd ?_;rw[h5]at hi2;refine⟨i+1,⟨O,by rw[<-hi2,q4];congr 1;omega⟩,by show t.ops.length-(i+1)<t.ops.length-i;omega,?_⟩;exact KZ0
  .conv=>whnf
   refine gYd ?_;rw[h5,qC]at hi2;exact⟨ab0 (by rw[<-hV,<-hi2];rfl),lh0⟩
 have hi:¬i<t.ops.length:=by simp only[Z5]at h;omega
 have hb:zfm t.ops t.ins=true:=by rw[<-hi2,q1 O];rfl
 rw[hb,q4]at hV;clear hi1 hi2 h hi;conv=>whnf
 refine⟨Nat,fun i=>i<=t.outs.length/\(t.outs.drop i).any (zh6 t)=t.outs.any (zh6 t),fun i=> [(4,.int .i64 i)],fun _=> [],fun i=>t.outs.length-i,0,⟨OC,OC⟩,?_,fun i hi=>?_⟩
 .exact KZ0
 refine gYe ?_;obtain⟨hi1,hi2⟩:=hi;refine brI (fun h=>?_) (fun h=>?_)
 .conv=>whnf
  have hi:i<t.outs.length:=by simp only[Z4]at h;omega
  refine⟨⟨O,O⟩,fun(x:Int)hx=>?_⟩;have hx:t.outs[i]? =some x:=by simpa using hx
  rw[qh hx]at hi2;simp only[qA]at hi2;conv=>whnf
  refine brI (fun h5=>?_) (fun h5=>?_)
  .conv=>whnf
   refine gYd ?_;have h6:zh6 t x=true:=by
    have h5:decide (x<0)=true:=h5;simp only[Z4]at h5;simp[zh6,h5]
   rw[h6,qB]at hi2;exact⟨ab0 (by rw[<-hV,<-hi2];rfl),lh0⟩
  .conv=>whnf
   refine⟨⟨O,O⟩,fun y hy=>?_⟩;have hy:t.outs[i]? =some y:=by simpa using hy
   rw[hx]at hy;cases hy
   have h5:¬x<0:=by
    have h5:decide (x<0)=false:=h5;simpa using h5
   conv=>whnf
   refine gYd ?_;refine brI (fun h7=>?_) (fun h7=>?_)
   .conv=>whnf
    have h7:decide (x≥IntKind.i64.wrap (t.ins+(t.ops.length:Int)))=true:=h7;rw[wI O]at h7;simp only[Z4]at h7;have h6:zh6 t x=true:=by
     rw[zh6,Z8 (p:=t.ins+(t.ops.length:Int)<=x) O,Bool.or_true]
    rw[h6,qB]at hi2;exact⟨ab0 (by rw[<-hV,<-hi2];rfl),lh0⟩
   .conv=>whnf
    have h7:decide (x≥IntKind.i64.wrap (t.ins+(t.ops.length:Int)))=false:=h7;rw[wI O]at h7;simp only[Z5]at h7;have h6:zh6 t x=false:=by
     rw[zh6,Z9 (p:=t.ins+(t.ops.length:Int)<=x) O,Z9 (p:=x<0) h5];rfl
    rw[h6,qD]at hi2;refine⟨i+1,⟨O,hi2⟩,by show t.outs.length-(i+1)<t.outs.length-i;omega,?_⟩;exact KZ0
 .have hi:¬i<t.outs.length:=by simp only[Z5]at h;omega
  have hb:t.outs.any (zh6 t)=false:=by rw[<-hi2,q1 O];rfl
  conv=>whnf
  exact⟨ab0 (by rw[<-hV,hb];rfl),lh0⟩
def trB(t:Tp):Bool:=tvB t&& !t.ops.any qe6
def zq6(o:TOp):Bool:=o.k==9||(o.k==10||(o.k==11||(o.k==12||o.k==13)))
theorem zzv{o:TOp}{n:Int}(h:tB o n=true):qe6 o=zq6 o:=by
 have hk:o.k=1\/(o.k=3\/o.k=4\/o.k=5\/o.k=6)\/o.k=8\/(o.k=7\/o.k=9\/o.k=10\/o.k=11\/o.k=12\/o.k=13):=by
  unfold tB at h;by_cases h1:o.k=1
  .exact .inl h1
  .by_cases h2:o.k=3\/o.k=4\/o.k=5\/o.k=6
   .exact .inr (.inl h2)
   .by_cases h3:o.k=8
    .exact .inr (.inr (.inl h3))
    .by_cases h4:o.k=7\/o.k=9\/o.k=10\/o.k=11\/o.k=12\/o.k=13
     .exact .inr (.inr (.inr h4))
     .rw[Z7 h1,Z7 h2,Z7 h3,Z7 h4]at h;cases h
 rw[q0];simp[qe6,zq6];omega
theorem zoo:∀ {l:List TOp}{n:Int},zfm l n=true->l.any qe6=l.any zq6
 | [],_,_=>rfl
 |o::l,n,h=>by
  simp only[zfm,q3]at h;simp only[qA,zzv h.1,zoo h.2]
theorem qdk(t:Tp):(if t.ops.any zq6=true then false else tvB t)=trB t:=by
 unfold trB
 cases h:tvB t with
 |false=>simp
 |true=>
  have h2:=h;unfold tvB at h2;simp only[q3]at h2;rw[zoo h2.2.1];cases t.ops.any zq6<;>rfl
theorem f44(t:Tp)(h1:t.ops.length<9223372036854775808)(h2:t.outs.length<9223372036854775808):Fn 10 [] [.agg (tpC t)] (.bool (trB t)) []:=by
 obtain⟨V,hV⟩:∃V,trB t=V:=⟨_,rfl⟩;rw[hV];rw[<-qdk]at hV;refine fnT hT2 hmx Tryz.func10 rfl rfl (ex:= []) ?_;conv=>whnf
 refine⟨Nat,fun i=>i<=t.ops.length/\(t.ops.drop i).any zq6=t.ops.any zq6,fun i=> [(3,.int .i64 i)],fun _=> [],fun i=>t.ops.length-i,0,⟨OC,OC⟩,?_,fun i hi=>?_⟩
 .exact KZ0
 refine gYe ?_;obtain⟨hi1,hi2⟩:=hi;refine brI (fun h=>?_) (fun h=>?_)
 .conv=>whnf
  have hi:i<t.ops.length:=by simp only[Z4]at h;omega
  refine⟨⟨O,O⟩,fun x hx=>?_⟩;have hx:t.ops[i]? =some x:=by simpa using hx
  rw[qh hx]at hi2;simp only[qA]at hi2;conv=>whnf
  by_cases h6:zq6 x=true
  .rw[h6,qB]at hi2;rw[Z6 hi2.symm]at hV;simp only[zq6,Bool.or_eq_true,beq_iff_eq]at h6
   repeat' first
    |(refine brI (fun h=>?_) (fun h=>?_)<;>(conv=>whnf))
    |refine q2 (ab0 hV) lh0
    |fail
   simp only[beq_eq_false_iff_ne,ne_eq]at*;omega
  .have h6:zq6 x=false:=by simpa using h6
   rw[h6,qD]at hi2;simp only[zq6,Bool.or_eq_false_iff,beq_eq_false_iff_ne,ne_eq]at h6;obtain⟨g1,g2,g3,g4,g5⟩:=h6;refine brI (fun h=>absurd (by simpa using h) g1) (fun _=>?_);conv=>whnf
   refine brI (fun h=>absurd (by simpa using h) g2) (fun _=>?_);conv=>whnf
   refine brI (fun h=>absurd (by simpa using h) g3) (fun _=>?_);conv=>whnf
   refine brI (fun h=>absurd (by simpa using h) g4) (fun _=>?_);conv=>whnf
   refine brI (fun h=>absurd (by simpa using h) g5) (fun _=>?_);conv=>whnf
   refine⟨i+1,⟨O,hi2⟩,by show t.ops.length-(i+1)<t.ops.length-i;omega,?_⟩;exact KZ0
 .have hi:¬i<t.ops.length:=by simp only[Z5]at h;omega
  have hb:t.ops.any zq6=false:=by rw[<-hi2,q1 O];rfl
  rw[Z7 (by rw[hb];simp)]at hV;have h42:=f42 t h1 h2;rw[hV]at h42;conv=>whnf
  refine gYn h42 ?_;exact⟨lr rfl,lh0⟩
theorem zcd:∀ {l:List TOp}{n:Int}{j:Nat}{o:TOp},zfm l n=true->l[j]? =some o->tB o (n+j)=true
 | [],_,j,o,_,h=>by simp at h
 |x::l,n,0,o,hb,h=>by
  simp only[zfm,q3]at hb;simp at h;subst h;simpa using hb.1
 |x::l,n,j+1,o,hb,h=>by
  simp only[zfm,q3]at hb;have:=zcd hb.2 (by simpa using h);have e:n+((j+1:Nat):Int)=n+1+(j:Int):=O;rw[e];exact this
theorem zrk{o:TOp}{n:Int}(h:tB o n=true):(zjy o.k=0)\/(zjy o.k=1/\0<=o.a/\o.a<n)\/(zjy o.k=2/\(0<=o.a/\o.a<n)/\0<=o.b/\o.b<n):=by
 unfold tB at h;unfold zjy;by_cases h1:o.k=1
 .simp[h1]
 .by_cases h2:o.k=3\/o.k=4\/o.k=5\/o.k=6
  .rw[Z7 h1,Z6 h2]at h;simp only[ibO,q3,Z4]at h;rw[Z7 h1,Z6 h2];exact .inr (.inr ⟨rfl,h.1,h.2.1⟩)
  .by_cases h3:o.k=8
   .rw[Z7 h1,Z7 h2,Z6 h3]at h;simp only[ibO,q3,Z4]at h;rw[Z7 h1,Z7 h2,Z6 O];exact .inr (.inl ⟨rfl,h.1⟩)
   .by_cases h4:o.k=7\/o.k=9\/o.k=10\/o.k=11\/o.k=12\/o.k=13
    .rw[Z7 h1,Z7 h2,Z7 h3,Z6 h4]at h;simp only[ibO,q3,Z4]at h;rw[Z7 h1,Z7 h2,Z6 O];exact .inr (.inl ⟨rfl,h.1⟩)
    .rw[Z7 h1,Z7 h2,Z7 h3,Z7 h4]at h;cases h
