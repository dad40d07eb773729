/-
  The tape: valid operations.
-/
import Derived.Test.YtlocddfailmnpaaGreatDoorQTa
import Derived.Test.YtlocddfailmnpaaGreatDoorQUa
import Derived.Test.YtlocddfailmnpaaGreatDoorQVa
import Derived.Test.YtlocddfailmnpaaGreatDoorQWx
import Derived.Test.YtlocddfailmnpaaGreatDoorQUb
set_option linter.unusedVariables false
set_option linter.unusedSimpArgs false
namespace Go.Proofs.YtlocddfailmnpaaGreatDoor
open Go Go.Sx
set_option maxRecDepth 100000
set_option maxHeartbeats 8000000
def zgd (k:Int):Int:=if k=1 then 0 else if k=3∨k=4∨k=5∨k=6 then 2 else if k=7∨k=8∨k=9∨k=10∨k=11∨k=12∨k=13 then 1 else-1
theorem f129 (k:Int):Fn 29 [] [.int .i64 k] (.int .i64 (zgd k)) []:=by
 refine fnT hT2 hmx Tryz.func29 rfl rfl (ex:= []) ?_;conv=>whnf
 repeat' first
  |(refine brI (fun h=>?_) (fun h=>?_)<;>(conv=>whnf))
  |refine And.intro (ai0 ?_) lh0
  |fail
 all_goals (simp only[beq_iff_eq,beq_eq_false_iff_ne,ne_eq]at*;unfold zgd;repeat' split)
 all_goals first|rfl|omega
def ibO (a n:Int):Bool:=decide (0≤a)&&decide (a<n)
def tB (o:TOp) (n:Int):Bool:=
 if o.k=1 then(o.a==0&&(o.b==0&&(o.n==0&&rOk o.c)))
 else if o.k=3∨o.k=4∨o.k=5∨o.k=6 then(ibO o.a n&&(ibO o.b n&&(o.n==0&&(o.c.n==0&&o.c.d==0))))
 else if o.k=8 then(ibO o.a n&&(o.b==0&&(decide (0≤o.n)&&decide (o.n≤16)&&(o.c.n==0&&o.c.d==0))))
 else if o.k=7∨o.k=9∨o.k=10∨o.k=11∨o.k=12∨o.k=13 then(ibO o.a n&&(o.b==0&&(o.n==0&&(o.c.n==0&&o.c.d==0))))
 else false
theorem f132 (r:Rt):Fn 77 [] [.agg [.int .i64 r.n,.int .i64 r.d]] (.bool (r.n==0&&r.d==0)) []:=by
 refine fnT hT2 hmx Tryz.func77 rfl rfl (ex:= []) ?_;conv=>whnf
 repeat' first
  |(refine brI (fun h=>?_) (fun h=>?_)<;>(conv=>whnf))
  |refine And.intro (ab0 ?_) lh0
  |fail
 all_goals (simp only[beq_iff_eq,beq_eq_false_iff_ne,ne_eq]at*;simp[*])
theorem f81 (o:TOp) (n:Int):Fn 66 [] [.agg (Elt.op.cells o),.int .i64 n] (.bool (tB o n)) []:=by
 obtain⟨k,a,b,p,⟨c,d⟩⟩:=o
 have h129:=f129 k
 by_cases h1:k=1
 ·subst h1
  have h54:=f54 c d
  obtain⟨v,hv⟩: ∃v,rOk ⟨c,d⟩=v:=⟨_,rfl⟩
  rw[hv]at h54
  refine fnT hT2 hmx Tryz.func66 rfl rfl (ex:= []) ?_;conv=>whnf
  refine⟨[],.int .i64 0,h129,?_⟩;conv=>whnf
  cases v with
  |false=>
   refine⟨[],.bool false,h54,?_⟩;conv=>whnf
   exact⟨ab0 (by simp[tB,hv]),lh0⟩
  |true=>
   refine⟨[],.bool true,h54,?_⟩;conv=>whnf
   exact⟨ab0 (by simp[tB,hv]),lh0⟩
 by_cases h2:k=3∨k=4∨k=5∨k=6
 ·rw[show zgd k=2 by unfold zgd;rw[if_neg h1,if_pos h2]]at h129
  refine fnT hT2 hmx Tryz.func66 rfl rfl (ex:= []) ?_;conv=>whnf
  refine⟨[],.int .i64 2,h129,?_⟩;conv=>whnf
  refine brI (fun h=>absurd (show k=8 by simpa using h) (by omega)) (fun _=>?_)
  conv=>whnf
  repeat' first
   |(refine brI (fun h=>?_) (fun h=>?_)<;>(conv=>whnf))
   |refine And.intro (ab0 ?_) lh0
   |fail
  all_goals (simp only[decide_eq_true_eq,decide_eq_false_iff_not,beq_eq_false_iff_ne,beq_iff_eq,ne_eq]at*;rw[Bool.eq_iff_iff];simp[tB,ibO,h1,h2];try omega)
 by_cases h3:k=8
 ·subst h3
  rw[show zgd 8=1 from rfl]at h129
  refine fnT hT2 hmx Tryz.func66 rfl rfl (ex:= []) ?_;conv=>whnf
  refine⟨[],.int .i64 1,h129,?_⟩;conv=>whnf
  repeat' first
   |(refine brI (fun h=>?_) (fun h=>?_)<;>(conv=>whnf))
   |refine And.intro (ab0 ?_) lh0
   |fail
  all_goals (simp only[decide_eq_true_eq,decide_eq_false_iff_not,beq_eq_false_iff_ne,beq_iff_eq,ne_eq]at*;rw[Bool.eq_iff_iff];simp[tB,ibO];try omega)
 by_cases h4:k=7∨k=9∨k=10∨k=11∨k=12∨k=13
 ·rw[show zgd k=1 by unfold zgd;rw[if_neg h1,if_neg h2,if_pos (by omega)]]at h129
  refine fnT hT2 hmx Tryz.func66 rfl rfl (ex:= []) ?_;conv=>whnf
  refine⟨[],.int .i64 1,h129,?_⟩;conv=>whnf
  refine brI (fun h=>absurd (show k=8 by simpa using h) h3) (fun _=>?_)
  conv=>whnf
  repeat' first
   |(refine brI (fun h=>?_) (fun h=>?_)<;>(conv=>whnf))
   |refine And.intro (ab0 ?_) lh0
   |fail
  all_goals (simp only[decide_eq_true_eq,decide_eq_false_iff_not,beq_eq_false_iff_ne,beq_iff_eq,ne_eq]at*;rw[Bool.eq_iff_iff];simp[tB,ibO,h1,h2,h3,h4];try omega)
 ·rw[show zgd k= -1 by unfold zgd;rw[if_neg h1,if_neg h2,if_neg (by omega)]]at h129
  refine fnT hT2 hmx Tryz.func66 rfl rfl (ex:= []) ?_;conv=>whnf
  refine⟨[],.int .i64 (-1),h129,?_⟩;conv=>whnf
  exact⟨ab0 (by simp[tB,h1,h2,h3,h4]),lh0⟩
end Go.Proofs.YtlocddfailmnpaaGreatDoor

namespace Go.Proofs.YtlocddfailmnpaaGreatDoor
open Go Go.Sx
set_option maxRecDepth 100000
set_option maxHeartbeats 8000000
noncomputable def qea:Code:=Tryz.f31.body.getD .skip
theorem f84 (o:TOp) (n:Int):Fn 31 [] [.agg (Elt.op.cells o),.int .i64 n] (.bool (tB o n)) []:=by
 obtain⟨k,a,b,p,⟨c,d⟩⟩:=o
 have h132:=f132 ⟨c,d⟩
 obtain⟨z,hz⟩: ∃z,(c==0&&d==0)=z:=⟨_,rfl⟩
 have h132:Fn 77 [] [.agg [.int .i64 c,.int .i64 d]] (.bool z) []:=by rw[←hz];exact h132
 have h131:=f131 c d
 obtain⟨v,hv⟩: ∃v,rOk ⟨c,d⟩=v:=⟨_,rfl⟩
 rw[hv]at h131
 refine wl (code:=qea) hT2 hmx Tryz.func31 rfl rfl (ex:= []) ?_;conv=>whnf
 refine kf hT2 hmx 3 (fun _:Unit=>⟨[.any,.int .i64 n,.ptr 2 0,.any,.any,.bool (ibO a n),.bool (ibO b n)]++zd0 105,[(2,.cells [.int .i64 k,.int .i64 a,.int .i64 b,.int .i64 p,.int .i64 c,.int .i64 d])]⟩) (fun _=>by kernel_rfl) ?_ (fun _=>?_)
 ·conv=>whnf
  refine brI (fun h1=>?_) (fun h1=>?_)
  ·conv=>whnf
   refine brI (fun h2=>?_) (fun h2=>?_)
   ·conv=>whnf
    refine⟨(),?_⟩
    ((conv=>whnf);refine And.intro ?_ ?_;repeat' first|refine lc ?_ ?_|exact la0|exact lr rfl|exact ln0|refine lh1 ?_ ?_|exact lh0|exact bf0|exact bd0|refine bc0 ?_|exact bm0 rfl|exact bg0 rfl|exact li0 rfl|refine lg0 ?_|refine lt0 ?_|fail)
    all_goals (refine ab0 ?_;simp only[decide_eq_true_eq,decide_eq_false_iff_not]at*;rw[Bool.eq_iff_iff];simp[ibO];try omega)
   ·conv=>whnf
    refine⟨(),?_⟩
    ((conv=>whnf);refine And.intro ?_ ?_;repeat' first|refine lc ?_ ?_|exact la0|exact lr rfl|exact ln0|refine lh1 ?_ ?_|exact lh0|exact bf0|exact bd0|refine bc0 ?_|exact bm0 rfl|exact bg0 rfl|exact li0 rfl|refine lg0 ?_|refine lt0 ?_|fail)
    all_goals (refine ab0 ?_;simp only[decide_eq_true_eq,decide_eq_false_iff_not]at*;rw[Bool.eq_iff_iff];simp[ibO];try omega)
  ·conv=>whnf
   refine brI (fun h2=>?_) (fun h2=>?_)
   ·conv=>whnf
    refine⟨(),?_⟩
    ((conv=>whnf);refine And.intro ?_ ?_;repeat' first|refine lc ?_ ?_|exact la0|exact lr rfl|exact ln0|refine lh1 ?_ ?_|exact lh0|exact bf0|exact bd0|refine bc0 ?_|exact bm0 rfl|exact bg0 rfl|exact li0 rfl|refine lg0 ?_|refine lt0 ?_|fail)
    all_goals (refine ab0 ?_;simp only[decide_eq_true_eq,decide_eq_false_iff_not]at*;rw[Bool.eq_iff_iff];simp[ibO];try omega)
   ·conv=>whnf
    refine⟨(),?_⟩
    ((conv=>whnf);refine And.intro ?_ ?_;repeat' first|refine lc ?_ ?_|exact la0|exact lr rfl|exact ln0|refine lh1 ?_ ?_|exact lh0|exact bf0|exact bd0|refine bc0 ?_|exact bm0 rfl|exact bg0 rfl|exact li0 rfl|refine lg0 ?_|refine lt0 ?_|fail)
    all_goals (refine ab0 ?_;simp only[decide_eq_true_eq,decide_eq_false_iff_not]at*;rw[Bool.eq_iff_iff];simp[ibO];try omega)
 obtain⟨A,hA⟩: ∃A,ibO a n=A:=⟨_,rfl⟩
 obtain⟨B,hB⟩: ∃B,ibO b n=B:=⟨_,rfl⟩
 rw[hA,hB]
 by_cases h1:k=1
 ·subst h1
  refine wj hT2 hmx ?_;conv=>whnf
  repeat' first
   |(refine brI (fun h=>?_) (fun h=>?_)<;>(conv=>whnf))
   |(refine gZn h131 ?_;(conv=>whnf))
   |refine And.intro (ab0 ?_) lh0
   |fail
  all_goals (simp only[beq_eq_false_iff_ne,beq_iff_eq,ne_eq]at*;simp[tB, *])
 by_cases h2:k=3∨k=4∨k=5∨k=6
 ·rcases h2 with rfl|rfl|rfl|rfl
  all_goals
   refine wj hT2 hmx ?_;conv=>whnf
   repeat' first
    |(refine brI (fun h=>?_) (fun h=>?_)<;>(conv=>whnf))
    |(refine gZn h132 ?_;(conv=>whnf))
    |refine And.intro (ab0 ?_) lh0
    |fail
   all_goals (simp only[beq_eq_false_iff_ne,beq_iff_eq,ne_eq]at*;simp[tB, *])
 by_cases h3:k=8
 ·subst h3
  refine wj hT2 hmx ?_;conv=>whnf
  repeat' first
   |(refine brI (fun h=>?_) (fun h=>?_)<;>(conv=>whnf))
   |(refine gZn h132 ?_;(conv=>whnf))
   |refine And.intro (ab0 ?_) lh0
   |fail
  all_goals (simp only[decide_eq_true_eq,decide_eq_false_iff_not,beq_eq_false_iff_ne,beq_iff_eq,ne_eq]at*;simp[tB, *])
 by_cases h4:k=7∨k=9∨k=10∨k=11∨k=12∨k=13
 ·rcases h4 with rfl|rfl|rfl|rfl|rfl|rfl
  all_goals
   refine wj hT2 hmx ?_;conv=>whnf
   repeat' first
    |(refine brI (fun h=>?_) (fun h=>?_)<;>(conv=>whnf))
    |(refine gZn h132 ?_;(conv=>whnf))
    |refine And.intro (ab0 ?_) lh0
    |fail
   all_goals (simp only[beq_eq_false_iff_ne,beq_iff_eq,ne_eq]at*;simp[tB, *])
 ·refine wj hT2 hmx ?_;conv=>whnf
  refine brI (fun h=>absurd (show k=1 by simpa using h) h1) (fun _=>?_)
  conv=>whnf
  refine brI (fun h=>absurd (show k=3 by simpa using h) (by omega)) (fun _=>?_)
  conv=>whnf
  refine brI (fun h=>absurd (show k=4 by simpa using h) (by omega)) (fun _=>?_)
  conv=>whnf
  refine brI (fun h=>absurd (show k=5 by simpa using h) (by omega)) (fun _=>?_)
  conv=>whnf
  refine brI (fun h=>absurd (show k=6 by simpa using h) (by omega)) (fun _=>?_)
  conv=>whnf
  refine brI (fun h=>absurd (show k=7 by simpa using h) (by omega)) (fun _=>?_)
  conv=>whnf
  refine brI (fun h=>absurd (show k=9 by simpa using h) (by omega)) (fun _=>?_)
  conv=>whnf
  refine brI (fun h=>absurd (show k=10 by simpa using h) (by omega)) (fun _=>?_)
  conv=>whnf
  refine brI (fun h=>absurd (show k=11 by simpa using h) (by omega)) (fun _=>?_)
  conv=>whnf
  refine brI (fun h=>absurd (show k=12 by simpa using h) (by omega)) (fun _=>?_)
  conv=>whnf
  refine brI (fun h=>absurd (show k=13 by simpa using h) (by omega)) (fun _=>?_)
  conv=>whnf
  refine brI (fun h=>absurd (show k=8 by simpa using h) h3) (fun _=>?_)
  conv=>whnf
  exact⟨ab0 (by simp[tB,h1,h2,h3,h4]),lh0⟩
end Go.Proofs.YtlocddfailmnpaaGreatDoor

namespace Go.Proofs.YtlocddfailmnpaaGreatDoor
open Go Go.Sx
set_option maxRecDepth 100000
set_option maxHeartbeats 8000000
abbrev Ht (t:Tp):Hp:= [(1000003,.cells (tpC t))]
theorem qc3 (t:Tp) {h h':Hp}:leH h h' (Ht t) (Ht t):=lh1 (bc0 (lc (lr rfl) (lc (lr rfl) (lc (lr rfl) ln0)))) lh0
def zgr (t:Tp) (k:Int):Bool:=decide (k<0)||decide (t.ins+t.ops.length≤k)
theorem f83 (t:Tp) (k:Int) (ht:0≤t.ins∧t.ins≤8∧t.ops.length≤200):Fn 68 (Ht t) [.int .i64 k,.ptr 1000003 0] (.bool (zgr t k)) (Ht t):=by
 refine fnT hT2 hmx Tryz.func68 rfl rfl (ex:= []) ?_;conv=>whnf
 refine brI (fun h=>?_) (fun h=>?_)
 ·conv=>whnf
  refine⟨ab0 ?_,qc3 t⟩
  simp only[decide_eq_true_eq]at h
  simp[zgr,h]
 ·conv=>whnf
  refine⟨ab0 ?_,qc3 t⟩
  simp only[decide_eq_false_iff_not]at h
  rw[wI (by omega)]
  simp[zgr,h]
theorem f130t (t:Tp) (ht:0≤t.ins∧t.ins≤8∧t.ops.length≤200) (l:List Int) (hlen:l.length<9223372036854775808):Fn 115 (Ht t) [.sl .int l,.fn 68 [.ptr 1000003 0]] (.int .i64 (ixP (zgr t) l 0)) (Ht t):=by
 refine fnT hT2 hmx Tryz.func115 rfl rfl (ex:= []) ?_;conv=>whnf
 refine⟨Nat,fun i=>i≤l.length∧ixP (zgr t) (l.drop i) i=ixP (zgr t) l 0,fun i=> [(8,.int .i64 i)],fun _=> [],fun i=>l.length-i,0,⟨by simp,rfl⟩,?_,fun i hi=>?_⟩
 ·((conv=>whnf);refine And.intro ?_ ?_;repeat' first|refine lc ?_ ?_|exact la0|exact lr rfl|exact ln0|refine lh1 ?_ ?_|exact lh0|exact bf0|exact bd0|refine bc0 ?_|exact bm0 rfl|exact bg0 rfl|exact li0 rfl|refine lg0 ?_|refine lt0 ?_|fail)
 (refine⟨by kernel_rfl,?_⟩;(conv=>whnf))
 obtain⟨hi1,hi2⟩:=hi
 refine brI (fun h1=>?_) (fun h1=>?_)
 ·conv=>whnf
  have hi:i<l.length:=by simp only[decide_eq_true_eq]at h1;omega
  refine⟨⟨by omega,by omega⟩,fun x hx=>?_⟩
  have hx:l[i]? =some x:=by simpa using hx
  have hm:=List.mem_of_getElem? hx
  rw[qn hx]at hi2
  simp only[ixP]at hi2
  conv=>whnf
  refine cbI [.cells (tpC t)] ((zgr t) x) (f83 t x ht) (fun h2=>?_) (fun h2=>?_)
  ·conv=>whnf
   rw[if_pos h2]at hi2
   exact⟨ai0 hi2,qc3 t⟩
  ·conv=>whnf
   rw[if_neg (by rw[h2];simp)]at hi2
   refine⟨i+1,⟨by omega,hi2⟩,by show l.length-(i+1)<l.length-i;omega,?_⟩
   ((conv=>whnf);refine And.intro ?_ ?_;repeat' first|refine lc ?_ ?_|exact la0|exact lr rfl|exact ln0|refine lh1 ?_ ?_|exact lh0|exact bf0|exact bd0|refine bc0 ?_|exact bm0 rfl|exact bg0 rfl|exact li0 rfl|refine lg0 ?_|refine lt0 ?_|fail)
   exact ai0 (by rw[wI (by omega)];omega)
 ·conv=>whnf
  have hi: ¬i<l.length:=by simp only[decide_eq_false_iff_not]at h1;omega
  rw[List.drop_of_length_le (by omega)]at hi2
  exact⟨ai0 hi2,qc3 t⟩
theorem f82t (t:Tp) (ht:0≤t.ins∧t.ins≤8∧t.ops.length≤200) (l:List Int) (hlen:l.length<9223372036854775808):Fn 67 (Ht t) [.sl .int l,.fn 68 [.ptr 1000003 0]] (.bool (l.any (zgr t))) (Ht t):=by
 refine fnT hT2 hmx Tryz.func67 rfl rfl (ex:= []) ?_;conv=>whnf
 refine⟨[.cells (tpC t)],_,f130t t ht l hlen,?_⟩;conv=>whnf
 exact⟨ab0 (by rw[Bool.eq_iff_iff,decide_eq_true_eq];exact zaq (zgr t) l 0),qc3 t⟩
def zvo (o:TOp):Bool:=decide (o.k>8)
theorem f86 (o:TOp):Fn 71 [] [.agg (Elt.op.cells o)] (.bool (zvo o)) []:=by
 refine fnT hT2 hmx Tryz.func71 rfl rfl (ex:= []) ?_;conv=>whnf
 exact⟨ab0 rfl,lh0⟩
theorem f133t (l:List TOp) (hlen:l.length<9223372036854775808):Fn 116 [] [.sl .op l,.fn 71 []] (.int .i64 (ixP zvo l 0)) []:=by
 refine fnT hT2 hmx Tryz.func116 rfl rfl (ex:= []) ?_;conv=>whnf
 refine⟨Nat,fun i=>i≤l.length∧ixP zvo (l.drop i) i=ixP zvo l 0,fun i=> [(8,.int .i64 i)],fun _=> [],fun i=>l.length-i,0,⟨by simp,rfl⟩,?_,fun i hi=>?_⟩
 ·((conv=>whnf);refine And.intro ?_ ?_;repeat' first|refine lc ?_ ?_|exact la0|exact lr rfl|exact ln0|refine lh1 ?_ ?_|exact lh0|exact bf0|exact bd0|refine bc0 ?_|exact bm0 rfl|exact bg0 rfl|exact li0 rfl|refine lg0 ?_|refine lt0 ?_|fail)
 (refine⟨by kernel_rfl,?_⟩;(conv=>whnf))
 obtain⟨hi1,hi2⟩:=hi
 refine brI (fun h1=>?_) (fun h1=>?_)
 ·conv=>whnf
  have hi:i<l.length:=by simp only[decide_eq_true_eq]at h1;omega
  refine⟨⟨by omega,by omega⟩,fun x hx=>?_⟩
  have hx:l[i]? =some x:=by simpa using hx
  have hm:=List.mem_of_getElem? hx
  rw[qn hx]at hi2
  simp only[ixP]at hi2
  conv=>whnf
  refine cbI [] (zvo x) (f86 x) (fun h2=>?_) (fun h2=>?_)
  ·conv=>whnf
   rw[if_pos h2]at hi2
   exact⟨ai0 hi2,lh0⟩
  ·conv=>whnf
   rw[if_neg (by rw[h2];simp)]at hi2
   refine⟨i+1,⟨by omega,hi2⟩,by show l.length-(i+1)<l.length-i;omega,?_⟩
   ((conv=>whnf);refine And.intro ?_ ?_;repeat' first|refine lc ?_ ?_|exact la0|exact lr rfl|exact ln0|refine lh1 ?_ ?_|exact lh0|exact bf0|exact bd0|refine bc0 ?_|exact bm0 rfl|exact bg0 rfl|exact li0 rfl|refine lg0 ?_|refine lt0 ?_|fail)
   exact ai0 (by rw[wI (by omega)];omega)
 ·conv=>whnf
  have hi: ¬i<l.length:=by simp only[decide_eq_false_iff_not]at h1;omega
  rw[List.drop_of_length_le (by omega)]at hi2
  exact⟨ai0 hi2,lh0⟩
theorem f85t (l:List TOp) (hlen:l.length<9223372036854775808):Fn 70 [] [.sl .op l,.fn 71 []] (.bool (l.any zvo)) []:=by
 refine fnT hT2 hmx Tryz.func70 rfl rfl (ex:= []) ?_;conv=>whnf
 refine gZn (f133t l hlen) ?_;conv=>whnf
 exact⟨ab0 (by rw[Bool.eq_iff_iff,decide_eq_true_eq];exact zaq zvo l 0),lh0⟩
def zgc:List TOp→Int→Bool
 | [],_=>true
 |o::l,n=>tB o n&&zgc l (n+1)
def tvB (t:Tp):Bool:=decide (0≤t.ins∧t.ins≤8∧t.ops.length≤200∧t.outs.length≤200)&&(zgc t.ops t.ins&& !t.outs.any (zgr t))
theorem f41 (t:Tp) (h1:t.ops.length<9223372036854775808) (h2:t.outs.length<9223372036854775808):Fn 21 [] [.agg (tpC t)] (.bool (tvB t)) []:=by
 obtain⟨V,hV⟩: ∃V,tvB t=V:=⟨_,rfl⟩
 rw[hV]
 unfold tvB at hV
 refine fnT hT2 hmx Tryz.func21 rfl rfl (ex:= []) ?_;conv=>whnf
 refine brI (fun h=>?_) (fun h=>?_)
 ·conv=>whnf
  exact⟨ab0 (by rw[←hV];simp only[decide_eq_true_eq]at h;simp;omega),lh0⟩
 have c1: ¬t.ins<0:=by simpa using h
 conv=>whnf
 refine brI (fun h=>?_) (fun h=>?_)
 ·conv=>whnf
  exact⟨ab0 (by rw[←hV];simp only[decide_eq_true_eq]at h;simp;omega),lh0⟩
 have c2: ¬t.ins>8:=by simpa using h
 conv=>whnf
 refine brI (fun h=>?_) (fun h=>?_)
 ·conv=>whnf
  exact⟨ab0 (by rw[←hV];simp only[decide_eq_true_eq]at h;simp;omega),lh0⟩
 have c3: ¬(t.ops.length:Int)>200:=by simpa using h
 conv=>whnf
 refine brI (fun h=>?_) (fun h=>?_)
 ·conv=>whnf
  exact⟨ab0 (by rw[←hV];simp only[decide_eq_true_eq]at h;simp;omega),lh0⟩
 have c4: ¬(t.outs.length:Int)>200:=by simpa using h
 have ht:0≤t.ins∧t.ins≤8∧t.ops.length≤200:=by omega
 rw[decide_eq_true (by omega),Bool.true_and]at hV
 conv=>whnf
 refine⟨Nat,fun i=>i≤t.ops.length∧zgc (t.ops.drop i) (t.ins+i)=zgc t.ops t.ins,fun i=> [(28,.int .i64 i)],fun _=> [],fun i=>t.ops.length-i,0,⟨by simp,by simp⟩,?_,fun i hi=>?_⟩
 ·((conv=>whnf);refine And.intro ?_ ?_;repeat' first|refine lc ?_ ?_|exact la0|exact lr rfl|exact ln0|refine lh1 ?_ ?_|exact lh0|exact bf0|exact bd0|refine bc0 ?_|exact bm0 rfl|exact bg0 rfl|exact li0 rfl|refine lg0 ?_|refine lt0 ?_|fail)
 (refine⟨by kernel_rfl,?_⟩;(conv=>whnf))
 obtain⟨hi1,hi2⟩:=hi
 refine brI (fun h=>?_) (fun h=>?_)
 ·conv=>whnf
  have hi:i<t.ops.length:=by simp only[decide_eq_true_eq]at h;omega
  refine⟨⟨by omega,by omega⟩,fun x hx=>?_⟩
  have hx:t.ops[i]? =some x:=by simpa using hx
  rw[qn hx]at hi2
  simp only[zgc]at hi2
  conv=>whnf
  have h81:Fn 66 [] [.agg (Elt.op.cells x),.int .i64 (IntKind.i64.wrap (t.ins+(i:Int)))] (.bool (tB x (t.ins+i))) []:=by
   rw[wI (by omega)];exact f81 x (t.ins+i)
  refine cbI [] (tB x (t.ins+i)) h81 (fun h5=>?_) (fun h5=>?_)
  ·conv=>whnf
   rw[h5]at hi2
   refine⟨i+1,⟨by omega,by rw[←hi2,Bool.true_and];congr 1;omega⟩,by show t.ops.length-(i+1)<t.ops.length-i;omega,?_⟩
   ((conv=>whnf);refine And.intro ?_ ?_;repeat' first|refine lc ?_ ?_|exact la0|exact lr rfl|exact ln0|refine lh1 ?_ ?_|exact lh0|exact bf0|exact bd0|refine bc0 ?_|exact bm0 rfl|exact bg0 rfl|exact li0 rfl|refine lg0 ?_|refine lt0 ?_|fail)
   exact ai0 (by rw[wI (by omega)];omega)
  ·conv=>whnf
   rw[h5,Bool.false_and]at hi2
   exact⟨ab0 (by rw[←hV,←hi2];rfl),lh0⟩
 have hi: ¬i<t.ops.length:=by simp only[decide_eq_false_iff_not]at h;omega
 have hb:zgc t.ops t.ins=true:=by rw[←hi2,List.drop_of_length_le (by omega)];rfl
 rw[hb,Bool.true_and]at hV
 conv=>whnf
 refine cbI [.cells (tpC t)] (t.outs.any (zgr t)) ((f82t t ht t.outs h2).sw [(1,1000003)] rfl) (fun h5=>?_) (fun h5=>?_)
 ·conv=>whnf
  exact⟨ab0 (by rw[←hV,h5]),lh0⟩
 ·conv=>whnf
  exact⟨ab0 (by rw[←hV,h5]),lh0⟩
theorem f42 (t:Tp) (h1:t.ops.length<9223372036854775808) (h2:t.outs.length<9223372036854775808):Fn 9 [] [.agg (tpC t)] (.bool (tvB t)) []:=by
 obtain⟨V,hV⟩: ∃V,tvB t=V:=⟨_,rfl⟩
 rw[hV]
 unfold tvB at hV
 refine fnT hT2 hmx Tryz.func9 rfl rfl (ex:= []) ?_;conv=>whnf
 refine brI (fun h=>?_) (fun h=>?_)
 ·conv=>whnf
  exact⟨ab0 (by rw[←hV];simp only[decide_eq_true_eq]at h;simp;omega),lh0⟩
 have c1: ¬t.ins<0:=by simpa using h
 conv=>whnf
 refine brI (fun h=>?_) (fun h=>?_)
 ·conv=>whnf
  exact⟨ab0 (by rw[←hV];simp only[decide_eq_true_eq]at h;simp;omega),lh0⟩
 have c2: ¬t.ins>8:=by simpa using h
 conv=>whnf
 refine brI (fun h=>?_) (fun h=>?_)
 ·conv=>whnf
  exact⟨ab0 (by rw[←hV];simp only[decide_eq_true_eq]at h;simp;omega),lh0⟩
 have c3: ¬(t.ops.length:Int)>200:=by simpa using h
 conv=>whnf
 refine brI (fun h=>?_) (fun h=>?_)
 ·conv=>whnf
  exact⟨ab0 (by rw[←hV];simp only[decide_eq_true_eq]at h;simp;omega),lh0⟩
 have c4: ¬(t.outs.length:Int)>200:=by simpa using h
 rw[decide_eq_true (by omega),Bool.true_and]at hV
 conv=>whnf
 refine⟨Nat,fun i=>i≤t.ops.length∧zgc (t.ops.drop i) (t.ins+i)=zgc t.ops t.ins,fun i=> [(3,.int .i64 i)],fun _=> [],fun i=>t.ops.length-i,0,⟨by simp,by simp⟩,?_,fun i hi=>?_⟩
 ·((conv=>whnf);refine And.intro ?_ ?_;repeat' first|refine lc ?_ ?_|exact la0|exact lr rfl|exact ln0|refine lh1 ?_ ?_|exact lh0|exact bf0|exact bd0|refine bc0 ?_|exact bm0 rfl|exact bg0 rfl|exact li0 rfl|refine lg0 ?_|refine lt0 ?_|fail)
 (refine⟨by kernel_rfl,?_⟩;(conv=>whnf))
 obtain⟨hi1,hi2⟩:=hi
 refine brI (fun h=>?_) (fun h=>?_)
 ·conv=>whnf
  have hi:i<t.ops.length:=by simp only[decide_eq_true_eq]at h;omega
  refine⟨⟨by omega,by omega⟩,fun x hx=>?_⟩
  have hx:t.ops[i]? =some x:=by simpa using hx
  rw[qn hx]at hi2
  simp only[zgc]at hi2
  conv=>whnf
  have h84:Fn 31 [] [.agg (Elt.op.cells x),.int .i64 (IntKind.i64.wrap (t.ins+(i:Int)))] (.bool (tB x (t.ins+i))) []:=by
   rw[wI (by omega)];exact f84 x (t.ins+i)
  refine cbI [] (tB x (t.ins+i)) h84 (fun h5=>?_) (fun h5=>?_)
  ·conv=>whnf
   (refine⟨by kernel_rfl,by kernel_rfl,?_⟩;(conv=>whnf))
   rw[h5]at hi2
   refine⟨i+1,⟨by omega,by rw[←hi2,Bool.true_and];congr 1;omega⟩,by show t.ops.length-(i+1)<t.ops.length-i;omega,?_⟩
   ((conv=>whnf);refine And.intro ?_ ?_;repeat' first|refine lc ?_ ?_|exact la0|exact lr rfl|exact ln0|refine lh1 ?_ ?_|exact lh0|exact bf0|exact bd0|refine bc0 ?_|exact bm0 rfl|exact bg0 rfl|exact li0 rfl|refine lg0 ?_|refine lt0 ?_|fail)
   exact ai0 (by rw[wI (by omega)];omega)
  ·conv=>whnf
   (refine⟨by kernel_rfl,by kernel_rfl,?_⟩;(conv=>whnf))
   rw[h5,Bool.false_and]at hi2
   exact⟨ab0 (by rw[←hV,←hi2];rfl),lh0⟩
 have hi: ¬i<t.ops.length:=by simp only[decide_eq_false_iff_not]at h;omega
 have hb:zgc t.ops t.ins=true:=by rw[←hi2,List.drop_of_length_le (by omega)];rfl
 rw[hb,Bool.true_and]at hV
 clear hi1 hi2 h hi
 conv=>whnf
 refine⟨Nat,fun i=>i≤t.outs.length∧(t.outs.drop i).any (zgr t)=t.outs.any (zgr t),fun i=> [(4,.int .i64 i)],fun _=> [],fun i=>t.outs.length-i,0,⟨by simp,by simp⟩,?_,fun i hi=>?_⟩
 ·((conv=>whnf);refine And.intro ?_ ?_;repeat' first|refine lc ?_ ?_|exact la0|exact lr rfl|exact ln0|refine lh1 ?_ ?_|exact lh0|exact bf0|exact bd0|refine bc0 ?_|exact bm0 rfl|exact bg0 rfl|exact li0 rfl|refine lg0 ?_|refine lt0 ?_|fail)
 (refine⟨by kernel_rfl,?_⟩;(conv=>whnf))
 obtain⟨hi1,hi2⟩:=hi
 refine brI (fun h=>?_) (fun h=>?_)
 ·conv=>whnf
  have hi:i<t.outs.length:=by simp only[decide_eq_true_eq]at h;omega
  refine⟨⟨by omega,by omega⟩,fun(x:Int) hx=>?_⟩
  have hx:t.outs[i]? =some x:=by simpa using hx
  rw[qn hx]at hi2
  simp only[List.any_cons]at hi2
  conv=>whnf
  refine brI (fun h5=>?_) (fun h5=>?_)
  ·conv=>whnf
   (refine⟨by kernel_rfl,by kernel_rfl,?_⟩;(conv=>whnf))
   have h6:zgr t x=true:=by
    have h5:decide (x<0)=true:=h5
    simp only[decide_eq_true_eq]at h5;simp[zgr,h5]
   rw[h6,Bool.true_or]at hi2
   exact⟨ab0 (by rw[←hV,←hi2];rfl),lh0⟩
  ·conv=>whnf
   refine⟨⟨by omega,by omega⟩,fun y hy=>?_⟩
   have hy:t.outs[i]? =some y:=by simpa using hy
   rw[hx]at hy
   cases hy
   have h5: ¬x<0:=by
    have h5:decide (x<0)=false:=h5
    simpa using h5
   conv=>whnf
   (refine⟨by kernel_rfl,by kernel_rfl,?_⟩;(conv=>whnf))
   refine brI (fun h7=>?_) (fun h7=>?_)
   ·conv=>whnf
    have h7:decide (x≥IntKind.i64.wrap (t.ins+(t.ops.length:Int)))=true:=h7
    rw[wI (by omega)]at h7
    simp only[decide_eq_true_eq]at h7
    have h6:zgr t x=true:=by
     rw[zgr,decide_eq_true (p:=t.ins+(t.ops.length:Int)≤x) (by omega),Bool.or_true]
    rw[h6,Bool.true_or]at hi2
    exact⟨ab0 (by rw[←hV,←hi2];rfl),lh0⟩
   ·conv=>whnf
    have h7:decide (x≥IntKind.i64.wrap (t.ins+(t.ops.length:Int)))=false:=h7
    rw[wI (by omega)]at h7
    simp only[decide_eq_false_iff_not]at h7
    have h6:zgr t x=false:=by
     rw[zgr,decide_eq_false (p:=t.ins+(t.ops.length:Int)≤x) (by omega),decide_eq_false (p:=x<0) h5];rfl
    rw[h6,Bool.false_or]at hi2
    refine⟨i+1,⟨by omega,hi2⟩,by show t.outs.length-(i+1)<t.outs.length-i;omega,?_⟩
    ((conv=>whnf);refine And.intro ?_ ?_;repeat' first|refine lc ?_ ?_|exact la0|exact lr rfl|exact ln0|refine lh1 ?_ ?_|exact lh0|exact bf0|exact bd0|refine bc0 ?_|exact bm0 rfl|exact bg0 rfl|exact li0 rfl|refine lg0 ?_|refine lt0 ?_|fail)
    exact ai0 (by rw[wI (by omega)];omega)
 ·have hi: ¬i<t.outs.length:=by simp only[decide_eq_false_iff_not]at h;omega
  have hb:t.outs.any (zgr t)=false:=by rw[←hi2,List.drop_of_length_le (by omega)];rfl
  conv=>whnf
  exact⟨ab0 (by rw[←hV,hb];rfl),lh0⟩
def trB (t:Tp):Bool:=tvB t&& !t.ops.any zvo
theorem f43 (t:Tp) (h1:t.ops.length<9223372036854775808) (h2:t.outs.length<9223372036854775808):Fn 27 [] [.agg (tpC t)] (.bool (trB t)) []:=by
 refine fnT hT2 hmx Tryz.func27 rfl rfl (ex:= []) ?_;conv=>whnf
 refine cbI [] (tvB t) (f41 t h1 h2) (fun h=>?_) (fun h=>?_)
 ·conv=>whnf
  refine cbI [] (t.ops.any zvo) (f85t t.ops h1) (fun h5=>?_) (fun h5=>?_)
  ·conv=>whnf
   exact⟨ab0 (by simp[trB,h,h5]),lh0⟩
  ·conv=>whnf
   exact⟨ab0 (by simp[trB,h,h5]),lh0⟩
 ·conv=>whnf
  exact⟨ab0 (by simp[trB,h]),lh0⟩
end Go.Proofs.YtlocddfailmnpaaGreatDoor

namespace Go.Proofs.YtlocddfailmnpaaGreatDoor
open Go Go.Sx
set_option maxRecDepth 100000
set_option maxHeartbeats 8000000
theorem zeg: ∀ {l:List TOp} {n:Int} {j:Nat} {o:TOp},zgc l n=true→l[j]? =some o→tB o (n+j)=true
 | [],_,j,o,_,h=>by simp at h
 |x::l,n,0,o,hb,h=>by
  simp only[zgc,Bool.and_eq_true]at hb
  simp at h;subst h
  simpa using hb.1
 |x::l,n,j+1,o,hb,h=>by
  simp only[zgc,Bool.and_eq_true]at hb
  have:=zeg hb.2 (by simpa using h)
  have e:n+((j+1:Nat):Int)=n+1+(j:Int):=by omega
  rw[e];exact this
theorem zk9 {o:TOp} {n:Int} (h:tB o n=true):(zgd o.k=0)∨(zgd o.k=1∧0≤o.a∧o.a<n)∨(zgd o.k=2∧(0≤o.a∧o.a<n)∧0≤o.b∧o.b<n):=by
 unfold tB at h
 unfold zgd
 by_cases h1:o.k=1
 ·simp[h1]
 ·by_cases h2:o.k=3∨o.k=4∨o.k=5∨o.k=6
  ·rw[if_neg h1,if_pos h2]at h
   simp only[ibO,Bool.and_eq_true,decide_eq_true_eq]at h
   rw[if_neg h1,if_pos h2]
   exact .inr (.inr ⟨rfl,h.1,h.2.1⟩)
  ·by_cases h3:o.k=8
   ·rw[if_neg h1,if_neg h2,if_pos h3]at h
    simp only[ibO,Bool.and_eq_true,decide_eq_true_eq]at h
    rw[if_neg h1,if_neg h2,if_pos (by omega)]
    exact .inr (.inl ⟨rfl,h.1⟩)
   ·by_cases h4:o.k=7∨o.k=9∨o.k=10∨o.k=11∨o.k=12∨o.k=13
    ·rw[if_neg h1,if_neg h2,if_neg h3,if_pos h4]at h
     simp only[ibO,Bool.and_eq_true,decide_eq_true_eq]at h
     rw[if_neg h1,if_neg h2,if_pos (by omega)]
     exact .inr (.inl ⟨rfl,h.1⟩)
    ·rw[if_neg h1,if_neg h2,if_neg h3,if_neg h4]at h;cases h
section
variable (t:Tp) (ns:List zg) (hv:tvB t=true) (hns:(ns.length:Int)=t.ins)
include hv hns
end
end Go.Proofs.YtlocddfailmnpaaGreatDoor

namespace Go.Proofs.YtlocddfailmnpaaGreatDoor
open Go Go.Sx
set_option maxRecDepth 100000
set_option maxHeartbeats 8000000
theorem f78 (s:zg):Fn 24 [] [.str s] (.agg (exC (zky s))) []:=by
 refine fnT hT2 hmx Tryz.func24 rfl rfl (ex:= []) ?_;conv=>whnf
 exact⟨lg0 (lc (lr rfl) (lc (lr rfl) (lc (lr rfl) (lc (lr rfl) (lc (lr rfl) (lc (li0 rfl) ln0)))))),lh0⟩
theorem f77 (k:Int) (a b:Ex):Fn 23 [] [.int .i64 k,.agg (exC a),.agg (exC b)] (.agg (exC (opE k 0 [a,b]))) []:=by
 cases a
 cases b
 refine fnT hT2 hmx Tryz.func23 rfl rfl (ex:= []) ?_;conv=>whnf
 exact⟨lr rfl,lh0⟩
theorem f79 (l m:List TOp) (hl:l.length<9223372036854775808):Fn 25 [] [.sl .op l,.sl .op m] (.bool (decide (l=m))) []:=by
 refine fnT hT2 hmx Tryz.func25 rfl rfl (ex:= []) ?_;conv=>whnf
 refine brI (fun h1=>?_) (fun h1=>?_)
 ·conv=>whnf
  have h1:l.length≠m.length:=by simp only[bne_iff_ne,ne_eq]at h1;omega
  exact⟨ab0 (decide_eq_false (p:=l=m) fun e=>h1 (by rw[e])).symm,lh0⟩
 have h1:l.length=m.length:=by simp only[bne_eq_false_iff_eq]at h1;omega
 conv=>whnf
 refine⟨Nat,fun i=>i≤l.length∧l.take i=m.take i,fun i=> [(13,.int .i64 i)],fun _=> [],fun i=>l.length-i,0,⟨by omega,by simp⟩,?_,fun i hi=>?_⟩
 ·((conv=>whnf);refine And.intro ?_ ?_;repeat' first|refine lc ?_ ?_|exact la0|exact lr rfl|exact ln0|refine lh1 ?_ ?_|exact lh0|exact bf0|exact bd0|refine bc0 ?_|exact bm0 rfl|exact bg0 rfl|exact li0 rfl|refine lg0 ?_|refine lt0 ?_|fail)
 (refine⟨by kernel_rfl,?_⟩;(conv=>whnf))
 obtain⟨hi1,hi2⟩:=hi
 refine brI (fun h2=>?_) (fun h2=>?_)
 ·conv=>whnf
  have hi:i<l.length:=by simp only[decide_eq_true_eq]at h2;omega
  refine⟨⟨by omega,by omega⟩,fun(x:TOp) hx=>?_⟩
  have hx:l[i]? =some x:=by simpa using hx
  conv=>whnf
  refine⟨⟨by omega,by omega⟩,fun(y:TOp) hy=>?_⟩
  have hy:m[i]? =some y:=by simpa using hy
  conv=>whnf
  (refine⟨by kernel_rfl,by kernel_rfl,?_⟩;(conv=>whnf))
  refine brI (fun h3=>?_) (fun h3=>?_)
  ·conv=>whnf
   have h3:x≠y:=by
    intro e;subst e
    simp at h3
   refine⟨ab0 (decide_eq_false (p:=l=m) fun e=>h3 ?_).symm,lh0⟩
   rw[e,hy]at hx
   exact(Option.some.inj hx).symm
  ·conv=>whnf
   have h3:x=y:=by
    obtain⟨k,a,b,p,⟨c,d⟩⟩:=x
    obtain⟨k',a',b',p',⟨c',d'⟩⟩:=y
    simpa using h3
   refine⟨i+1,⟨by omega,?_⟩,by show l.length-(i+1)<l.length-i;omega,?_⟩
   ·rw[List.take_add_one,List.take_add_one,hi2,hx,hy,h3]
   ·((conv=>whnf);refine And.intro ?_ ?_;repeat' first|refine lc ?_ ?_|exact la0|exact lr rfl|exact ln0|refine lh1 ?_ ?_|exact lh0|exact bf0|exact bd0|refine bc0 ?_|exact bm0 rfl|exact bg0 rfl|exact li0 rfl|refine lg0 ?_|refine lt0 ?_|fail)
    exact ai0 (by rw[wI (by omega)];omega)
 ·conv=>whnf
  have hi: ¬i<l.length:=by simp only[decide_eq_false_iff_not]at h2;omega
  rw[List.take_of_length_le (by omega),List.take_of_length_le (by omega)]at hi2
  exact⟨ab0 (decide_eq_true hi2).symm,lh0⟩
theorem f80 (l m:List Int) (hl:l.length<9223372036854775808):Fn 26 [] [.sl .int l,.sl .int m] (.bool (decide (l=m))) []:=by
 refine fnT hT2 hmx Tryz.func26 rfl rfl (ex:= []) ?_;conv=>whnf
 refine brI (fun h1=>?_) (fun h1=>?_)
 ·conv=>whnf
  have h1:l.length≠m.length:=by simp only[bne_iff_ne,ne_eq]at h1;omega
  exact⟨ab0 (decide_eq_false (p:=l=m) fun e=>h1 (by rw[e])).symm,lh0⟩
 have h1:l.length=m.length:=by simp only[bne_eq_false_iff_eq]at h1;omega
 conv=>whnf
 refine⟨Nat,fun i=>i≤l.length∧l.take i=m.take i,fun i=> [(13,.int .i64 i)],fun _=> [],fun i=>l.length-i,0,⟨by omega,by simp⟩,?_,fun i hi=>?_⟩
 ·((conv=>whnf);refine And.intro ?_ ?_;repeat' first|refine lc ?_ ?_|exact la0|exact lr rfl|exact ln0|refine lh1 ?_ ?_|exact lh0|exact bf0|exact bd0|refine bc0 ?_|exact bm0 rfl|exact bg0 rfl|exact li0 rfl|refine lg0 ?_|refine lt0 ?_|fail)
 (refine⟨by kernel_rfl,?_⟩;(conv=>whnf))
 obtain⟨hi1,hi2⟩:=hi
 refine brI (fun h2=>?_) (fun h2=>?_)
 ·conv=>whnf
  have hi:i<l.length:=by simp only[decide_eq_true_eq]at h2;omega
  refine⟨⟨by omega,by omega⟩,fun(x:Int) hx=>?_⟩
  have hx:l[i]? =some x:=by simpa using hx
  conv=>whnf
  refine⟨⟨by omega,by omega⟩,fun(y:Int) hy=>?_⟩
  have hy:m[i]? =some y:=by simpa using hy
  conv=>whnf
  (refine⟨by kernel_rfl,by kernel_rfl,?_⟩;(conv=>whnf))
  refine brI (fun h3=>?_) (fun h3=>?_)
  ·conv=>whnf
   have h3:x≠y:=by
    intro e;subst e
    simp at h3
   refine⟨ab0 (decide_eq_false (p:=l=m) fun e=>h3 ?_).symm,lh0⟩
   rw[e,hy]at hx
   exact(Option.some.inj hx).symm
  ·conv=>whnf
   have h3:x=y:=by
    simpa using h3
   refine⟨i+1,⟨by omega,?_⟩,by show l.length-(i+1)<l.length-i;omega,?_⟩
   ·rw[List.take_add_one,List.take_add_one,hi2,hx,hy,h3]
   ·((conv=>whnf);refine And.intro ?_ ?_;repeat' first|refine lc ?_ ?_|exact la0|exact lr rfl|exact ln0|refine lh1 ?_ ?_|exact lh0|exact bf0|exact bd0|refine bc0 ?_|exact bm0 rfl|exact bg0 rfl|exact li0 rfl|refine lg0 ?_|refine lt0 ?_|fail)
    exact ai0 (by rw[wI (by omega)];omega)
 ·conv=>whnf
  have hi: ¬i<l.length:=by simp only[decide_eq_false_iff_not]at h2;omega
  rw[List.take_of_length_le (by omega),List.take_of_length_le (by omega)]at hi2
  exact⟨ab0 (decide_eq_true hi2).symm,lh0⟩
abbrev awX:Ex:=opE 5 0 [zky [120],zky [121]]
abbrev awU:Ex:=zix ⟨1,1⟩
abbrev awA:Ex:=opE 3 0 [awX,awX]
abbrev awB:Ex:=opE 4 0 [awU,awX]
abbrev awN:List zg:= [[120],[121]]
abbrev awO:List TOp:= [⟨5,0,1,0,⟨0,0⟩⟩,⟨3,2,2,0,⟨0,0⟩⟩,⟨1,0,0,0,⟨1,1⟩⟩,⟨4,4,2,0,⟨0,0⟩⟩]
abbrev awT:Tp:=⟨2,awO,[3,5]⟩
theorem zw1 {ns:List zg} {e:Ex} (h:okT e=true):zu2 ns e=false↔ ∀y∈zjg e,y.k=2→y.s∈ns:=by
 unfold zu2
 rw[List.any_eq_false]
 have key: ∀s:zg,¬zpy ns s=true↔s∈ns:=fun s=>by
  unfold zpy
  rw[Bool.not_eq_true',Bool.not_eq_false,List.any_eq_true]
  constructor
  ·rintro⟨x,hx,he⟩
   have:s=x:=by simpa[eqS]using he
   rw[this];exact hx
  ·intro hs;exact⟨s,hs,by simp[eqS]⟩
 constructor
 ·intro h1 y hy h2
  exact(key _).1 (h1 y.s ((zr8 h).2 ⟨y,hy,h2,rfl⟩))
 ·intro h1 s hs
  obtain⟨y,hy,h2,rfl⟩:=(zr8 h).1 hs
  exact(key _).2 (h1 y hy h2)
theorem ztl:okT awA=true:=by decide+kernel
theorem ztk:okT awB=true:=by decide+kernel
theorem aw_cp:cpE [awA,awB] awN=(awT,0):=by
 unfold cpE
 rw[if_neg (by simp only[List.any_cons,List.any_nil,zok,ztl,ztk];decide+kernel),if_neg (by decide),if_neg (by decide+kernel),if_neg ?_,if_neg (by decide+kernel)]
 ·kernel_rfl
 ·simp only[List.any_cons,List.any_nil,Bool.or_false,Bool.or_eq_true,Bool.not_eq_true,not_or]
  refine⟨(zw1 ztl).2 ?_,(zw1 ztk).2 ?_⟩
  ·decide+kernel
  ·decide+kernel
theorem f40:Fn 6 [] [] (.bool true) []:=by
 have h46:=f46 [awA,awB] awN (fun x hx=>by
  simp only[List.mem_cons,List.not_mem_nil,or_false]at hx
  rcases hx with rfl|rfl
  ·exact qal (zjn ztl)
  ·exact qal (zjn ztk)) (by decide) (by decide) (by decide)
 rw[aw_cp]at h46
 have h41:=f41 awT (by decide) (by decide)
 have h43:=f43 awT (by decide) (by decide)
 rw[show tvB awT=true by decide+kernel]at h41
 rw[show trB awT=true by decide+kernel]at h43
 have h79:=f79 awO awO (by decide)
 have h80:=f80 [3,5] [3,5] (by decide)
 rw[decide_eq_true rfl]at h79 h80
 refine fnT hT2 hmx Tryz.func6 rfl rfl (ex:= []) ?_;conv=>whnf
 refine gZn (f78 [120]) ?_;conv=>whnf
 refine gZn (f78 [121]) ?_;conv=>whnf
 refine gZn (f77 5 (zky [120]) (zky [121])) ?_;conv=>whnf
 refine gZn (f77 3 awX awX) ?_;conv=>whnf
 refine gZn (nil2 (k:=1) (q:=⟨1,1⟩) (s:= []) (p:=0) (f77 4 awU awX)) ?_;conv=>whnf
 refine gZn h46 ?_;conv=>whnf
 (refine⟨by kernel_rfl,by kernel_rfl,?_⟩;(conv=>whnf))
 refine gZn h79 ?_;conv=>whnf
 refine gZn h80 ?_;conv=>whnf
 refine gZn h41 ?_;conv=>whnf
 refine gZn h43 ?_;conv=>whnf
 exact⟨lr rfl,lh0⟩
end Go.Proofs.YtlocddfailmnpaaGreatDoor

namespace Go.Proofs.YtlocddfailmnpaaGreatDoor
open Go Go.Sx
set_option maxRecDepth 100000
set_option maxHeartbeats 8000000
end Go.Proofs.YtlocddfailmnpaaGreatDoor

namespace Go.Proofs.YtlocddfailmnpaaGreatDoor
open Go Go.Sx
end Go.Proofs.YtlocddfailmnpaaGreatDoor
