/-
  The tape: valid operations.
-/
import Derived.Test.YtlocddfailmnpaaGreatDoorQTa
import Derived.Test.YtlocddfailmnpaaGreatDoorQUa
import Derived.Test.YtlocddfailmnpaaGreatDoorQVa
import Derived.Test.YtlocddfailmnpaaGreatDoorQWx
import Derived.Test.YtlocddfailmnpaaGreatDoorQUb
set_option linter.unusedVariables false
set_option linter.unusedSimpArgs false
namespace Go.Proofs.YtlocddfailmnpaaGreatDoor
open Go Go.Sx
set_option maxRecDepth 100000
set_option maxHeartbeats 8000000
def zb5 (k:Int):Int:=if k=1 then 0 else if k=3∨k=4∨k=5∨k=6 then 2 else if k=7∨k=8∨k=9∨k=10∨k=11∨k=12∨k=13 then 1 else-1
theorem f129 (k:Int):Fn 29 [] [.int .i64 k] (.int .i64 (zb5 k)) []:=by
 refine fnT hT2 hmx Tryz.func29 rfl rfl (ex:= []) ?_;conv=>whnf
 repeat' first
  |(refine brI (fun h=>?_) (fun h=>?_)<;>(conv=>whnf))
  |refine And.intro (ai0 ?_) lh0
  |fail
 all_goals (simp only[beq_iff_eq,beq_eq_false_iff_ne,ne_eq]at*;unfold zb5;repeat' split)
 all_goals first|rfl|omega
def ibO (a n:Int):Bool:=decide (0≤a)&&decide (a<n)
def tB (o:TOp) (n:Int):Bool:=
 if o.k=1 then(o.a==0&&(o.b==0&&(o.n==0&&rOk o.c)))
 else if o.k=3∨o.k=4∨o.k=5∨o.k=6 then(ibO o.a n&&(ibO o.b n&&(o.n==0&&(o.c.n==0&&o.c.d==0))))
 else if o.k=8 then(ibO o.a n&&(o.b==0&&(decide (0≤o.n)&&decide (o.n≤16)&&(o.c.n==0&&o.c.d==0))))
 else if o.k=7∨o.k=9∨o.k=10∨o.k=11∨o.k=12∨o.k=13 then(ibO o.a n&&(o.b==0&&(o.n==0&&(o.c.n==0&&o.c.d==0))))
 else false
theorem f81 (o:TOp) (n:Int):Fn 66 [] [.agg (Elt.op.cells o),.int .i64 n] (.bool (tB o n)) []:=by
 obtain⟨k,a,b,p,⟨c,d⟩⟩:=o
 have h129:=f129 k
 by_cases h1:k=1
 ·subst h1
  have h54:=f54 c d
  obtain⟨v,hv⟩: ∃v,rOk ⟨c,d⟩=v:=⟨_,rfl⟩
  rw[hv]at h54
  refine fnT hT2 hmx Tryz.func66 rfl rfl (ex:= []) ?_;conv=>whnf
  refine⟨[],.int .i64 0,h129,?_⟩;conv=>whnf
  cases v with
  |false=>
   refine⟨[],.bool false,h54,?_⟩;conv=>whnf
   exact⟨ab0 (by simp[tB,hv]),lh0⟩
  |true=>
   refine⟨[],.bool true,h54,?_⟩;conv=>whnf
   exact⟨ab0 (by simp[tB,hv]),lh0⟩
 by_cases h2:k=3∨k=4∨k=5∨k=6
 ·rw[show zb5 k=2 by unfold zb5;rw[if_neg h1,if_pos h2]]at h129
  refine fnT hT2 hmx Tryz.func66 rfl rfl (ex:= []) ?_;conv=>whnf
  refine⟨[],.int .i64 2,h129,?_⟩;conv=>whnf
  refine brI (fun h=>absurd (show k=8 by simpa using h) (by omega)) (fun _=>?_)
  conv=>whnf
  repeat' first
   |(refine brI (fun h=>?_) (fun h=>?_)<;>(conv=>whnf))
   |refine And.intro (ab0 ?_) lh0
   |fail
  all_goals (simp only[decide_eq_true_eq,decide_eq_false_iff_not,beq_eq_false_iff_ne,beq_iff_eq,ne_eq]at*;rw[Bool.eq_iff_iff];simp[tB,ibO,h1,h2];try omega)
 by_cases h3:k=8
 ·subst h3
  rw[show zb5 8=1 from rfl]at h129
  refine fnT hT2 hmx Tryz.func66 rfl rfl (ex:= []) ?_;conv=>whnf
  refine⟨[],.int .i64 1,h129,?_⟩;conv=>whnf
  repeat' first
   |(refine brI (fun h=>?_) (fun h=>?_)<;>(conv=>whnf))
   |refine And.intro (ab0 ?_) lh0
   |fail
  all_goals (simp only[decide_eq_true_eq,decide_eq_false_iff_not,beq_eq_false_iff_ne,beq_iff_eq,ne_eq]at*;rw[Bool.eq_iff_iff];simp[tB,ibO];try omega)
 by_cases h4:k=7∨k=9∨k=10∨k=11∨k=12∨k=13
 ·rw[show zb5 k=1 by unfold zb5;rw[if_neg h1,if_neg h2,if_pos (by omega)]]at h129
  refine fnT hT2 hmx Tryz.func66 rfl rfl (ex:= []) ?_;conv=>whnf
  refine⟨[],.int .i64 1,h129,?_⟩;conv=>whnf
  refine brI (fun h=>absurd (show k=8 by simpa using h) h3) (fun _=>?_)
  conv=>whnf
  repeat' first
   |(refine brI (fun h=>?_) (fun h=>?_)<;>(conv=>whnf))
   |refine And.intro (ab0 ?_) lh0
   |fail
  all_goals (simp only[decide_eq_true_eq,decide_eq_false_iff_not,beq_eq_false_iff_ne,beq_iff_eq,ne_eq]at*;rw[Bool.eq_iff_iff];simp[tB,ibO,h1,h2,h3,h4];try omega)
 ·rw[show zb5 k= -1 by unfold zb5;rw[if_neg h1,if_neg h2,if_neg (by omega)]]at h129
  refine fnT hT2 hmx Tryz.func66 rfl rfl (ex:= []) ?_;conv=>whnf
  refine⟨[],.int .i64 (-1),h129,?_⟩;conv=>whnf
  exact⟨ab0 (by simp[tB,h1,h2,h3,h4]),lh0⟩
end Go.Proofs.YtlocddfailmnpaaGreatDoor

namespace Go.Proofs.YtlocddfailmnpaaGreatDoor
open Go Go.Sx
set_option maxRecDepth 100000
set_option maxHeartbeats 8000000
end Go.Proofs.YtlocddfailmnpaaGreatDoor

namespace Go.Proofs.YtlocddfailmnpaaGreatDoor
open Go Go.Sx
set_option maxRecDepth 100000
set_option maxHeartbeats 8000000
abbrev Ht (t:Tp):Hp:= [(1000003,.cells (tpC t))]
theorem qdv (t:Tp) {h h':Hp}:leH h h' (Ht t) (Ht t):=lh1 (bc0 (lc (lr rfl) (lc (lr rfl) (lc (lr rfl) ln0)))) lh0
def zqf (t:Tp) (k:Int):Bool:=decide (k<0)||decide (t.ins+t.ops.length≤k)
theorem f83 (t:Tp) (k:Int) (ht:0≤t.ins∧t.ins≤8∧t.ops.length≤200):Fn 68 (Ht t) [.int .i64 k,.ptr 1000003 0] (.bool (zqf t k)) (Ht t):=by
 refine fnT hT2 hmx Tryz.func68 rfl rfl (ex:= []) ?_;conv=>whnf
 refine brI (fun h=>?_) (fun h=>?_)
 ·conv=>whnf
  refine⟨ab0 ?_,qdv t⟩
  simp only[decide_eq_true_eq]at h
  simp[zqf,h]
 ·conv=>whnf
  refine⟨ab0 ?_,qdv t⟩
  simp only[decide_eq_false_iff_not]at h
  rw[wI (by omega)]
  simp[zqf,h]
theorem f130t (t:Tp) (ht:0≤t.ins∧t.ins≤8∧t.ops.length≤200) (l:List Int) (hlen:l.length<9223372036854775808):Fn 115 (Ht t) [.sl .int l,.fn 68 [.ptr 1000003 0]] (.int .i64 (ixP (zqf t) l 0)) (Ht t):=by
 refine fnT hT2 hmx Tryz.func115 rfl rfl (ex:= []) ?_;conv=>whnf
 refine⟨Nat,fun i=>i≤l.length∧ixP (zqf t) (l.drop i) i=ixP (zqf t) l 0,fun i=> [(8,.int .i64 i)],fun _=> [],fun i=>l.length-i,0,⟨by simp,rfl⟩,?_,fun i hi=>?_⟩
 ·((conv=>whnf);refine And.intro ?_ ?_;repeat' first|refine lc ?_ ?_|exact la0|exact lr rfl|exact ln0|refine lh1 ?_ ?_|exact lh0|exact bf0|exact bd0|refine bc0 ?_|exact bm0 rfl|exact bg0 rfl|exact li0 rfl|refine lg0 ?_|refine lt0 ?_|fail)
 (refine⟨by kernel_rfl,?_⟩;(conv=>whnf))
 obtain⟨hi1,hi2⟩:=hi
 refine brI (fun h1=>?_) (fun h1=>?_)
 ·conv=>whnf
  have hi:i<l.length:=by simp only[decide_eq_true_eq]at h1;omega
  refine⟨⟨by omega,by omega⟩,fun x hx=>?_⟩
  have hx:l[i]? =some x:=by simpa using hx
  have hm:=List.mem_of_getElem? hx
  rw[qp hx]at hi2
  simp only[ixP]at hi2
  conv=>whnf
  refine cbI [.cells (tpC t)] ((zqf t) x) (f83 t x ht) (fun h2=>?_) (fun h2=>?_)
  ·conv=>whnf
   rw[if_pos h2]at hi2
   exact⟨ai0 hi2,qdv t⟩
  ·conv=>whnf
   rw[if_neg (by rw[h2];simp)]at hi2
   refine⟨i+1,⟨by omega,hi2⟩,by show l.length-(i+1)<l.length-i;omega,?_⟩
   ((conv=>whnf);refine And.intro ?_ ?_;repeat' first|refine lc ?_ ?_|exact la0|exact lr rfl|exact ln0|refine lh1 ?_ ?_|exact lh0|exact bf0|exact bd0|refine bc0 ?_|exact bm0 rfl|exact bg0 rfl|exact li0 rfl|refine lg0 ?_|refine lt0 ?_|fail)
   exact ai0 (by rw[wI (by omega)];omega)
 ·conv=>whnf
  have hi: ¬i<l.length:=by simp only[decide_eq_false_iff_not]at h1;omega
  rw[List.drop_of_length_le (by omega)]at hi2
  exact⟨ai0 hi2,qdv t⟩
theorem f82t (t:Tp) (ht:0≤t.ins∧t.ins≤8∧t.ops.length≤200) (l:List Int) (hlen:l.length<9223372036854775808):Fn 67 (Ht t) [.sl .int l,.fn 68 [.ptr 1000003 0]] (.bool (l.any (zqf t))) (Ht t):=by
 refine fnT hT2 hmx Tryz.func67 rfl rfl (ex:= []) ?_;conv=>whnf
 refine⟨[.cells (tpC t)],_,f130t t ht l hlen,?_⟩;conv=>whnf
 exact⟨ab0 (by rw[Bool.eq_iff_iff,decide_eq_true_eq];exact zac (zqf t) l 0),qdv t⟩
def zwa (o:TOp):Bool:=decide (o.k>8)
theorem f86 (o:TOp):Fn 71 [] [.agg (Elt.op.cells o)] (.bool (zwa o)) []:=by
 refine fnT hT2 hmx Tryz.func71 rfl rfl (ex:= []) ?_;conv=>whnf
 exact⟨ab0 rfl,lh0⟩
theorem f133t (l:List TOp) (hlen:l.length<9223372036854775808):Fn 116 [] [.sl .op l,.fn 71 []] (.int .i64 (ixP zwa l 0)) []:=by
 refine fnT hT2 hmx Tryz.func116 rfl rfl (ex:= []) ?_;conv=>whnf
 refine⟨Nat,fun i=>i≤l.length∧ixP zwa (l.drop i) i=ixP zwa l 0,fun i=> [(8,.int .i64 i)],fun _=> [],fun i=>l.length-i,0,⟨by simp,rfl⟩,?_,fun i hi=>?_⟩
 ·((conv=>whnf);refine And.intro ?_ ?_;repeat' first|refine lc ?_ ?_|exact la0|exact lr rfl|exact ln0|refine lh1 ?_ ?_|exact lh0|exact bf0|exact bd0|refine bc0 ?_|exact bm0 rfl|exact bg0 rfl|exact li0 rfl|refine lg0 ?_|refine lt0 ?_|fail)
 (refine⟨by kernel_rfl,?_⟩;(conv=>whnf))
 obtain⟨hi1,hi2⟩:=hi
 refine brI (fun h1=>?_) (fun h1=>?_)
 ·conv=>whnf
  have hi:i<l.length:=by simp only[decide_eq_true_eq]at h1;omega
  refine⟨⟨by omega,by omega⟩,fun x hx=>?_⟩
  have hx:l[i]? =some x:=by simpa using hx
  have hm:=List.mem_of_getElem? hx
  rw[qp hx]at hi2
  simp only[ixP]at hi2
  conv=>whnf
  refine cbI [] (zwa x) (f86 x) (fun h2=>?_) (fun h2=>?_)
  ·conv=>whnf
   rw[if_pos h2]at hi2
   exact⟨ai0 hi2,lh0⟩
  ·conv=>whnf
   rw[if_neg (by rw[h2];simp)]at hi2
   refine⟨i+1,⟨by omega,hi2⟩,by show l.length-(i+1)<l.length-i;omega,?_⟩
   ((conv=>whnf);refine And.intro ?_ ?_;repeat' first|refine lc ?_ ?_|exact la0|exact lr rfl|exact ln0|refine lh1 ?_ ?_|exact lh0|exact bf0|exact bd0|refine bc0 ?_|exact bm0 rfl|exact bg0 rfl|exact li0 rfl|refine lg0 ?_|refine lt0 ?_|fail)
   exact ai0 (by rw[wI (by omega)];omega)
 ·conv=>whnf
  have hi: ¬i<l.length:=by simp only[decide_eq_false_iff_not]at h1;omega
  rw[List.drop_of_length_le (by omega)]at hi2
  exact⟨ai0 hi2,lh0⟩
theorem f85t (l:List TOp) (hlen:l.length<9223372036854775808):Fn 70 [] [.sl .op l,.fn 71 []] (.bool (l.any zwa)) []:=by
 refine fnT hT2 hmx Tryz.func70 rfl rfl (ex:= []) ?_;conv=>whnf
 refine gZn (f133t l hlen) ?_;conv=>whnf
 exact⟨ab0 (by rw[Bool.eq_iff_iff,decide_eq_true_eq];exact zac zwa l 0),lh0⟩
def zds:List TOp→Int→Bool
 | [],_=>true
 |o::l,n=>tB o n&&zds l (n+1)
def tvB (t:Tp):Bool:=decide (0≤t.ins∧t.ins≤8∧t.ops.length≤200∧t.outs.length≤200)&&(zds t.ops t.ins&& !t.outs.any (zqf t))
theorem f41 (t:Tp) (h1:t.ops.length<9223372036854775808) (h2:t.outs.length<9223372036854775808):Fn 21 [] [.agg (tpC t)] (.bool (tvB t)) []:=by
 obtain⟨V,hV⟩: ∃V,tvB t=V:=⟨_,rfl⟩
 rw[hV]
 unfold tvB at hV
 refine fnT hT2 hmx Tryz.func21 rfl rfl (ex:= []) ?_;conv=>whnf
 refine brI (fun h=>?_) (fun h=>?_)
 ·conv=>whnf
  exact⟨ab0 (by rw[←hV];simp only[decide_eq_true_eq]at h;simp;omega),lh0⟩
 have c1: ¬t.ins<0:=by simpa using h
 conv=>whnf
 refine brI (fun h=>?_) (fun h=>?_)
 ·conv=>whnf
  exact⟨ab0 (by rw[←hV];simp only[decide_eq_true_eq]at h;simp;omega),lh0⟩
 have c2: ¬t.ins>8:=by simpa using h
 conv=>whnf
 refine brI (fun h=>?_) (fun h=>?_)
 ·conv=>whnf
  exact⟨ab0 (by rw[←hV];simp only[decide_eq_true_eq]at h;simp;omega),lh0⟩
 have c3: ¬(t.ops.length:Int)>200:=by simpa using h
 conv=>whnf
 refine brI (fun h=>?_) (fun h=>?_)
 ·conv=>whnf
  exact⟨ab0 (by rw[←hV];simp only[decide_eq_true_eq]at h;simp;omega),lh0⟩
 have c4: ¬(t.outs.length:Int)>200:=by simpa using h
 have ht:0≤t.ins∧t.ins≤8∧t.ops.length≤200:=by omega
 rw[decide_eq_true (by omega),Bool.true_and]at hV
 conv=>whnf
 refine⟨Nat,fun i=>i≤t.ops.length∧zds (t.ops.drop i) (t.ins+i)=zds t.ops t.ins,fun i=> [(28,.int .i64 i)],fun _=> [],fun i=>t.ops.length-i,0,⟨by simp,by simp⟩,?_,fun i hi=>?_⟩
 ·((conv=>whnf);refine And.intro ?_ ?_;repeat' first|refine lc ?_ ?_|exact la0|exact lr rfl|exact ln0|refine lh1 ?_ ?_|exact lh0|exact bf0|exact bd0|refine bc0 ?_|exact bm0 rfl|exact bg0 rfl|exact li0 rfl|refine lg0 ?_|refine lt0 ?_|fail)
 (refine⟨by kernel_rfl,?_⟩;(conv=>whnf))
 obtain⟨hi1,hi2⟩:=hi
 refine brI (fun h=>?_) (fun h=>?_)
 ·conv=>whnf
  have hi:i<t.ops.length:=by simp only[decide_eq_true_eq]at h;omega
  refine⟨⟨by omega,by omega⟩,fun x hx=>?_⟩
  have hx:t.ops[i]? =some x:=by simpa using hx
  rw[qp hx]at hi2
  simp only[zds]at hi2
  conv=>whnf
  have h81:Fn 66 [] [.agg (Elt.op.cells x),.int .i64 (IntKind.i64.wrap (t.ins+(i:Int)))] (.bool (tB x (t.ins+i))) []:=by
   rw[wI (by omega)];exact f81 x (t.ins+i)
  refine cbI [] (tB x (t.ins+i)) h81 (fun h5=>?_) (fun h5=>?_)
  ·conv=>whnf
   rw[h5]at hi2
   refine⟨i+1,⟨by omega,by rw[←hi2,Bool.true_and];congr 1;omega⟩,by show t.ops.length-(i+1)<t.ops.length-i;omega,?_⟩
   ((conv=>whnf);refine And.intro ?_ ?_;repeat' first|refine lc ?_ ?_|exact la0|exact lr rfl|exact ln0|refine lh1 ?_ ?_|exact lh0|exact bf0|exact bd0|refine bc0 ?_|exact bm0 rfl|exact bg0 rfl|exact li0 rfl|refine lg0 ?_|refine lt0 ?_|fail)
   exact ai0 (by rw[wI (by omega)];omega)
  ·conv=>whnf
   rw[h5,Bool.false_and]at hi2
   exact⟨ab0 (by rw[←hV,←hi2];rfl),lh0⟩
 have hi: ¬i<t.ops.length:=by simp only[decide_eq_false_iff_not]at h;omega
 have hb:zds t.ops t.ins=true:=by rw[←hi2,List.drop_of_length_le (by omega)];rfl
 rw[hb,Bool.true_and]at hV
 conv=>whnf
 refine cbI [.cells (tpC t)] (t.outs.any (zqf t)) ((f82t t ht t.outs h2).sw [(1,1000003)] rfl) (fun h5=>?_) (fun h5=>?_)
 ·conv=>whnf
  exact⟨ab0 (by rw[←hV,h5]),lh0⟩
 ·conv=>whnf
  exact⟨ab0 (by rw[←hV,h5]),lh0⟩
def trB (t:Tp):Bool:=tvB t&& !t.ops.any zwa
theorem f43 (t:Tp) (h1:t.ops.length<9223372036854775808) (h2:t.outs.length<9223372036854775808):Fn 27 [] [.agg (tpC t)] (.bool (trB t)) []:=by
 refine fnT hT2 hmx Tryz.func27 rfl rfl (ex:= []) ?_;conv=>whnf
 refine cbI [] (tvB t) (f41 t h1 h2) (fun h=>?_) (fun h=>?_)
 ·conv=>whnf
  refine cbI [] (t.ops.any zwa) (f85t t.ops h1) (fun h5=>?_) (fun h5=>?_)
  ·conv=>whnf
   exact⟨ab0 (by simp[trB,h,h5]),lh0⟩
  ·conv=>whnf
   exact⟨ab0 (by simp[trB,h,h5]),lh0⟩
 ·conv=>whnf
  exact⟨ab0 (by simp[trB,h]),lh0⟩
end Go.Proofs.YtlocddfailmnpaaGreatDoor

namespace Go.Proofs.YtlocddfailmnpaaGreatDoor
open Go Go.Sx
set_option maxRecDepth 100000
set_option maxHeartbeats 8000000
def bdE (t:Tp) (ns:List zf):Nat→Int→Int→Ex×Int
 |0,_,left=>(zle,left-1)
 |f+1,i,left=>if left-1<0 then(zle,left-1)else if i<t.ins then(zei (ns[i.toNat]?.getD []),left-1)else
  match t.ops[(i-t.ins).toNat]? with
  |none=>(zle,left-1)
  |some o=>if zb5 o.k=0 then(.mk o.k o.c [] o.n [],left-1)else if zb5 o.k=1 then(.mk o.k o.c [] o.n [(bdE t ns f o.a (left-1)).1],(bdE t ns f o.a (left-1)).2)
   else(.mk o.k o.c [] o.n [(bdE t ns f o.a (left-1)).1,(bdE t ns f o.b (bdE t ns f o.a (left-1)).2).1],(bdE t ns f o.b (bdE t ns f o.a (left-1)).2).2)
theorem zev: ∀ {l:List TOp} {n:Int} {j:Nat} {o:TOp},zds l n=true→l[j]? =some o→tB o (n+j)=true
 | [],_,j,o,_,h=>by simp at h
 |x::l,n,0,o,hb,h=>by
  simp only[zds,Bool.and_eq_true]at hb
  simp at h;subst h
  simpa using hb.1
 |x::l,n,j+1,o,hb,h=>by
  simp only[zds,Bool.and_eq_true]at hb
  have:=zev hb.2 (by simpa using h)
  have e:n+((j+1:Nat):Int)=n+1+(j:Int):=by omega
  rw[e];exact this
theorem zdp {o:TOp} {n:Int} (h:tB o n=true):(zb5 o.k=0)∨(zb5 o.k=1∧0≤o.a∧o.a<n)∨(zb5 o.k=2∧(0≤o.a∧o.a<n)∧0≤o.b∧o.b<n):=by
 unfold tB at h
 unfold zb5
 by_cases h1:o.k=1
 ·simp[h1]
 ·by_cases h2:o.k=3∨o.k=4∨o.k=5∨o.k=6
  ·rw[if_neg h1,if_pos h2]at h
   simp only[ibO,Bool.and_eq_true,decide_eq_true_eq]at h
   rw[if_neg h1,if_pos h2]
   exact .inr (.inr ⟨rfl,h.1,h.2.1⟩)
  ·by_cases h3:o.k=8
   ·rw[if_neg h1,if_neg h2,if_pos h3]at h
    simp only[ibO,Bool.and_eq_true,decide_eq_true_eq]at h
    rw[if_neg h1,if_neg h2,if_pos (by omega)]
    exact .inr (.inl ⟨rfl,h.1⟩)
   ·by_cases h4:o.k=7∨o.k=9∨o.k=10∨o.k=11∨o.k=12∨o.k=13
    ·rw[if_neg h1,if_neg h2,if_neg h3,if_pos h4]at h
     simp only[ibO,Bool.and_eq_true,decide_eq_true_eq]at h
     rw[if_neg h1,if_neg h2,if_pos (by omega)]
     exact .inr (.inl ⟨rfl,h.1⟩)
    ·rw[if_neg h1,if_neg h2,if_neg h3,if_neg h4]at h;cases h
section
variable (t:Tp) (ns:List zf) (hv:tvB t=true) (hns:(ns.length:Int)=t.ins)
include hv hns
end
end Go.Proofs.YtlocddfailmnpaaGreatDoor

namespace Go.Proofs.YtlocddfailmnpaaGreatDoor
open Go Go.Sx
set_option maxRecDepth 100000
set_option maxHeartbeats 8000000
theorem f78 (s:zf):Fn 24 [] [.str s] (.agg (exC (zei s))) []:=by
 refine fnT hT2 hmx Tryz.func24 rfl rfl (ex:= []) ?_;conv=>whnf
 exact⟨lg0 (lc (lr rfl) (lc (lr rfl) (lc (lr rfl) (lc (lr rfl) (lc (lr rfl) (lc (li0 rfl) ln0)))))),lh0⟩
theorem f77 (k:Int) (a b:Ex):Fn 23 [] [.int .i64 k,.agg (exC a),.agg (exC b)] (.agg (exC (opE k 0 [a,b]))) []:=by
 cases a
 cases b
 refine fnT hT2 hmx Tryz.func23 rfl rfl (ex:= []) ?_;conv=>whnf
 exact⟨lr rfl,lh0⟩
theorem f79 (l m:List TOp) (hl:l.length<9223372036854775808):Fn 25 [] [.sl .op l,.sl .op m] (.bool (decide (l=m))) []:=by
 refine fnT hT2 hmx Tryz.func25 rfl rfl (ex:= []) ?_;conv=>whnf
 refine brI (fun h1=>?_) (fun h1=>?_)
 ·conv=>whnf
  have h1:l.length≠m.length:=by simp only[bne_iff_ne,ne_eq]at h1;omega
  exact⟨ab0 (decide_eq_false (p:=l=m) fun e=>h1 (by rw[e])).symm,lh0⟩
 have h1:l.length=m.length:=by simp only[bne_eq_false_iff_eq]at h1;omega
 conv=>whnf
 refine⟨Nat,fun i=>i≤l.length∧l.take i=m.take i,fun i=> [(13,.int .i64 i)],fun _=> [],fun i=>l.length-i,0,⟨by omega,by simp⟩,?_,fun i hi=>?_⟩
 ·((conv=>whnf);refine And.intro ?_ ?_;repeat' first|refine lc ?_ ?_|exact la0|exact lr rfl|exact ln0|refine lh1 ?_ ?_|exact lh0|exact bf0|exact bd0|refine bc0 ?_|exact bm0 rfl|exact bg0 rfl|exact li0 rfl|refine lg0 ?_|refine lt0 ?_|fail)
 (refine⟨by kernel_rfl,?_⟩;(conv=>whnf))
 obtain⟨hi1,hi2⟩:=hi
 refine brI (fun h2=>?_) (fun h2=>?_)
 ·conv=>whnf
  have hi:i<l.length:=by simp only[decide_eq_true_eq]at h2;omega
  refine⟨⟨by omega,by omega⟩,fun(x:TOp) hx=>?_⟩
  have hx:l[i]? =some x:=by simpa using hx
  conv=>whnf
  refine⟨⟨by omega,by omega⟩,fun(y:TOp) hy=>?_⟩
  have hy:m[i]? =some y:=by simpa using hy
  conv=>whnf
  (refine⟨by kernel_rfl,by kernel_rfl,?_⟩;(conv=>whnf))
  refine brI (fun h3=>?_) (fun h3=>?_)
  ·conv=>whnf
   have h3:x≠y:=by
    intro e;subst e
    simp at h3
   refine⟨ab0 (decide_eq_false (p:=l=m) fun e=>h3 ?_).symm,lh0⟩
   rw[e,hy]at hx
   exact(Option.some.inj hx).symm
  ·conv=>whnf
   have h3:x=y:=by
    obtain⟨k,a,b,p,⟨c,d⟩⟩:=x
    obtain⟨k',a',b',p',⟨c',d'⟩⟩:=y
    simpa using h3
   refine⟨i+1,⟨by omega,?_⟩,by show l.length-(i+1)<l.length-i;omega,?_⟩
   ·rw[List.take_add_one,List.take_add_one,hi2,hx,hy,h3]
   ·((conv=>whnf);refine And.intro ?_ ?_;repeat' first|refine lc ?_ ?_|exact la0|exact lr rfl|exact ln0|refine lh1 ?_ ?_|exact lh0|exact bf0|exact bd0|refine bc0 ?_|exact bm0 rfl|exact bg0 rfl|exact li0 rfl|refine lg0 ?_|refine lt0 ?_|fail)
    exact ai0 (by rw[wI (by omega)];omega)
 ·conv=>whnf
  have hi: ¬i<l.length:=by simp only[decide_eq_false_iff_not]at h2;omega
  rw[List.take_of_length_le (by omega),List.take_of_length_le (by omega)]at hi2
  exact⟨ab0 (decide_eq_true hi2).symm,lh0⟩
theorem f80 (l m:List Int) (hl:l.length<9223372036854775808):Fn 26 [] [.sl .int l,.sl .int m] (.bool (decide (l=m))) []:=by
 refine fnT hT2 hmx Tryz.func26 rfl rfl (ex:= []) ?_;conv=>whnf
 refine brI (fun h1=>?_) (fun h1=>?_)
 ·conv=>whnf
  have h1:l.length≠m.length:=by simp only[bne_iff_ne,ne_eq]at h1;omega
  exact⟨ab0 (decide_eq_false (p:=l=m) fun e=>h1 (by rw[e])).symm,lh0⟩
 have h1:l.length=m.length:=by simp only[bne_eq_false_iff_eq]at h1;omega
 conv=>whnf
 refine⟨Nat,fun i=>i≤l.length∧l.take i=m.take i,fun i=> [(13,.int .i64 i)],fun _=> [],fun i=>l.length-i,0,⟨by omega,by simp⟩,?_,fun i hi=>?_⟩
 ·((conv=>whnf);refine And.intro ?_ ?_;repeat' first|refine lc ?_ ?_|exact la0|exact lr rfl|exact ln0|refine lh1 ?_ ?_|exact lh0|exact bf0|exact bd0|refine bc0 ?_|exact bm0 rfl|exact bg0 rfl|exact li0 rfl|refine lg0 ?_|refine lt0 ?_|fail)
 (refine⟨by kernel_rfl,?_⟩;(conv=>whnf))
 obtain⟨hi1,hi2⟩:=hi
 refine brI (fun h2=>?_) (fun h2=>?_)
 ·conv=>whnf
  have hi:i<l.length:=by simp only[decide_eq_true_eq]at h2;omega
  refine⟨⟨by omega,by omega⟩,fun(x:Int) hx=>?_⟩
  have hx:l[i]? =some x:=by simpa using hx
  conv=>whnf
  refine⟨⟨by omega,by omega⟩,fun(y:Int) hy=>?_⟩
  have hy:m[i]? =some y:=by simpa using hy
  conv=>whnf
  (refine⟨by kernel_rfl,by kernel_rfl,?_⟩;(conv=>whnf))
  refine brI (fun h3=>?_) (fun h3=>?_)
  ·conv=>whnf
   have h3:x≠y:=by
    intro e;subst e
    simp at h3
   refine⟨ab0 (decide_eq_false (p:=l=m) fun e=>h3 ?_).symm,lh0⟩
   rw[e,hy]at hx
   exact(Option.some.inj hx).symm
  ·conv=>whnf
   have h3:x=y:=by
    simpa using h3
   refine⟨i+1,⟨by omega,?_⟩,by show l.length-(i+1)<l.length-i;omega,?_⟩
   ·rw[List.take_add_one,List.take_add_one,hi2,hx,hy,h3]
   ·((conv=>whnf);refine And.intro ?_ ?_;repeat' first|refine lc ?_ ?_|exact la0|exact lr rfl|exact ln0|refine lh1 ?_ ?_|exact lh0|exact bf0|exact bd0|refine bc0 ?_|exact bm0 rfl|exact bg0 rfl|exact li0 rfl|refine lg0 ?_|refine lt0 ?_|fail)
    exact ai0 (by rw[wI (by omega)];omega)
 ·conv=>whnf
  have hi: ¬i<l.length:=by simp only[decide_eq_false_iff_not]at h2;omega
  rw[List.take_of_length_le (by omega),List.take_of_length_le (by omega)]at hi2
  exact⟨ab0 (decide_eq_true hi2).symm,lh0⟩
abbrev awX:Ex:=opE 5 0 [zei [120],zei [121]]
abbrev awU:Ex:=zjc ⟨1,1⟩
abbrev awA:Ex:=opE 3 0 [awX,awX]
abbrev awB:Ex:=opE 4 0 [awU,awX]
abbrev awN:List zf:= [[120],[121]]
abbrev awO:List TOp:= [⟨5,0,1,0,⟨0,0⟩⟩,⟨3,2,2,0,⟨0,0⟩⟩,⟨1,0,0,0,⟨1,1⟩⟩,⟨4,4,2,0,⟨0,0⟩⟩]
abbrev awT:Tp:=⟨2,awO,[3,5]⟩
theorem znp {ns:List zf} {e:Ex} (h:okT e=true):zsk ns e=false↔ ∀y∈xw e,y.k=2→y.s∈ns:=by
 unfold zsk
 rw[List.any_eq_false]
 have key: ∀s:zf,¬zql ns s=true↔s∈ns:=fun s=>by
  unfold zql
  rw[Bool.not_eq_true',Bool.not_eq_false,List.any_eq_true]
  constructor
  ·rintro⟨x,hx,he⟩
   have:s=x:=by simpa[eqS]using he
   rw[this];exact hx
  ·intro hs;exact⟨s,hs,by simp[eqS]⟩
 constructor
 ·intro h1 y hy h2
  exact(key _).1 (h1 y.s ((zst h).2 ⟨y,hy,h2,rfl⟩))
 ·intro h1 s hs
  obtain⟨y,hy,h2,rfl⟩:=(zst h).1 hs
  exact(key _).2 (h1 y hy h2)
theorem zt7:okT awA=true:=by decide+kernel
theorem zt6:okT awB=true:=by decide+kernel
theorem aw_cp:cpE [awA,awB] awN=(awT,0):=by
 unfold cpE
 rw[if_neg (by simp only[List.any_cons,List.any_nil,zk6,zt7,zt6];decide+kernel),if_neg (by decide),if_neg (by decide+kernel),if_neg ?_,if_neg (by decide+kernel)]
 ·kernel_rfl
 ·simp only[List.any_cons,List.any_nil,Bool.or_false,Bool.or_eq_true,Bool.not_eq_true,not_or]
  refine⟨(znp zt7).2 ?_,(znp zt6).2 ?_⟩
  ·decide+kernel
  ·decide+kernel
theorem f40:Fn 6 [] [] (.bool true) []:=by
 have h46:=f46 [awA,awB] awN (fun x hx=>by
  simp only[List.mem_cons,List.not_mem_nil,or_false]at hx
  rcases hx with rfl|rfl
  ·exact qfe (zcy zt7)
  ·exact qfe (zcy zt6)) (by decide) (by decide) (by decide)
 rw[aw_cp]at h46
 have h41:=f41 awT (by decide) (by decide)
 have h43:=f43 awT (by decide) (by decide)
 rw[show tvB awT=true by decide+kernel]at h41
 rw[show trB awT=true by decide+kernel]at h43
 have h79:=f79 awO awO (by decide)
 have h80:=f80 [3,5] [3,5] (by decide)
 rw[decide_eq_true rfl]at h79 h80
 refine fnT hT2 hmx Tryz.func6 rfl rfl (ex:= []) ?_;conv=>whnf
 refine gZn (f78 [120]) ?_;conv=>whnf
 refine gZn (f78 [121]) ?_;conv=>whnf
 refine gZn (f77 5 (zei [120]) (zei [121])) ?_;conv=>whnf
 refine gZn (f77 3 awX awX) ?_;conv=>whnf
 refine gZn (nil2 (k:=1) (q:=⟨1,1⟩) (s:= []) (p:=0) (f77 4 awU awX)) ?_;conv=>whnf
 refine gZn h46 ?_;conv=>whnf
 (refine⟨by kernel_rfl,by kernel_rfl,?_⟩;(conv=>whnf))
 refine gZn h79 ?_;conv=>whnf
 refine gZn h80 ?_;conv=>whnf
 refine gZn h41 ?_;conv=>whnf
 refine gZn h43 ?_;conv=>whnf
 exact⟨lr rfl,lh0⟩
end Go.Proofs.YtlocddfailmnpaaGreatDoor

namespace Go.Proofs.YtlocddfailmnpaaGreatDoor
open Go Go.Sx
set_option maxRecDepth 100000
set_option maxHeartbeats 8000000
def trE (t:Tp) (i:Int) (ns:List zf):Ex×Int:=
 if tvB t=false∨(ns.length:Int)≠t.ins∨ns.any zk5=true then(zle,1)else if twB ns=true then(zle,8)else if i<0∨t.ins+t.ops.length≤i then(zle,2)
 else if(bdE t ns (i.toNat+1) i 200).2<0∨okT (bdE t ns (i.toNat+1) i 200).1=false then(zle,5)else((bdE t ns (i.toNat+1) i 200).1,0)
theorem f45 (l:List Ex):Fn 14 [] [.sl .ex l] (.bool (decide (8<l.length)&&decide (l.length≤200))) []:=by
 refine fnT hT2 hmx Tryz.func14 rfl rfl (ex:= []) ?_;conv=>whnf
 refine brI (fun h=>?_) (fun h=>?_)
 ·conv=>whnf
  refine⟨ab0 ?_,lh0⟩
  simp only[decide_eq_true_eq]at h
  rw[Bool.eq_iff_iff];simp;omega
 ·conv=>whnf
  refine⟨ab0 ?_,lh0⟩
  simp only[decide_eq_false_iff_not]at h
  rw[Bool.eq_iff_iff];simp;omega
end Go.Proofs.YtlocddfailmnpaaGreatDoor

namespace Go.Proofs.YtlocddfailmnpaaGreatDoor
open Go Go.Sx
theorem zqp (a b:TOp):zft .op a b=decide (a=b):=by
 rw[Bool.eq_iff_iff,decide_eq_true_eq]
 exact beq_iff_eq (α:=TOp)
theorem qdp (x y:TOp) (r z:Int): ∀es:List (TOp×Int),zbd .op x z (yz .op y r es)=if x=y then r else zbd .op x z es
 | []=>by
   by_cases h:x=y
   ·subst h;simp[yz,zbd,zqp]
   ·simp[yz,zbd,zqp,h]
 |(w,v)::l=>by
  have ih:=qdp x y r z l
  by_cases h:y=w
  ·subst h
   by_cases h2:x=y
   ·subst h2;simp[yz,zbd,zqp]
   ·simp[yz,zbd,zqp,h2]
  ·by_cases h2:x=w
   ·subst h2
    have h': ¬x=y:=fun e=>h e.symm
    simp[yz,zbd,zqp,h,h']
   ·simp[yz,zbd,zqp,h,h2];simpa using ih
theorem zz1 (x y:TOp) (r:Int): ∀es:List (TOp×Int),yr .op x (yz .op y r es)=(decide (x=y)||yr .op x es)
 | []=>by
   by_cases h:x=y
   ·subst h;simp[yz,yr,zqp]
   ·simp[yz,yr,zqp,h]
 |(w,v)::l=>by
  have ih:=zz1 x y r l
  by_cases h:y=w
  ·subst h
   by_cases h2:x=y
   ·subst h2;simp[yz,yr,zqp]
   ·simp[yz,yr,zqp,h2]
  ·by_cases h2:x=w
   ·subst h2;simp[yz,yr,zqp,h]
   ·simp[yz,yr,zqp,h,h2];simpa using ih
def zup (ins:Int) (st:BS):Prop:=zds st.1 ins=true∧(∀x,yr .op x st.2=true→ ∃j:Nat,st.1[j]? =some x∧zbd .op x 0 st.2=ins+j)∧ ∀x∈st.1,yr .op x st.2=true
theorem znm: ∀(l:List TOp) (n:Int) (x:TOp),zds (l++ [x]) n=(zds l n&&tB x (n+l.length))
 | [],n,x=>by simp[zds]
 |o::l,n,x=>by
  simp only[List.cons_append,zds,znm l,List.length_cons,Bool.and_assoc]
  have e:n+1+(l.length:Int)=n+((l.length+1:Nat):Int):=by omega
  rw[e]
theorem zze {ins:Int} {x:TOp} {st:BS} (h:zup ins st) (hx:tB x (ins+st.1.length)=true):
 zup ins (zcv ins x st).2∧(∃tl,(zcv ins x st).2.1=st.1++tl)∧ ∃j:Nat,(zcv ins x st).1=ins+j∧(zcv ins x st).2.1[j]? =some x:=by
 obtain⟨h1,h2,h3⟩:=h
 unfold zcv
 cases hh:yr .op x st.2 with
 |true=>
  obtain⟨j,h4,h5⟩:=h2 x hh
  simp only[if_true]
  exact⟨⟨h1,h2,h3⟩,⟨[],by simp⟩,j,h5,h4⟩
 |false=>
  simp only[Bool.false_eq_true,if_false]
  refine⟨⟨?_,fun y hy=>?_,fun y hy=>?_⟩,⟨[x],rfl⟩,st.1.length,rfl,by simp⟩
  ·simp only;rw[znm,h1,hx];rfl
  ·simp only at hy⊢
   rw[zz1]at hy
   rw[qdp]
   by_cases e:y=x
   ·subst e
    exact⟨st.1.length,by simp,by simp⟩
   ·have hy:yr .op y st.2=true:=by simpa[e]using hy
    obtain⟨j,h4,h5⟩:=h2 y hy
    refine⟨j,?_,by simp[e,h5]⟩
    rw[List.getElem?_append_left (List.getElem?_eq_some_iff.1 h4).1];exact h4
  ·simp only at hy⊢
   rw[zz1]
   rcases List.mem_append.1 hy with hy|hy
   ·rw[h3 y hy,Bool.or_true]
   ·have:y=x:=by simpa using hy
    simp[this]
inductive Dn (ins:Nat) (ns:List zf) (ops:List TOp):Int→Ex→Prop
 |var (i:Nat) (s:zf):ns[i]? =some s→i<ins→Dn ins ns ops i (zei s)
 |num (j:Nat) (r:Rt):ops[j]? =some ⟨1,0,0,0,r⟩→Dn ins ns ops ((ins:Int)+j) (zjc r)
 |one (j:Nat) (k n A:Int) (a:Ex):ops[j]? =some ⟨k,A,0,n,⟨0,0⟩⟩→zb5 k=1→0≤A→A<(ins:Int)+j→Dn ins ns ops A a→Dn ins ns ops ((ins:Int)+j) (opE k n [a])
 |two (j:Nat) (k A B:Int) (a b:Ex):ops[j]? =some ⟨k,A,B,0,⟨0,0⟩⟩→zb5 k=2→0≤A→A<(ins:Int)+j→0≤B→B<(ins:Int)+j→Dn ins ns ops A a→Dn ins ns ops B b→Dn ins ns ops ((ins:Int)+j) (opE k 0 [a,b])
theorem Dn.mono {ins:Nat} {ns:List zf} {ops:List TOp} {i:Int} {e:Ex} (h:Dn ins ns ops i e) (tl:List TOp):Dn ins ns (ops++tl) i e:=by
 have hg: ∀ {j:Nat} {o:TOp},ops[j]? =some o→(ops++tl)[j]? =some o:=fun {j o} h=>by
  rw[List.getElem?_append_left (List.getElem?_eq_some_iff.1 h).1];exact h
 induction h with
 |var i s h1 h2=>exact .var i s h1 h2
 |num j r h1=>exact .num j r (hg h1)
 |one j k n A a h1 h2 h3 h4 _ ih=>exact .one j k n A a (hg h1) h2 h3 h4 ih
 |two j k A B a b h1 h2 h3 h4 h5 h6 _ _ ih1 ih2=>exact .two j k A B a b (hg h1) h2 h3 h4 h5 h6 ih1 ih2
theorem zh9 (e:Ex):1≤xk e:=by cases e;simp[xk]
theorem Dn.bd {ins:Nat} {ns:List zf} {ops:List TOp} {outs:List Int} {i:Int} {e:Ex} (h:Dn ins ns ops i e): ∀(f:Nat) (left:Int),i<f→(xk e:Int)≤left→bdE ⟨ins,ops,outs⟩ ns f i left=(e,left-xk e):=by
 induction h with
 |var i s h1 h2=>
  intro f left hf hl
  have hs:xk (zei s)=1:=by simp[zei,xk,zdr]
  rw[hs]at hl⊢
  obtain⟨f,rfl⟩: ∃g,f=g+1:=⟨f-1,by omega⟩
  have e1:((i:Nat):Int).toNat =i:=by omega
  simp only[bdE]
  rw[if_neg (by omega),if_pos (by omega),e1,h1]
  simp only[Option.getD_some,Prod.mk.injEq,true_and];omega
 |num j r h1=>
  intro f left hf hl
  have hs:xk (zjc r)=1:=by simp[zjc,xk,zdr]
  rw[hs]at hl⊢
  obtain⟨f,rfl⟩: ∃g,f=g+1:=⟨f-1,by omega⟩
  have e1:((ins:Int)+(j:Int)-(ins:Int)).toNat =j:=by omega
  simp only[bdE]
  rw[if_neg (by omega),if_neg (by omega),e1,h1]
  simp only
  rw[if_pos (by rfl)]
  simp only[zjc,Prod.mk.injEq,true_and];omega
 |one j k n A a h1 h2 h3 h4 _ ih=>
  intro f left hf hl
  have hs:xk (opE k n [a])=xk a+1:=by simp[opE,xk,zdr]
  rw[hs]at hl⊢
  obtain⟨f,rfl⟩: ∃g,f=g+1:=⟨f-1,by omega⟩
  have e1:((ins:Int)+(j:Int)-(ins:Int)).toNat =j:=by omega
  have hp:=zh9 a
  have iha:=ih f (left-1) (by omega) (by omega)
  simp only[bdE]
  rw[if_neg (by omega),if_neg (by omega),e1,h1]
  simp only
  rw[if_neg (by rw[h2];omega),if_pos h2,iha]
  simp only[opE,Prod.mk.injEq,true_and];omega
 |two j k A B a b h1 h2 h3 h4 h5 h6 _ _ ih1 ih2=>
  intro f left hf hl
  have hs:xk (opE k 0 [a,b])=xk a+xk b+1:=by simp[opE,xk,zdr]
  rw[hs]at hl⊢
  obtain⟨f,rfl⟩: ∃g,f=g+1:=⟨f-1,by omega⟩
  have e1:((ins:Int)+(j:Int)-(ins:Int)).toNat =j:=by omega
  have hp:=zh9 a
  have hp2:=zh9 b
  have iha:=ih1 f (left-1) (by omega) (by omega)
  have ihb:=ih2 f (left-1-xk a) (by omega) (by omega)
  simp only[bdE]
  rw[if_neg (by omega),if_neg (by omega),e1,h1]
  simp only
  rw[if_neg (by rw[h2];omega),if_neg (by rw[h2];omega),iha]
  simp only
  rw[ihb]
  simp only[opE,Prod.mk.injEq,true_and];omega
theorem qdz {ns:List zf} {s:zf} (h:s∈ns): ∀(i:Nat),∃j:Nat,ixP (eqS s) ns i=((i+j:Nat):Int)∧ns[j]? =some s:=by
 induction ns with
 |nil=>cases h
 |cons n ns ih=>
  intro i
  by_cases e:s=n
  ·exact⟨0,by simp[ixP,eqS,e],by simp[e]⟩
  ·have h:s∈ns:=by
    rcases List.mem_cons.1 h with h|h
    ·exact absurd h e
    ·exact h
   obtain⟨j,h1,h2⟩:=ih h (i+1)
   refine⟨j+1,?_,by simpa using h2⟩
   have he: ¬eqS s n=true:=by simpa[eqS]using e
   simp only[ixP,if_neg he,h1];congr 1;omega
theorem qdh {ns:List zf} {e:Ex} (h:VT e):(∀y∈xw e,y.k=2→y.s∈ns)→ ∀ {st:BS},zup ns.length st→
 zup ns.length (ndE ns.length ns e st).2∧(∃tl,(ndE ns.length ns e st).2.1=st.1++tl)∧0≤(ndE ns.length ns e st).1∧(ndE ns.length ns e st).1<ns.length+(ndE ns.length ns e st).2.1.length ∧Dn ns.length ns (ndE ns.length ns e st).2.1 (ndE ns.length ns e st).1 e:=by
 have key: ∀ {st:BS} {x:TOp} {e:Ex},zup ns.length st→tB x (ns.length+st.1.length)=true→(∀(j:Nat) (ops:List TOp),ops[j]? =some x→tB x (ns.length+j)=true→(∃tl,ops=st.1++tl)→Dn ns.length ns ops ((ns.length:Int)+j) e)→
  zup ns.length (zcv ns.length x st).2∧(∃tl,(zcv ns.length x st).2.1=st.1++tl)∧0≤(zcv ns.length x st).1∧(zcv ns.length x st).1<ns.length+(zcv ns.length x st).2.1.length ∧Dn ns.length ns (zcv ns.length x st).2.1 (zcv ns.length x st).1 e:=fun {st x e} hi hx hd=>by
  obtain⟨p1,p2,j,p3,p4⟩:=zze hi hx
  have hj:=(List.getElem?_eq_some_iff.1 p4).1
  refine⟨p1,p2,by omega,by omega,?_⟩
  rw[p3]
  exact hd j _ p4 (zev p1.1 p4) p2
 induction h with
 |num r hr=>
  intro _ st hi
  have e1:ndE ns.length ns (zjc r) st=zcv ns.length ⟨1,0,0,0,r⟩ st:=by simp[zjc,ndE,ndL,at0,at1]
  rw[e1]
  exact key hi (by simp[tB,hr]) fun j ops h1 _ _=> .num j r h1
 |var s hs=>
  intro hv st hi
  have e1:ndE ns.length ns (zei s) st=(ixP (eqS s) ns 0,st):=by simp[zei,ndE]
  rw[e1]
  obtain⟨j,h1,h2⟩:=qdz (hv (zei s) (by simp[zei,xw,zb4]) rfl) 0
  have h1:ixP (eqS s) ns 0=((0+j:Nat):Int):=h1
  have h2:ns[j]? =some s:=h2
  have hj:=(List.getElem?_eq_some_iff.1 h2).1
  simp only[Nat.zero_add]at h1
  refine⟨hi,⟨[],by simp⟩,by simp only[h1];omega,by simp only[h1];omega,?_⟩
  simp only[h1]
  exact .var j s h2 hj
 |un k a hk ha ih=>
  intro hv st hi
  have e1:ndE ns.length ns (opE k 0 [a]) st=zcv ns.length ⟨k,(ndE ns.length ns a st).1,0,0,⟨0,0⟩⟩ (ndE ns.length ns a st).2:=by simp[opE,ndE,ndL,at0,at1,(qfl hk).2]
  rw[e1]
  obtain⟨i1,⟨tl,i2⟩,i3,i4,i5⟩:=ih (fun y hy=>hv y (by simp only[opE,xw,zb4,List.append_nil];exact List.mem_cons_of_mem _ hy)) hi
  generalize ndE ns.length ns a st=A at*
  obtain⟨A,st1⟩:=A
  simp only at i1 i2 i3 i4 i5⊢
  have hk1:zb5 k=1:=by unfold K1 at hk;rcases hk with rfl|rfl|rfl|rfl|rfl|rfl<;>rfl
  have hb:=key (e:=opE k 0 [a]) i1 (x:=⟨k,A,0,0,⟨0,0⟩⟩) (by
   have:ibO A (ns.length+st1.1.length)=true:=by simp only[ibO,Bool.and_eq_true,decide_eq_true_eq];omega
   unfold K1 at hk;rcases hk with rfl|rfl|rfl|rfl|rfl|rfl<;>simp[tB,this]) fun j ops h1 h2 h3=>by
    obtain⟨tl,h3⟩:=h3
    rcases zdp h2 with h4|⟨_,h4,h5⟩|⟨h4,_⟩
    ·simp only at h4;omega
    ·exact .one j k 0 A a h1 hk1 h4 h5 (by rw[h3];exact i5.mono tl)
    ·simp only at h4;omega
  obtain⟨b1,⟨tl2,b2⟩,b3,b4,b5⟩:=hb
  exact⟨b1,⟨tl++tl2,by rw[b2,i2,List.append_assoc]⟩,b3,b4,b5⟩
 |pow n a h0 h16 ha ih=>
  intro hv st hi
  have e1:ndE ns.length ns (opE 8 n [a]) st=zcv ns.length ⟨8,(ndE ns.length ns a st).1,0,n,⟨0,0⟩⟩ (ndE ns.length ns a st).2:=by simp[opE,ndE,ndL,at0,at1]
  rw[e1]
  obtain⟨i1,⟨tl,i2⟩,i3,i4,i5⟩:=ih (fun y hy=>hv y (by simp only[opE,xw,zb4,List.append_nil];exact List.mem_cons_of_mem _ hy)) hi
  generalize ndE ns.length ns a st=A at*
  obtain⟨A,st1⟩:=A
  simp only at i1 i2 i3 i4 i5⊢
  have hb:=key (e:=opE 8 n [a]) i1 (x:=⟨8,A,0,n,⟨0,0⟩⟩) (by
   have:ibO A (ns.length+st1.1.length)=true:=by simp only[ibO,Bool.and_eq_true,decide_eq_true_eq];omega
   simp[tB,this,h0,h16]) fun j ops h1 h2 h3=>by
    obtain⟨tl,h3⟩:=h3
    rcases zdp h2 with h4|⟨_,h4,h5⟩|⟨h4,_⟩
    ·simp[zb5]at h4
    ·exact .one j 8 n A a h1 rfl h4 h5 (by rw[h3];exact i5.mono tl)
    ·simp[zb5]at h4
  obtain⟨b1,⟨tl2,b2⟩,b3,b4,b5⟩:=hb
  exact⟨b1,⟨tl++tl2,by rw[b2,i2,List.append_assoc]⟩,b3,b4,b5⟩
 |bin k a b hk ha hb ih1 ih2=>
  intro hv st hi
  have e1:ndE ns.length ns (opE k 0 [a,b]) st=zcv ns.length ⟨k,(ndE ns.length ns a st).1,(ndE ns.length ns b (ndE ns.length ns a st).2).1,0,⟨0,0⟩⟩ (ndE ns.length ns b (ndE ns.length ns a st).2).2:=by simp[opE,ndE,ndL,at0,at1,(qfk hk).2]
  rw[e1]
  obtain⟨i1,⟨tl,i2⟩,i3,i4,i5⟩:=ih1 (fun y hy=>hv y (by simp only[opE,xw,zb4,List.append_nil];exact List.mem_cons_of_mem _ (List.mem_append_left _ hy))) hi
  generalize ndE ns.length ns a st=A at*
  obtain⟨A,st1⟩:=A
  simp only at i1 i2 i3 i4 i5⊢
  obtain⟨j1,⟨tl1,j2⟩,j3,j4,j5⟩:=ih2 (fun y hy=>hv y (by simp only[opE,xw,zb4,List.append_nil];exact List.mem_cons_of_mem _ (List.mem_append_right _ hy))) i1
  generalize ndE ns.length ns b st1=B at*
  obtain⟨B,st2⟩:=B
  simp only at j1 j2 j3 j4 j5⊢
  have hlen:st1.1.length≤st2.1.length:=by rw[j2];simp
  have hk2:zb5 k=2:=by unfold K2 at hk;rcases hk with rfl|rfl|rfl|rfl<;>rfl
  have hbb:=key (e:=opE k 0 [a,b]) j1 (x:=⟨k,A,B,0,⟨0,0⟩⟩) (by
   have hA:ibO A (ns.length+st2.1.length)=true:=by simp only[ibO,Bool.and_eq_true,decide_eq_true_eq];omega
   have hB:ibO B (ns.length+st2.1.length)=true:=by simp only[ibO,Bool.and_eq_true,decide_eq_true_eq];omega
   unfold K2 at hk;rcases hk with rfl|rfl|rfl|rfl<;>simp[tB,hA,hB]) fun j ops h1 h2 h3=>by
    obtain⟨tl2,h3⟩:=h3
    rcases zdp h2 with h4|⟨h4,_⟩|⟨_,⟨h4,h5⟩,h6,h7⟩
    ·simp only at h4;omega
    ·simp only at h4;omega
    ·refine .two j k A B a b h1 hk2 h4 h5 h6 h7 ?_ ?_
     ·rw[h3,j2,List.append_assoc];exact i5.mono _
     ·rw[h3];exact j5.mono _
  obtain⟨b1,⟨tl2,b2⟩,b3,b4,b5⟩:=hbb
  exact⟨b1,⟨tl++tl1++tl2,by rw[b2,j2,i2];simp[List.append_assoc]⟩,b3,b4,b5⟩
theorem zl0 {ns:List zf}: ∀(l:List Ex),(∀x∈l,VT x∧ ∀y∈xw x,y.k=2→y.s∈ns)→ ∀ {st:BS},zup ns.length st→
 zup ns.length (ndL ns.length ns l st).2∧(∃tl,(ndL ns.length ns l st).2.1=st.1++tl)∧ ∀(i:Nat) x,l[i]? =some x→ ∃k,(ndL ns.length ns l st).1[i]? =some k∧0≤k∧k<ns.length+(ndL ns.length ns l st).2.1.length ∧Dn ns.length ns (ndL ns.length ns l st).2.1 k x
 | [],_,st,hi=>⟨hi,⟨[],by simp[ndL]⟩,fun i x h=>by simp at h⟩
 |x::l,hl,st,hi=>by
  obtain⟨a1,⟨tl,a2⟩,a3,a4,a5⟩:=qdh (hl x List.mem_cons_self).1 (hl x List.mem_cons_self).2 hi
  obtain⟨b1,⟨tl2,b2⟩,b3⟩:=zl0 l (fun y hy=>hl y (List.mem_cons_of_mem _ hy)) a1
  simp only[ndL]
  refine⟨b1,⟨tl++tl2,by rw[b2,a2,List.append_assoc]⟩,fun i y hy=>?_⟩
  cases i with
  |zero=>
   simp at hy;subst hy
   refine⟨_,rfl,a3,?_,?_⟩
   ·rw[b2,List.length_append];omega
   ·rw[b2];exact a5.mono tl2
  |succ i=>
   obtain⟨k,c1,c2,c3,c4⟩:=b3 i y (by simpa using hy)
   exact⟨k,by simpa using c1,c2,c3,c4⟩
theorem ze5 {l:List Ex} {ns:List zf} {t:Tp} (h:cpE l ns=(t,0)):
 tvB t=true∧t.outs.length=l.length∧(∀x∈l,okT x=true)∧(∀(i:Nat) k x,t.outs[i]? =some k→l[i]? =some x→trE t k ns=(x,0))∧zup ns.length (ndL ns.length ns l ([],[])).2∧t=⟨ns.length,(ndL ns.length ns l ([],[])).2.1,(ndL ns.length ns l ([],[])).1⟩:=by
 unfold cpE at h
 split at h
 ·simp at h
 rename_i c1
 split at h
 ·simp at h
 rename_i c2
 split at h
 ·simp at h
 rename_i c3
 split at h
 ·simp at h
 rename_i c4
 split at h
 ·simp at h
 rename_i c5
 simp only[Prod.mk.injEq,and_true]at h
 have hok: ∀x∈l,okT x=true:=fun x hx=>by
  have c1:l.any zk6=false:=by
   cases e:l.any zk6
   ·rfl
   ·exact absurd (.inl e) c1
  have:=(List.any_eq_false.1 c1) x hx
  simpa[zk6]using this
 have hbn:ns.any zk5=false:=by
  cases e:ns.any zk5
  ·rfl
  ·exact absurd (.inr e) c1
 have hnw: ∀x∈l,∀y∈xw x,y.k=2→y.s∈ns:=fun x hx=>by
  have c4:l.any (zsk ns)=false:=by simpa using c4
  have:=(List.any_eq_false.1 c4) x hx
  exact(znp (hok x hx)).1 (by simpa using this)
 have h0:zup ns.length (([],[]):BS):=⟨rfl,fun x hx=>by simp[yr]at hx,fun x hx=>by cases hx⟩
 obtain⟨a1,_,a3⟩:=zl0 l (fun x hx=>⟨zcy (hok x hx),hnw x hx⟩) h0
 have hlo:=ziq ns.length ns l ([],[])
 obtain⟨R,hR⟩: ∃R,ndL ns.length ns l ([],[])=R:=⟨_,rfl⟩
 rw[hR]at a1 a3 hlo h c5⊢
 obtain⟨outs,ops,at'⟩:=R
 simp only at a1 a3 hlo h c5
 subst h
 have hin: ∀k∈outs,0≤k∧k<ns.length+ops.length:=fun k hk=>by
  obtain⟨i,hi⟩:=List.getElem?_of_mem hk
  have hil:=(List.getElem?_eq_some_iff.1 hi).1
  obtain⟨k',b1,b2,b3,_⟩:=a3 i l[i] (List.getElem?_eq_getElem (by omega))
  rw[hi]at b1;cases b1
  exact⟨b2,b3⟩
 have htv:tvB ⟨ns.length,ops,outs⟩=true:=by
  unfold tvB
  rw[decide_eq_true (by simp only;omega),a1.1,Bool.true_and,Bool.true_and,Bool.not_eq_true',List.any_eq_false]
  intro k hk
  have:=hin k hk
  simp only[zqf,Bool.or_eq_true,decide_eq_true_eq,not_or];omega
 refine⟨htv,hlo,hok,fun i k x hk hx=>?_,a1,rfl⟩
 obtain⟨k',b1,b2,b3,b4⟩:=a3 i x hx
 rw[hk]at b1;cases b1
 have hxm:=List.mem_of_getElem? hx
 have hsz:=((zdu x).1 (hok x hxm)).2.2
 have hbd:=b4.bd (outs:=outs) (k.toNat+1) 200 (by omega) (by omega)
 unfold trE
 rw[if_neg (by rw[htv,hbn];simp),if_neg c3,if_neg (by simp only;omega),hbd,if_neg (by rw[hok x hxm];simp only[Bool.true_eq_false,or_false];omega)]
end Go.Proofs.YtlocddfailmnpaaGreatDoor
