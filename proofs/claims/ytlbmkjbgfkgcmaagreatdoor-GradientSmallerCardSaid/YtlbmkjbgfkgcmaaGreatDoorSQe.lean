/- The reference's valid systems (layer 16), its boxes (layer 20). -/
import Derived.Test.YtlbmkjbgfkgcmaaGreatDoorSRa
import Derived.Test.YtlbmkjbgfkgcmaaGreatDoorSQd
set_option linter.all false
open Bool renaming true_and->q0,false_and->q2,and_eq_true->q3,eq_iff_iff->qB,true_or->qD
open List renaming drop_of_length_le->q1,mem_of_getElem?->q9,any_eq_false->qA,all_cons->qC
open Go.IntKind renaming i64->qE
namespace Go.Proofs.YtlbmkjbgfkgcmaaGreatDoor
open Go Go.Sx
set_option maxRecDepth 100000
set_option maxHeartbeats 8000000
theorem q43(o:TOp)(n:Int):Fn 43 [] [.agg (Elt.op.cells o),.int .i64 n] (.bool (tB o n)) []:=by
 obtain⟨k,a,b,p,⟨c,d⟩⟩:=o;show Fn 43 [] [.agg [.int .i64 k,.int .i64 a,.int .i64 b,.int .i64 p,.int .i64 c,.int .i64 d],.int .i64 n] _ _;have h79:=f131 c d;obtain⟨v,hv⟩:∃v,rOk ⟨c,d⟩=v:=⟨_,rfl⟩;rw[hv]at h79;by_cases h1:k=1
 .subst h1;refine fnT hTE hmx Tryz.func43 rfl rfl (ex:= []) ?_;conv=>whnf
  refine cbI [] v h79 (fun h5=>?_) (fun h5=>?_)
  .conv=>whnf
   refine brI (fun h=>?_) (fun h=>?_)
   .conv=>whnf
    exact⟨ab0 (by simp at h;simp[tB,hv,h5,h]),lh0⟩
   .conv=>whnf
    exact⟨ab0 (by simp at h;rw[qB];simp[tB,hv,h5];exact h),lh0⟩
  .conv=>whnf
   exact⟨ab0 (by simp[tB,hv,h5]),lh0⟩
 clear hv;by_cases h2:k=3\/k=4\/k=5\/k=6\/k=7\/k=8\/k=9\/k=10\/k=11\/k=12\/k=13
 .rcases h2 with rfl|rfl|rfl|rfl|rfl|rfl|rfl|rfl|rfl|rfl|rfl
  all_goals
   refine fnT hTE hmx Tryz.func43 rfl rfl (ex:= []) ?_;conv=>whnf
   repeat' first
    |(refine brI (fun h=>?_) (fun h=>?_)<;>(conv=>whnf))
    |refine And.intro (ab0 ?_) lh0
    |fail
   all_goals (clear h79;rw[qB];simp[tB,ibO]at*;omega)
 .refine fnT hTE hmx Tryz.func43 rfl rfl (ex:= []) ?_;conv=>whnf
  refine brI (fun h=>absurd (show k=1 by simpa using h) h1) (fun _=>?_);conv=>whnf
  repeat' first
   |(refine brI (fun h=>absurd (show _=_ from LawfulBEq.eq_of_beq h) O) (fun _=>?_);(conv=>whnf))
   |refine And.intro (ab0 ?_) lh0
   |fail
  unfold tB;rw[Z7 h1,Z7 OD,Z7 OD,Z7 OD]
theorem zu3{t:Tp}{st:Int}{ps:List Iv}(h:¬(0<=t.ins/\t.ins<=8/\t.ops.length<=200/\t.outs.length<=200)):vsB ⟨t,st,ps⟩=false:=by
 unfold vsB tvB;simp only;rw[Z9 h];rfl
theorem zqj{t:Tp}{st:Int}{ps:List Iv}(h:¬(1<=st/\st<=4/\(t.outs.length:Int)=st/\ps.length<=4/\t.ins=st+ps.length)):vsB ⟨t,st,ps⟩=false:=by
 unfold vsB;simp only;rw[Z9 h,q2,Bool.and_false]
theorem vs_t{t:Tp}{st:Int}{ps:List Iv}(h:0<=t.ins/\t.ins<=8/\t.ops.length<=200/\t.outs.length<=200)(h2:1<=st/\st<=4/\(t.outs.length:Int)=st/\ps.length<=4/\t.ins=st+ps.length):
 vsB ⟨t,st,ps⟩=(zb0 t.ops t.ins&&(!t.outs.any (zcz t)&&ps.all kB)):=by
 unfold vsB tvB;simp only;rw[Z8 h,Z8 h2,q0,q0,Bool.and_assoc]
theorem q17(s:Sysm)(h1:s.tp.ops.length<9223372036854775808)(h2:s.tp.outs.length<9223372036854775808)(h3:s.ps.length<9223372036854775808)(hr:∀y∈s.ps,RI y):Fn 17 [] [.agg (syC s)] (.bool (vsB s)) []:=by
 obtain⟨t,st,ps⟩:=s;obtain⟨V,hV⟩:∃V,vsB ⟨t,st,ps⟩=V:=⟨_,rfl⟩;rw[hV];simp only at h1 h2 h3 hr;show Fn 17 [] [.agg [.int .i64 t.ins,.sl .op t.ops,.sl .int t.outs,.int .i64 st,.sl .iv ps]] _ _;refine fnT hTE hmx Tryz.func17 rfl rfl (ex:= []) ?_;conv=>whnf
 refine brI (fun h=>?_) (fun h=>?_)
 .conv=>whnf
  exact⟨ab0 (by rw[<-hV];have h:=Z0 h;exact(zu3 O).symm),lh0⟩
 have c1:=Z3 h;conv=>whnf
 refine brI (fun h=>?_) (fun h=>?_)
 .conv=>whnf
  exact⟨ab0 (by rw[<-hV];have h:=Z0 h;exact(zu3 O).symm),lh0⟩
 have c2:=Z3 h;conv=>whnf
 refine brI (fun h=>?_) (fun h=>?_)
 .conv=>whnf
  exact⟨ab0 (by rw[<-hV];have h:=Z0 h;exact(zu3 O).symm),lh0⟩
 have c3:=Z3 h;conv=>whnf
 refine brI (fun h=>?_) (fun h=>?_)
 .conv=>whnf
  exact⟨ab0 (by rw[<-hV];have h:=Z0 h;exact(zu3 O).symm),lh0⟩
 have c4:=Z3 h;conv=>whnf
 refine brI (fun h=>?_) (fun h=>?_)
 .conv=>whnf
  exact⟨ab0 (by rw[<-hV];have h:=Z0 h;exact(zqj O).symm),lh0⟩
 have c5:=Z3 h;conv=>whnf
 refine brI (fun h=>?_) (fun h=>?_)
 .conv=>whnf
  exact⟨ab0 (by rw[<-hV];have h:=Z0 h;exact(zqj O).symm),lh0⟩
 have c6:=Z3 h;conv=>whnf
 refine brI (fun h=>?_) (fun h=>?_)
 .conv=>whnf
  have h:((t.outs.length:Int) != st)=true:=h;have h:¬(t.outs.length:Int)=st:=by simpa using h
  exact⟨ab0 (by rw[<-hV];exact(zqj O).symm),lh0⟩
 have h:((t.outs.length:Int) != st)=false:=h;have c7:(t.outs.length:Int)=st:=by simpa using h
 conv=>whnf
 refine brI (fun h=>?_) (fun h=>?_)
 .conv=>whnf
  exact⟨ab0 (by rw[<-hV];have h:=Z0 h;exact(zqj O).symm),lh0⟩
 have c8:=Z3 h;have hw:qE.wrap (st+(ps.length:Int))=st+ps.length:=wI O;conv=>whnf
 refine brI (fun h=>?_) (fun h=>?_)
 .conv=>whnf
  have h:(t.ins != qE.wrap (st+(ps.length:Int)))=true:=h;rw[hw]at h;have h:¬t.ins=st+ps.length:=by simpa using h
  exact⟨ab0 (by rw[<-hV];exact(zqj O).symm),lh0⟩
 have h:(t.ins != qE.wrap (st+(ps.length:Int)))=false:=h;rw[hw]at h;have c9:t.ins=st+ps.length:=by simpa using h
 rw[vs_t O O]at hV;clear h hw;conv=>whnf
 refine⟨Nat,fun i=>i<=t.ops.length/\zb0 (t.ops.drop i) (t.ins+i)=zb0 t.ops t.ins,fun i=> [(4,.int .i64 i)],fun _=> [],fun i=>t.ops.length-i,0,⟨OC,OC⟩,?_,fun i hi=>?_⟩
 .exact KZ0
 refine gYe ?_;obtain⟨hi1,hi2⟩:=hi;refine brI (fun h=>?_) (fun h=>?_)
 .conv=>whnf
  have hi:i<t.ops.length:=by simp only[Z4]at h;omega
  refine⟨⟨O,O⟩,fun(x:TOp)hx=>?_⟩;have hx:t.ops[i]? =some x:=by simpa using hx
  rw[qf hx]at hi2;simp only[zb0]at hi2;conv=>whnf
  have h84:Fn 43 [] [.agg (Elt.op.cells x),.int .i64 (qE.wrap (t.ins+(i:Int)))] (.bool (tB x (t.ins+i))) []:=by
   rw[wI O];exact q43 x (t.ins+i)
  refine cbI [] (tB x (t.ins+i)) h84 (fun h5=>?_) (fun h5=>?_)
  .conv=>whnf
   refine gYd ?_;rw[h5]at hi2;refine⟨i+1,⟨O,by rw[<-hi2,q0];congr 1;omega⟩,by show t.ops.length-(i+1)<t.ops.length-i;omega,?_⟩;exact KZ0
  .conv=>whnf
   refine gYd ?_;rw[h5,q2]at hi2;exact⟨ab0 (by rw[<-hV,<-hi2];rfl),lh0⟩
 have hi:¬i<t.ops.length:=by simp only[Z5]at h;omega
 have hb:zb0 t.ops t.ins=true:=by rw[<-hi2,q1 O];rfl
 rw[hb,q0]at hV;clear hi1 hi2 h hi;conv=>whnf
 refine⟨Nat,fun i=>i<=t.outs.length/\(t.outs.drop i).any (zcz t)=t.outs.any (zcz t),fun i=> [(5,.int .i64 i)],fun _=> [],fun i=>t.outs.length-i,0,⟨OC,OC⟩,?_,fun i hi=>?_⟩
 .exact KZ0
 refine gYe ?_;obtain⟨hi1,hi2⟩:=hi;refine brI (fun h=>?_) (fun h=>?_)
 .conv=>whnf
  have hi:i<t.outs.length:=by simp only[Z4]at h;omega
  refine⟨⟨O,O⟩,fun(x:Int)hx=>?_⟩;have hx:t.outs[i]? =some x:=by simpa using hx
  rw[qf hx]at hi2;simp only[List.any_cons]at hi2;conv=>whnf
  refine brI (fun h5=>?_) (fun h5=>?_)
  .conv=>whnf
   refine gYd ?_;have h6:zcz t x=true:=by
    have h5:decide (x<0)=true:=h5;simp only[Z4]at h5;simp[zcz,h5]
   rw[h6,qD]at hi2;exact⟨ab0 (by rw[<-hV,<-hi2];rfl),lh0⟩
  .conv=>whnf
   refine⟨⟨O,O⟩,fun y hy=>?_⟩;have hy:t.outs[i]? =some y:=by simpa using hy
   rw[hx]at hy;cases hy
   have h5:¬x<0:=by
    have h5:decide (x<0)=false:=h5;simpa using h5
   conv=>whnf
   refine gYd ?_;refine brI (fun h7=>?_) (fun h7=>?_)
   .conv=>whnf
    have h7:decide (x≥qE.wrap (t.ins+(t.ops.length:Int)))=true:=h7;rw[wI O]at h7;simp only[Z4]at h7;have h6:zcz t x=true:=by
     rw[zcz,Z8 (p:=t.ins+(t.ops.length:Int)<=x) O,Bool.or_true]
    rw[h6,qD]at hi2;exact⟨ab0 (by rw[<-hV,<-hi2];rfl),lh0⟩
   .conv=>whnf
    have h7:decide (x≥qE.wrap (t.ins+(t.ops.length:Int)))=false:=h7;rw[wI O]at h7;simp only[Z5]at h7;have h6:zcz t x=false:=by
     rw[zcz,Z9 (p:=t.ins+(t.ops.length:Int)<=x) O,Z9 (p:=x<0) h5];rfl
    rw[h6,Bool.false_or]at hi2;refine⟨i+1,⟨O,hi2⟩,by show t.outs.length-(i+1)<t.outs.length-i;omega,?_⟩;exact KZ0
 have hi:¬i<t.outs.length:=by simp only[Z5]at h;omega
 have hb:t.outs.any (zcz t)=false:=by rw[<-hi2,q1 O];rfl
 rw[hb,Bool.not_false,q0]at hV;clear hi1 hi2 h hi;conv=>whnf
 refine⟨Nat,fun i=>i<=ps.length/\(ps.drop i).all kB=ps.all kB,fun i=> [(6,.int .i64 i)],fun _=> [],fun i=>ps.length-i,0,⟨OC,OC⟩,?_,fun i hi=>?_⟩
 .exact KZ0
 refine gYe ?_;obtain⟨hi1,hi2⟩:=hi;refine brI (fun h=>?_) (fun h=>?_)
 .conv=>whnf
  have hi:i<ps.length:=by simp only[Z4]at h;omega
  refine⟨⟨O,O⟩,fun(x:Iv)hx=>?_⟩;have hx:ps[i]? =some x:=by simpa using hx
  have h38:=r108 x (hr x (q9 hx));rw[qf hx]at hi2;simp only[qC]at hi2;conv=>whnf
  refine brI (fun h5=>?_) (fun h5=>?_)
  .conv=>whnf
   have h6:kB x=false:=by unfold kB;rw[show x.all=true from h5];rfl
   rw[h6,q2]at hi2;exact⟨ab0 (by rw[<-hV,<-hi2]),lh0⟩
  .have h6:kB x=viB x:=by unfold kB;rw[show x.all=false from h5];rfl
   rw[h6]at hi2;conv=>whnf
   refine⟨⟨O,O⟩,fun(y:Iv)hy=>?_⟩;have hy:ps[i]? =some y:=by simpa using hy
   rw[hx]at hy;cases hy
   conv=>whnf
   refine cbI [] (viB x) h38 (fun h7=>?_) (fun h7=>?_)
   .conv=>whnf
    rw[h7,q0]at hi2;refine⟨i+1,⟨O,hi2⟩,by show ps.length-(i+1)<ps.length-i;omega,?_⟩;exact KZ0
   .conv=>whnf
    rw[h7,q2]at hi2;exact⟨ab0 (by rw[<-hV,<-hi2]),lh0⟩
 have hi:¬i<ps.length:=by simp only[Z5]at h;omega
 rw[q1 O]at hi2;conv=>whnf
 exact⟨ab0 (by rw[<-hV,<-hi2];rfl),lh0⟩
def boB(s:Sysm)(x:List Iv):Bool:=vsB s&&(decide ((x.length:Int)=s.st)&&x.all kB)
theorem q16(s:Sysm)(x:List Iv)(h1:s.tp.ops.length<9223372036854775808)(h2:s.tp.outs.length<9223372036854775808)(h3:s.ps.length<9223372036854775808)(hr:∀y∈s.ps,RI y)(hx:∀y∈x,RI y)(hxl:x.length<9223372036854775808):
 Fn 16 [] [.agg (syC s),.sl .iv x] (.bool (boB s x)) []:=by
 have h17:=q17 s h1 h2 h3 hr;obtain⟨V,hV⟩:∃V,boB s x=V:=⟨_,rfl⟩;rw[hV];unfold boB at hV;generalize vsB s=b at*;obtain⟨t,st,ps⟩:=s;simp only at hV;have h17:Fn 17 [] [.agg [.int .i64 t.ins,.sl .op t.ops,.sl .int t.outs,.int .i64 st,.sl .iv ps]] (.bool b) []:=h17;show Fn 16 [] [.agg [.int .i64 t.ins,.sl .op t.ops,.sl .int t.outs,.int .i64 st,.sl .iv ps],.sl .iv x] _ _
 cases b with
 |false=>
  refine fnT hTE hmx Tryz.func16 rfl rfl (ex:= []) ?_;conv=>whnf
  refine gYn h17 ?_;exact⟨ab0 hV,lh0⟩
 |true=>
  rw[q0]at hV;refine fnT hTE hmx Tryz.func16 rfl rfl (ex:= []) ?_;conv=>whnf
  refine gYn h17 ?_;refine brI (fun h=>?_) (fun h=>?_)
  .have h:((x.length:Int) != st)=true:=h;have h:¬(x.length:Int)=st:=by simpa using h
   rw[Z9 h]at hV;conv=>whnf
   exact⟨ab0 hV,lh0⟩
  have h:((x.length:Int) != st)=false:=h;have h:(x.length:Int)=st:=by simpa using h
  rw[Z8 h,q0]at hV;conv=>whnf
  refine⟨Nat,fun i=>i<=x.length/\(x.drop i).all kB=x.all kB,fun i=> [(5,.int .i64 i)],fun _=> [],fun i=>x.length-i,0,⟨OC,OC⟩,?_,fun i hi=>?_⟩
  .exact KZ0
  refine gYe ?_;obtain⟨hi1,hi2⟩:=hi;refine brI (fun h=>?_) (fun h=>?_)
  .conv=>whnf
   have hi:i<x.length:=by simp only[Z4]at h;omega
   refine⟨⟨O,O⟩,fun(z:Iv)hz=>?_⟩;have hz:x[i]? =some z:=by simpa using hz
   have h38:=r108 z (hx z (q9 hz));rw[qf hz]at hi2;simp only[qC]at hi2;conv=>whnf
   refine brI (fun h5=>?_) (fun h5=>?_)
   .conv=>whnf
    have h6:kB z=false:=by unfold kB;rw[show z.all=true from h5];rfl
    rw[h6,q2]at hi2;exact⟨ab0 (by rw[<-hV,<-hi2]),lh0⟩
   .have h6:kB z=viB z:=by unfold kB;rw[show z.all=false from h5];rfl
    rw[h6]at hi2;conv=>whnf
    refine⟨⟨O,O⟩,fun(y:Iv)hy=>?_⟩;have hy:x[i]? =some y:=by simpa using hy
    rw[hz]at hy;cases hy
    conv=>whnf
    refine cbI [] (viB z) h38 (fun h7=>?_) (fun h7=>?_)
    .conv=>whnf
     rw[h7,q0]at hi2;refine⟨i+1,⟨O,hi2⟩,by show x.length-(i+1)<x.length-i;omega,?_⟩;exact KZ0
    .conv=>whnf
     rw[h7,q2]at hi2;exact⟨ab0 (by rw[<-hV,<-hi2]),lh0⟩
  have hi:¬i<x.length:=by simp only[Z5]at h;omega
  rw[q1 O]at hi2;conv=>whnf
  exact⟨ab0 (by rw[<-hV,<-hi2];rfl),lh0⟩
def zea(l:List Iv):Bool:=l.any fun y=>y.all
def boO(s:Sysm)(x:List Iv)(m p:Int):List Iv×List (List Iv)×Int:=
 if pcB p=false then([],[],2)else
 if(zea (gtV s.tp (x++s.ps) m p)||(gtD s.tp (x++s.ps) m p).any zea)=true then([],[],11)else(gtV s.tp (x++s.ps) m p,gtD s.tp (x++s.ps) m p,0)
theorem zs5(t:Tp)(x:List Iv)(m p:Int):(gtV t x m p).length <=t.outs.length:=by unfold gtV;split<;>simp
theorem zs7(t:Tp)(x:List Iv)(m p:Int):(gtD t x m p).length <=t.outs.length:=by unfold gtD;split<;>simp
theorem zs6{t:Tp}{x:List Iv}{m p:Int}:∀r∈gtD t x m p,r.length=m.toNat:=fun r hr=>by
 unfold gtD at hr;split at hr
 .obtain⟨k,_,rfl⟩:=List.mem_map.1 hr;simp[gtC]
 .cases hr
theorem q51(s:Sysm)(x:List Iv)(m p:Int)(hb:boB s x=true)(hr:∀y∈s.ps,RI y)(hx:∀y∈x,RI y)(hm:0<=m/\m<=s.st):
 Fn 51 G0 [.agg (syC s),.sl .iv x,.int .i64 m,.int .i64 p] (.tup [.sl .iv (boO s x m p).1,.sl .vs (boO s x m p).2.1,.int .i64 (boO s x m p).2.2]) G0:=by
 unfold boB at hb;simp only[q3,Z4]at hb;obtain⟨hv,hl,hk⟩:=hb;have h87:=q87 s hv hr;unfold vsB at hv;simp only[q3,Z4]at hv;obtain⟨ht,⟨s1,s2,s3,s4,s5⟩,_⟩:=hv;obtain⟨⟨a1,a2,a3,a4⟩,_,_⟩:=wu ht;have hki:∀y∈x,KI y:=fun y hy=>(zq (hx y hy)).1 (List.all_eq_true.1 hk y hy)
 have h88:=q88 x O;rw[show(x.any fun y=>y.all)=false from qA.2 fun y hy=>by rw[(hki y hy).all];decide]at h88;have h31:=cfG (g:=89) (P:=ibV) x O fun y hy=>q89 y (hx y hy)
 rw[show x.any ibV=false from qA.2 fun y hy=>by unfold ibV;rw[(yg (hx y hy)).2 (.inl (hki y hy))];decide]at h31;have h63:=q63 p;have h90:=k15 [x,s.ps] OE OC;rw[show [x,s.ps].flatten =x++s.ps by simp]at h90;have h8:=q8 s.tp (x++s.ps) m p O O (fun y hy=>(List.mem_append.1 hy).elim (hx y) (hr y)) (by rw[List.length_append];omega);have l1:=zs5 s.tp (x++s.ps) m p;have l2:=zs7 s.tp (x++s.ps) m p;have l3:= @zs6 s.tp (x++s.ps) m p;have c1:=q88 (gtV s.tp (x++s.ps) m p) O;have c2:=cfR (g:=88) (P:=zea) (gtD s.tp (x++s.ps) m p) O fun y hy=>q88 y (by rw[l3 y hy];omega)
 obtain⟨t,st,ps⟩:=s;simp only at*;unfold boO;simp only;generalize x++ps=X at*;generalize gtV t X m p=v at*;generalize gtD t X m p=d at*;unfold zea at c2⊢;generalize (v.any fun y=>y.all)=b1 at*;generalize (d.any fun l=>l.any fun y=>y.all)=b2 at*;generalize pcB p=b3 at*;have h87:Fn 87 [] [.agg [.int .i64 t.ins,.sl .op t.ops,.sl .int t.outs,.int .i64 st,.sl .iv ps]] (.bool true) []:=h87;show Fn 51 G0 [.agg [.int .i64 t.ins,.sl .op t.ops,.sl .int t.outs,.int .i64 st,.sl .iv ps],.sl .iv x,.int .i64 m,.int .i64 p] _ _;clear l1 l2 l3 hki hk hx hr ht s1 s2 s3 s4 s5 a1 a2 a3 a4
 cases b3 with
 |false=>
  rw[Z6 rfl];refine fnT hTQ hmx Tryz.func51 rfl rfl (ex:= []) ?_;conv=>whnf
  refine gYn h87 ?_;refine brI (fun c=>absurd (show(x.length:Int)=st from hl) (by simpa using c)) (fun _=>?_);conv=>whnf
  refine gYn h88 ?_;refine gYn h31 ?_;refine gYn h63 ?_;exact⟨lt0 (lc (li0 rfl) (lc (li0 rfl) (lc (lr rfl) ln0))),leG⟩
 |true=>
  rw[Z7 OA];cases b1
  .cases b2
   .rw[Z7 OA];refine fnT hTQ hmx Tryz.func51 rfl rfl (ex:= []) ?_;conv=>whnf
    refine gYn h87 ?_;refine brI (fun c=>absurd (show(x.length:Int)=st from hl) (by simpa using c)) (fun _=>?_);conv=>whnf
    refine gYn h88 ?_;refine gYn h31 ?_;refine gYn h63 ?_;refine gYn h90 ?_;refine gYc h8 ?_;refine gYd ?_;refine gYn c1 ?_;refine gYn c2 ?_;exact⟨lr rfl,leG⟩
   .rw[Z6 OA];refine fnT hTQ hmx Tryz.func51 rfl rfl (ex:= []) ?_;conv=>whnf
    refine gYn h87 ?_;refine brI (fun c=>absurd (show(x.length:Int)=st from hl) (by simpa using c)) (fun _=>?_);conv=>whnf
    refine gYn h88 ?_;refine gYn h31 ?_;refine gYn h63 ?_;refine gYn h90 ?_;refine gYc h8 ?_;refine gYd ?_;refine gYn c1 ?_;refine gYn c2 ?_;exact⟨lt0 (lc (li0 rfl) (lc (li0 rfl) (lc (lr rfl) ln0))),leG⟩
  .rw[Z6 OC];refine fnT hTQ hmx Tryz.func51 rfl rfl (ex:= []) ?_;conv=>whnf
   refine gYn h87 ?_;refine brI (fun c=>absurd (show(x.length:Int)=st from hl) (by simpa using c)) (fun _=>?_);conv=>whnf
   refine gYn h88 ?_;refine gYn h31 ?_;refine gYn h63 ?_;refine gYn h90 ?_;refine gYc h8 ?_;refine gYd ?_;refine gYn c1 ?_;exact⟨lt0 (lc (li0 rfl) (lc (li0 rfl) (lc (lr rfl) ln0))),leG⟩
theorem q22(s:Sysm)(x:List Iv)(p:Int)(hb:boB s x=true)(hr:∀y∈s.ps,RI y)(hx:∀y∈x,RI y)(hs:0<=s.st):
 Fn 22 G0 [.agg (syC s),.sl .iv x,.int .i64 p] (.tup [.sl .iv (boO s x 0 p).1,.int .i64 (boO s x 0 p).2.2]) G0:=by
 have h:=q51 s x 0 p hb hr hx ⟨O,hs⟩;generalize boO s x 0 p=R at*;obtain⟨v,d,e⟩:=R;obtain⟨t,st,ps⟩:=s;refine fnT hTQ hmx Tryz.func22 rfl rfl (ex:= []) ?_;conv=>whnf
 refine gYc h ?_;exact⟨lr rfl,leG⟩
theorem q21(s:Sysm)(x:List Iv)(p:Int)(hb:boB s x=true)(hr:∀y∈s.ps,RI y)(hx:∀y∈x,RI y)(hs:0<=s.st):
 Fn 21 G0 [.agg (syC s),.sl .iv x,.int .i64 p] (.tup [.sl .vs (boO s x s.st p).2.1,.int .i64 (boO s x s.st p).2.2]) G0:=by
 have h:=q51 s x s.st p hb hr hx ⟨hs,O⟩;obtain⟨t,st,ps⟩:=s;simp only at h⊢;generalize boO ⟨t,st,ps⟩ x st p=R at*;obtain⟨v,d,e⟩:=R;refine fnT hTQ hmx Tryz.func21 rfl rfl (ex:= []) ?_;conv=>whnf
 refine gYc h ?_;exact⟨lr rfl,leG⟩
theorem q83{j:Int}(hj:j= -1\/j= -2):Fn 83 [] [.int .i64 j] (.bool true) []:=by
 rcases hj with rfl|rfl
 all_goals
  refine fnT hTE hmx Tryz.func83 rfl rfl (ex:= []) ?_;conv=>whnf
  exact⟨lr rfl,lh0⟩
theorem q84(d:Dy)(hb:LB d.m)(hl:d.m.length<9223372036854775808):Fn 84 [] [.agg (dyC d)] (dyV (if vB d=true then(d,0)else(d0,9))) []:=by
 have h:=zzx d hb hl;generalize vB d=v at*;obtain⟨d1,d2,d3⟩:=d;cases v
 .refine fnT hTE hmx Tryz.func84 rfl rfl (ex:= []) ?_;conv=>whnf
  refine gYn h ?_;exact⟨lt0 (lc (lg0 (lc (lr rfl) (lc (li0 rfl) (lc (lr rfl) ln0)))) (lc (lr rfl) ln0)),lh0⟩
 .refine fnT hTE hmx Tryz.func84 rfl rfl (ex:= []) ?_;conv=>whnf
  refine gYn h ?_;exact⟨lr rfl,lh0⟩
theorem vB_ir{d:Dy}(h:vB d=true):irB d=true:=by
 unfold vB at h;split at h
 .rename_i h0;have e:d.m= []:=List.length_eq_zero_iff.1 h0;unfold irB;rw[e];rfl
 .simp only[q3]at h;exact h.2
theorem qen{d:Dy}(v:VD d){j:Int}(hj:j= -1\/j= -2):qc d j=if vB (cnN d.neg (nm d) (d.e+j))=true then(cnN d.neg (nm d) (d.e+j),0)else(d0,9):=by
 unfold qc;rw[Z7 (by rcases hj with rfl|rfl<;>decide)];unfold ckN;by_cases h:irN (nm d) (d.e+j)=true
 .rw[Z6 h,Z6 ((ud (zg5 h).lb).2 (zg5 h))]
 .rw[Z7 h,Z7];intro hv;have:=vB_ir hv;rw[zs2]at this;exact h this
theorem q47{d:Dy}(v:VD d){j:Int}(hj:j= -1\/j= -2):Fn 47 [] [.agg (dyC d),.int .i64 j] (dyV (qc d j)) []:=by
 rw[qen v hj];have he:=v.exp;have c1:=zzx d v.lb (by have:=v.len;omega);rw[(ud v.lb).2 v]at c1;have c2:=q83 hj;have c3:Fn 85 [] [.bool d.neg,.sl .u32 d.m,.int .i64 (d.e+j)] (.agg (dyC (cnN d.neg (nm d) (d.e+j)))) []:=zzw d.neg v.lb (by have:=v.len;omega) (d.e+j) O;have hc:LB (cnN d.neg (nm d) (d.e+j)).m /\(cnN d.neg (nm d) (d.e+j)).m.length <9223372036854775808:=by
  have:=zd6 d.neg (n:=nm d) (e:=d.e+j) (by have:=v.bits;omega) O;exact⟨this.1,by have:=this.2.1;omega⟩
 have c4:=q84 _ hc.1 hc.2;have hw:qE.wrap (d.e+j)=d.e+j:=wI O;generalize (if vB (cnN d.neg (nm d) (d.e+j))=true then(cnN d.neg (nm d) (d.e+j),(0:Int))else(d0,9))=R at*;generalize cnN d.neg (nm d) (d.e+j)=D at*;clear hc v he;obtain⟨d1,d2,d3⟩:=d;obtain⟨D1,D2,D3⟩:=D;obtain⟨⟨R1,R2,R3⟩,R4⟩:=R;simp only at hw c3;refine fnT hTE hmx Tryz.func47 rfl rfl (ex:= []) ?_;conv=>whnf
 refine gYn c1 ?_;refine gYn c2 ?_;rw[hw];refine gYn c3 ?_;refine gYn c4 ?_;exact⟨lr rfl,lh0⟩
theorem q48{x:Iv}(k:KI x){d:Dy}(hd:VD d):Fn 48 [] [.agg (ivC x),.agg (dyC d)] (.bool (haB x d)) []:=by
 have h1:=r108 x k.ri;rw[(yg k.ri).2 (.inl k)]at h1;have h2:=zzx d hd.lb (by have:=hd.len;omega);rw[(ud hd.lb).2 hd]at h2;have h3:=r175 k.lo hd;have h4:=r175 hd k.hi;have ha:=k.all;unfold haB;generalize qd x.lo d=c at*;generalize qd d x.hi=e at*;clear k hd;obtain⟨x1,x2,x3⟩:=x;have ha:x3=false:=ha;subst ha;refine fnT hTE hmx Tryz.func48 rfl rfl (ex:= []) ?_;conv=>whnf
 refine gYn h1 ?_;refine gYn h2 ?_;refine gYn h3 ?_;refine brI (fun g=>?_) (fun g=>?_)
 .conv=>whnf
  refine gYn h4 ?_;rw[g];exact⟨lr rfl,lh0⟩
 .conv=>whnf
  rw[g];exact⟨lr rfl,lh0⟩
def zux(x:Iv):Dy:=
 if(zxa x.lo x.hi 64 false).2≠0 then x.lo else
 if(qc (zxa x.lo x.hi 64 false).1 (-1)).2≠0 then x.lo else
 if haB x (qc (zxa x.lo x.hi 64 false).1 (-1)).1=true then(qc (zxa x.lo x.hi 64 false).1 (-1)).1 else x.lo
theorem zsp{x:Iv}(k:KI x):VD (zux x)/\qd x.lo (zux x)<=0/\qd (zux x) x.hi<=0:=by
 have h0:qd x.lo x.lo<=0:=ui.2 Rat.le_refl;unfold zux;split
 .exact⟨k.lo,h0,k.le⟩
 split
 .exact⟨k.lo,h0,k.le⟩
 split
 .rename_i h;unfold haB at h;simp only[q3,Z4]at h;exact⟨uz _ _,h.1,h.2⟩
 .exact⟨k.lo,h0,k.le⟩
theorem q19{x:Iv}(k:KI x):Fn 19 [] [.agg (ivC x),.int .i64 64] (.agg (dyC (zux x))) []:=by
 have h1:=r60 64;rw[(OA:pcB 64=true)]at h1;have h2:=r161 x k.ri;rw[(zq k.ri).2 k]at h2;have h3:=r255 k.lo k.hi 64 O false;have h4:=q47 (qbu k.lo k.hi (p:=64) O false) (j:= -1) (.inl rfl);have h5:=q48 k (uz (zxa x.lo x.hi 64 false).1 (-1));unfold zux;generalize zxa x.lo x.hi 64 false=A at*;generalize qc A.1 (-1)=B at*;generalize haB x B.1=c at*;clear k;obtain⟨⟨A1,A2,A3⟩,A4⟩:=A;obtain⟨⟨B1,B2,B3⟩,B4⟩:=B;obtain⟨⟨x1,x2,x3⟩,⟨x4,x5,x6⟩,x7⟩:=x;simp only;refine fnT hTE hmx Tryz.func19 rfl rfl (ex:= []) ?_;conv=>whnf
 refine gYn h1 ?_;refine gYn h2 ?_;refine gYn h3 ?_;refine gYn h4 ?_;refine brI (fun g=>?_) (fun g=>?_)
 .have g:(A4 != 0)=true:=g;rw[Z6 (by simpa using g)];conv=>whnf
  exact⟨lr rfl,lh0⟩
 have g:(A4 != 0)=false:=g;rw[Z7 (by simpa using g)];conv=>whnf
 refine brI (fun g=>?_) (fun g=>?_)
 .have g:(B4 != 0)=true:=g;rw[Z6 (by simpa using g)];conv=>whnf
  exact⟨lr rfl,lh0⟩
 have g:(B4 != 0)=false:=g;rw[Z7 (by simpa using g)];conv=>whnf
 refine gYn h5 ?_;cases c
 all_goals
  conv=>whnf
  exact⟨lr rfl,lh0⟩
