/-
  Seat of round r7: tree.Replace.
-/
import Derived.Test.YtbolipecnhlnnaaGreatDoorRXn
import Derived.Test.YtbolipecnhlnnaaGreatDoorRVa
import Derived.Test.YtbolipecnhlnnaaGreatDoorRUb
import Derived.Test.YtbolipecnhlnnaaGreatDoorRXi
set_option linter.unusedVariables false
set_option linter.unusedSimpArgs false
open And renaming intro->q9
open List renaming length_take->q2,getElem?_append_right->q3,getElem?_append_left->q4,getElem?_take_of_lt->q5,getElem?_drop->q6,mem_of_getElem?->q7
namespace Go.Proofs.YtbolipecnhlnnaaGreatDoor
open Go Go.Sx
set_option maxRecDepth 100000
set_option maxHeartbeats 8000000
abbrev Hch (t:ze) (b:Ex):Hp:= [(1000001,.map .str .ex [(t,b)])]
theorem qfv {h h':Hp} {t:ze} {b:Ex}:leH h h' (Hch t b) (Hch t b):=lh1 (bm0 rfl) lh0
abbrev qhs (t:ze) (b e:Ex):Prop:=Fn 108 (Hch t b) [.agg (exC e),.mp 1000001] (.agg (exC (chE t b e))) (Hch t b)
theorem mg1 (s t:ze) (b z:Ex):zb4 .str s z [(t,b)]=if s=t then b else z:=by
 by_cases c:s=t<;>simp[zb4,zam,c]
theorem mh1 (s t:ze) (b:Ex):zc3 .str s [(t,b)]=decide (s=t):=by
 by_cases c:s=t<;>simp[zc3,zam,c]
theorem zvd {t:ze} {b:Ex}: ∀ {l:List Ex} {i:Nat} {x:Ex},l[i]? =some x->(chL t b l)[i]? =some (chE t b x)
 | [],_,_,h=>by simp at h
 |y::l,0,x,h=>by simp at h;subst h;rfl
 |y::l,i+1,x,h=>by simpa[chL]using zvd (l:=l) (i:=i) (by simpa using h)
theorem yj {t:ze} {b:Ex}: ∀ {l:List Ex},(chL t b l).length =l.length
 | []=>rfl
 |y::l=>by simp[chL,yj (l:=l)]
def chP (t:ze) (b:Ex) (l:List Ex) (i:Nat):List Ex:=(chL t b l).take i++l.drop i
theorem zvc {t:ze} {b:Ex} {l:List Ex} {i:Nat} (h:i<=l.length):(chP t b l i).length =l.length:=by
 unfold chP;rw[List.length_append,q2,List.length_drop,yj];omega
theorem qcw {t:ze} {b:Ex} {l:List Ex} {i:Nat} (h:i<l.length):(chP t b l i)[i]? =l[i]? :=by
 unfold chP;rw[q3 (by rw[q2,yj];omega),q2,yj,show i-min i l.length=0 by omega,q6];rfl
theorem qcv {t:ze} {b:Ex} {l:List Ex} {i:Nat} {x:Ex} (h:l[i]? =some x):(chP t b l i).set i (chE t b x)=chP t b l (i+1):=by
 have hi:=(List.getElem?_eq_some_iff.1 h).1;apply List.ext_getElem?;intro j;rw[List.getElem?_set];by_cases c:i=j
 ·subst c;rw[if_pos rfl,if_pos (by rw[zvc (by omega)];exact hi)];unfold chP;rw[q4 (by rw[q2,yj];omega),q5 (by omega),zvd h]
 ·rw[if_neg c];unfold chP;by_cases d:j<i
  ·rw[q4 (by rw[q2,yj];omega),q4 (by rw[q2,yj];omega),q5 d,q5 (by omega)]
  ·rw[q3 (by rw[q2,yj];omega),q3 (by rw[q2,yj];omega),q2,q2,yj,q6,q6]
   congr 1;omega
noncomputable def zvj:Code:=Tryz.f108.body.getD .skip
theorem zug (t:ze) (b:Ex) (k:Int) (q:Rt) (s:ze) (n:Int) (l:List Ex) (hl: ∀x∈l,qhs t b x) (hlen:l.length<=1000):
 SemOK Tryz.prog T Tryz.f108.results.toList [] (.agg (exC (.mk k q s n (chL t b l)))) (Hch t b) (zl4 2 zvj) ⟨[.any,.mp 1000001,.ptr 2 0,.any,.ptr 4 0]++zf1 40,[(2,.cells (exC (.mk k q s n l))),(4,.cells (exC (.mk 0 ⟨0,0⟩ [] 0 []))),(5,.free),(26,.free)]++Hch t b⟩:=by
 refine yc hT hmx ?_;conv=>whnf
 refine⟨[],[.buf 63 .ex l],.own 2000000,f154 l hlen,?_⟩;conv=>whnf
 refine⟨Nat,fun i=>i<=l.length,fun i=> [(29,.int .i64 i)],fun i=> [(26,.buf 63 .ex (chP t b l i))],fun i=>l.length-i,0,by simp,?_,fun i hi=>?_⟩
 ·((conv=>whnf);refine q9 ?_ ?_;repeat' first|refine lc ?_ ?_|exact la0|exact lr rfl|exact ln0|refine lh1 ?_ ?_|exact lh0|exact bf0|exact bd0|refine bc0 ?_|exact bm0 rfl|exact bg0 rfl|exact li0 rfl|refine lg0 ?_|refine lt0 ?_|fail)
  all_goals first|exact bb0 rfl|exact trivial|fail
 ·have hi:i<=l.length:=hi;have hpl:=zvc (t:=t) (b:=b) hi
  (refine⟨by kernel_rfl,?_⟩;(conv=>whnf))
  refine brI (fun h1=>?_) (fun h1=>?_)
  ·have h1:i<l.length:=by simp only[decide_eq_true_eq]at h1;omega
   have hpg:=qcw (t:=t) (b:=b) h1;conv=>whnf
   refine⟨⟨by omega,by omega⟩,?_⟩;conv=>whnf
   refine⟨by simp;omega,fun x hx=>?_⟩;have hx:(chP t b l i)[(i:Int).toNat]? =some x:=hx;have hx:(chP t b l i)[i]? =some x:=by simpa using hx
   rw[hpg]at hx;conv=>whnf
   refine⟨[.map .str .ex [(t,b)]],_,hl x (q7 hx),?_⟩;conv=>whnf
   refine⟨⟨by omega,by omega⟩,?_⟩;conv=>whnf
   rw[Ex.eta2];refine⟨by simp;omega,?_⟩;conv=>whnf
   refine⟨i+1,by show i+1<=l.length;omega,by show l.length-(i+1)<l.length-i;omega,?_⟩
   ((conv=>whnf);refine q9 ?_ ?_;repeat' first|refine lc ?_ ?_|exact la0|exact lr rfl|exact ln0|refine lh1 ?_ ?_|exact lh0|exact bf0|exact bd0|refine bc0 ?_|exact bm0 rfl|exact bg0 rfl|exact li0 rfl|refine lg0 ?_|refine lt0 ?_|fail)
   ·exact ai0 (by rw[wI (by omega)];omega)
   ·exact bb0 (by rw[←qcv hx];simp)
  ·have h1:i=l.length:=by
    have:=of_decide_eq_false h1;omega
   conv=>whnf
   exact⟨zt3 (show Ex.mk k q s n (chP t b l i)=Ex.mk k q s n (chL t b l) by rw[h1];unfold chP;rw[List.take_of_length_le (by rw[yj];exact Nat.le_refl _),List.drop_length,List.append_nil]),qfv⟩
theorem zbq (t:ze) (b:Ex) (hb:qhr b) (k:Int) (q:Rt) (s:ze) (n:Int) (l:List Ex) (hl: ∀x∈l,qhs t b x) (hlen:l.length<=1000):qhs t b (.mk k q s n l):=by
 have hm:=mg1 s t b (.mk 0 ⟨0,0⟩ [] 0 []);have hh:=mh1 s t b;unfold qhs;by_cases hr:k=2/\s=t
 ·rw[show chE t b (.mk k q s n l)=b by simp only[chE];rw[if_pos hr]];rw[if_pos hr.2]at hm;rw[decide_eq_true hr.2]at hh;have hb':Fn 186 [] [.agg (exC (zb4 .str s (.mk 0 ⟨0,0⟩ [] 0 []) [(t,b)]))] (.agg (exC (zb4 .str s (.mk 0 ⟨0,0⟩ [] 0 []) [(t,b)]))) []:=by rw[hm];exact hb
  have hh':zc3 .str s [(t,b)]=false->False:=fun c=>by rw[hh]at c;cases c
  show Fn 108 (Hch t b) [.agg [.int .i64 k,.int .i64 q.n,.int .i64 q.d,.str s,.int .i64 n,.sl .ex l],.mp 1000001] (.agg (exC b)) (Hch t b);refine fnT hT hmx Tryz.func108 rfl rfl (ex:= []) ?_;conv=>whnf
  refine brI (fun _=>?_) (fun c=>(hh' c).elim);conv=>whnf
  refine brI (fun c=>?_) (fun c=>?_)
  ·conv=>whnf
   refine gZn hb' ?_;conv=>whnf
   exact⟨zt3 hm,qfv⟩
  ·have c:(k==2)=false:=c;simp at c;exact absurd hr.1 c
 ·rw[show chE t b (.mk k q s n l)= .mk k q s n (chL t b l) by simp only[chE];rw[if_neg hr]];show Fn 108 (Hch t b) [.agg [.int .i64 k,.int .i64 q.n,.int .i64 q.d,.str s,.int .i64 n,.sl .ex l],.mp 1000001] (.agg (exC (.mk k q s n (chL t b l)))) (Hch t b);refine jc (code:=zvj) hT hmx Tryz.func108 rfl rfl (ex:= []) ?_;conv=>whnf
  refine yd hT hmx 2 (fun _:Unit=>⟨[.any,.mp 1000001,.ptr 2 0,.any,.ptr 4 0]++zf1 40,[(2,.cells (exC (.mk k q s n l))),(4,.cells (exC (.mk 0 ⟨0,0⟩ [] 0 []))),(5,.free),(26,.free)]++Hch t b⟩) (fun _=>by kernel_rfl) ?_ (fun _=>zug t b k q s n l hl hlen);conv=>whnf
  refine brI (fun c1=>?_) (fun c1=>?_)
  ·conv=>whnf
   refine brI (fun c2=>?_) (fun c2=>?_)
   ·have c2:(k==2)=true:=c2;rw[hh]at c1;exact absurd ⟨by simpa using c2,of_decide_eq_true c1⟩ hr
   ·conv=>whnf
    refine⟨(),?_⟩
    ((conv=>whnf);refine q9 ?_ ?_;repeat' first|refine lc ?_ ?_|exact la0|exact lr rfl|exact ln0|refine lh1 ?_ ?_|exact lh0|exact bf0|exact bd0|refine bc0 ?_|exact bm0 rfl|exact bb0 rfl|exact bg0 rfl|exact li0 rfl|refine lg0 ?_|refine lt0 ?_|fail)
  ·conv=>whnf
   refine⟨(),?_⟩
   ((conv=>whnf);refine q9 ?_ ?_;repeat' first|refine lc ?_ ?_|exact la0|exact lr rfl|exact ln0|refine lh1 ?_ ?_|exact lh0|exact bf0|exact bd0|refine bc0 ?_|exact bm0 rfl|exact bb0 rfl|exact bg0 rfl|exact li0 rfl|refine lg0 ?_|refine lt0 ?_|fail)
theorem g108 {t:ze} {b:Ex} (hb:qhr b) {e:Ex} (h:VT e):qhs t b e:=by
 induction h with
 |num r hr=>exact zbq t b hb 1 r [] 0 [] (by simp) (by simp)
 |var s hs=>exact zbq t b hb 2 ⟨0,0⟩ s 0 [] (by simp) (by simp)
 |un k a hk ha ih=>exact zbq t b hb k ⟨0,0⟩ [] 0 [a] (by simpa using ih) (by simp)
 |pow n a h1 h2 ha ih=>exact zbq t b hb 8 ⟨0,0⟩ [] n [a] (by simpa using ih) (by simp)
 |bin k a c hk ha hb' ih1 ih2=>exact zbq t b hb k ⟨0,0⟩ [] 0 [a,c] (by simpa using⟨ih1,ih2⟩) (by simp)
mutual
theorem qdb {t:ze} {b:Ex} (hb:Sm b): ∀e:Ex,Sm e->Sm (chE t b e)
 | .mk k q s n l,h=>by
   simp only[chE];split
   ·exact hb
   ·simp only[Sm]at h⊢;exact⟨h.1,by rw[yj];exact h.2.1,zz1 hb l h.2.2⟩
theorem zz1 {t:ze} {b:Ex} (hb:Sm b): ∀l:List Ex,SmL l->SmL (chL t b l)
 | [],h=>by simp only[chL,SmL]
 |x::l,h=>by
  simp only[SmL]at h;simp only[chL,SmL];exact⟨qdb hb x h.1,zz1 hb l h.2⟩
end
def zEx:Ex:= .mk 0 ⟨0,0⟩ [] 0 []
def rpE (e:Ex) (t:ze) (b:Ex):Ex×Int:=if okT e=true/\okT b=true/\zht t=true then(if okT (chE t b e)=true then(chE t b e,0)else(zEx,5))else(zEx,1)
theorem zjz {h h':Hp} {n:Int}:leA h h' (.tup [.agg [.int .i64 0,.int .i64 0,.int .i64 0,.str [],.int .i64 0,.nilsl],.int .i64 n]) (.tup [.agg (exC zEx),.int .i64 n]):=lt0 (lc (lg0 (lc (lr rfl) (lc (lr rfl) (lc (lr rfl) (lc (lr rfl) (lc (lr rfl) (lc (li0 rfl) ln0))))))) (lc (lr rfl) ln0))
theorem g40 {e b:Ex} (he:Sm e) (hb:Sm b) {t:ze} (ht:t.length<9223372036854775808):Fn 40 [] [.agg (exC e),.str t,.agg (exC b)] (.tup [.agg (exC (rpE e t b).1),.int .i64 (rpE e t b).2]) []:=by
 have c1:=f17 e he;have c2:=f17 b hb;have c3:=f89 t ht
 cases h1:okT e with
 |false=>
  rw[h1]at c1;have hr:rpE e t b=(zEx,1):=by unfold rpE;rw[if_neg (by rw[h1];simp)]
  rw[hr];refine fnT hT hmx Tryz.func40 rfl rfl (ex:= []) ?_;conv=>whnf
  refine gZn c1 ?_;conv=>whnf
  exact⟨zjz,lh0⟩
 |true=>
 rw[h1]at c1
 cases h2:okT b with
 |false=>
  rw[h2]at c2;have hr:rpE e t b=(zEx,1):=by unfold rpE;rw[if_neg (by rw[h2];simp)]
  rw[hr];refine fnT hT hmx Tryz.func40 rfl rfl (ex:= []) ?_;conv=>whnf
  refine gZn c1 ?_;conv=>whnf
  refine gZn c2 ?_;conv=>whnf
  exact⟨zjz,lh0⟩
 |true=>
 rw[h2]at c2
 cases h3:zht t with
 |false=>
  rw[h3]at c3;have hr:rpE e t b=(zEx,1):=by unfold rpE;rw[if_neg (by rw[h3];simp)]
  rw[hr];refine fnT hT hmx Tryz.func40 rfl rfl (ex:= []) ?_;conv=>whnf
  refine gZn c1 ?_;conv=>whnf
  refine gZn c2 ?_;conv=>whnf
  refine gZn c3 ?_;conv=>whnf
  exact⟨zjz,lh0⟩
 |true=>
 rw[h3]at c3;have c108:Fn 108 (Hch t b) [.agg (exC e),.mp 1000001] (.agg (exC (chE t b e))) (Hch t b):=g108 (f128 (zbg h2)) (zbg h1);have c4:=f17 (chE t b e) (qdb hb e he);cases h4:okT (chE t b e)with
 |false=>
  rw[h4]at c4;have hr:rpE e t b=(zEx,5):=by unfold rpE;rw[if_pos ⟨h1,h2,h3⟩,if_neg (by rw[h4];simp)]
  rw[hr];generalize chE t b e=R at*;refine fnT hT hmx Tryz.func40 rfl rfl (ex:= []) ?_;conv=>whnf
  refine gZn c1 ?_;conv=>whnf
  refine gZn c2 ?_;conv=>whnf
  refine gZn c3 ?_;conv=>whnf
  rw[Ex.eta2];refine⟨[.map .str .ex [(t,b)]],_,c108.sw [(24,1000001)] rfl,?_⟩;conv=>whnf
  refine gZn c4 ?_;conv=>whnf
  exact⟨zjz,lh0⟩
 |true=>
  rw[h4]at c4;have hr:rpE e t b=(chE t b e,0):=by unfold rpE;rw[if_pos ⟨h1,h2,h3⟩,if_pos h4]
  rw[hr];generalize chE t b e=R at*;refine fnT hT hmx Tryz.func40 rfl rfl (ex:= []) ?_;conv=>whnf
  refine gZn c1 ?_;conv=>whnf
  refine gZn c2 ?_;conv=>whnf
  refine gZn c3 ?_;conv=>whnf
  rw[Ex.eta2];refine⟨[.map .str .ex [(t,b)]],_,c108.sw [(24,1000001)] rfl,?_⟩;conv=>whnf
  refine gZn c4 ?_;conv=>whnf
  exact⟨lr rfl,lh0⟩
noncomputable def body8:Code:=Tryz.f8.body.getD .skip
theorem rp_ok {e b R:Ex} {t:ze} (h:rpE e t b=(R,0)):okT e=true/\okT b=true/\okT (chE t b e)=true/\R=chE t b e:=by
 unfold rpE at h;split at h
 ·rename_i c;split at h
  ·rename_i d;exact⟨c.1,c.2.1,d,(Prod.mk.inj h).1.symm⟩
  ·exact absurd (Prod.mk.inj h).2 (by decide)
 ·exact absurd (Prod.mk.inj h).2 (by decide)
theorem q8 (e b:Ex) (ns:List ze) (xs:List Iv) (k p:Int) (he:Sm e) (hb:Sm b) (hns: ∀s∈ns,s.length<9223372036854775808) (h1:ns.length<9223372036854775808) (h2:xs.length<9223372036854775808) (hk:0<=k/\k<256) (hx: ∀x∈xs,LB x.lo.m/\LB x.hi.m):
 Fn 8 G0 [.agg (exC e),.sl .str ns,.sl .iv xs,.int .u8 k,.agg (exC b),.int .i64 p] (.bool true) G0:=by
 have hg:=x10 ns xs p h1 h2;by_cases g1:grB ns xs p=true
 ·rw[g1]at hg;refine fnT hT8 hmx Tryz.func8 rfl rfl (ex:= []) ?_;conv=>whnf
  refine gZc y4 ?_;conv=>whnf
  refine gZn hg ?_;conv=>whnf
  exact⟨lr rfl,leG⟩
 have g1:grB ns xs p=false:=by simpa using g1
 rw[g1]at hg;have l1:=qcb g1;have rx: ∀x∈xs,RI x:=fun x hxx=>⟨(hx x hxx).1,(hx x hxx).2,by have:=l1.2.2 x hxx;omega,by have:=l1.2.2 x hxx;omega⟩
 by_cases hll:ns.length=xs.length
 rotate_left
 ·refine fnT hT8 hmx Tryz.func8 rfl rfl (ex:= []) ?_;conv=>whnf
  refine gZc y4 ?_;conv=>whnf
  refine gZn hg ?_;conv=>whnf
  refine brI (fun _=>?_) (fun c=>?_)
  ·conv=>whnf
   exact⟨lr rfl,leG⟩
  ·have c:((ns.length:Int) != (xs.length:Int))=false:=c;have c:(ns.length:Int)=(xs.length:Int):=by simpa using c
   omega
 have hne:((ns.length:Int) != (xs.length:Int))=true->False:=fun c=>by rw[hll]at c;simp at c
 by_cases h0:xs= []
 ·subst h0;refine fnT hT8 hmx Tryz.func8 rfl rfl (ex:= []) ?_;conv=>whnf
  refine gZc y4 ?_;conv=>whnf
  refine gZn hg ?_;conv=>whnf
  refine brI (fun c=>(hne c).elim) (fun _=>?_);conv=>whnf
  exact⟨lr rfl,leG⟩
 have hpos:0<xs.length:=List.length_pos_iff.2 h0;have hne0:((xs.length:Int)==0)=true->False:=by
  intro c;have:(xs.length:Int)=0:=by simpa using c
  omega
 obtain⟨i,hi⟩: ∃i,k.toNat % xs.length=i:=⟨_,rfl⟩;have hil:i<xs.length:=by rw[←hi];exact Nat.mod_lt _ hpos
 have hw:(IntKind.i64.wrap k).tmod (xs.length:Int)=(i:Int):=by
  rw[wI (by omega),Int.tmod_eq_emod_of_nonneg hk.1,←hi];obtain⟨n,rfl⟩:=Int.eq_ofNat_of_zero_le hk.1;rw[Int.toNat_natCast];rfl
 obtain⟨t,ht⟩: ∃t,ns[i]? =some t:=⟨_,List.getElem?_eq_getElem (by omega)⟩;have hgt: ∀t',ns[(i:Int).toNat]? =some t'->t=t':=fun t' ht'=>by
  have ht':ns[i]? =some t':=by simpa using ht'
  rw[ht]at ht';exact Option.some.inj ht'
 have c40:=g40 he hb (hns t (q7 ht));obtain⟨⟨R,f⟩,hR⟩: ∃r,rpE e t b=r:=⟨_,rfl⟩;rw[hR]at c40;have c40:Fn 40 [] [.agg (exC e),.str t,.agg (exC b)] (.tup [.agg (exC R),.int .i64 f]) []:=c40;by_cases hf:f=0
 rotate_left
 ·have hfb:(f != 0)=false->False:=fun c=>hf (by simpa using c)
  clear hR;refine fnT hT8 hmx Tryz.func8 rfl rfl (ex:= []) ?_;conv=>whnf
  refine gZc y4 ?_;conv=>whnf
  refine gZn hg ?_;conv=>whnf
  refine brI (fun c=>(hne c).elim) (fun _=>?_);conv=>whnf
  refine brI (fun c=>(hne0 c).elim) (fun _=>?_);conv=>whnf
  refine⟨by omega,?_⟩;conv=>whnf
  rw[hw];refine⟨⟨by omega,by omega⟩,fun t' ht'=>?_⟩;obtain rfl:=hgt t' ht';conv=>whnf
  refine gZn c40 ?_;conv=>whnf
  (refine⟨by kernel_rfl,by kernel_rfl,?_⟩;(conv=>whnf))
  refine brI (fun _=>?_) (fun c=>(hfb c).elim);conv=>whnf
  (refine⟨by kernel_rfl,by kernel_rfl,?_⟩;(conv=>whnf))
  exact⟨lr rfl,leG⟩
 subst hf;obtain⟨ok1,ok2,ok3,rfl⟩:=rp_ok hR;clear hR;have hnm:=f91 e he;have hnl:(nmE e).length <=1000:=by
  have g1:=zet (zmo (zgl (zhp e)));have g2:(zmo (zgl (zhp e))).length =(zgl (zhp e)).length :=List.length_mergeSort _;have g3:=zfq (zhp e);have g4:=zi4 e;have g5:=zr7 e;unfold nmE;omega
 have c41:=x38 (nmE e) t (by omega);by_cases htm:t∈nmE e
 rotate_left
 ·rw[decide_eq_false htm]at c41;refine fnT hT8 hmx Tryz.func8 rfl rfl (ex:= []) ?_;conv=>whnf
  refine gZc y4 ?_;conv=>whnf
  refine gZn hg ?_;conv=>whnf
  refine brI (fun c=>(hne c).elim) (fun _=>?_);conv=>whnf
  refine brI (fun c=>(hne0 c).elim) (fun _=>?_);conv=>whnf
  refine⟨by omega,?_⟩;conv=>whnf
  rw[hw];refine⟨⟨by omega,by omega⟩,fun t' ht'=>?_⟩;obtain rfl:=hgt t' ht';conv=>whnf
  refine gZn c40 ?_;conv=>whnf
  (refine⟨by kernel_rfl,by kernel_rfl,?_⟩;(conv=>whnf))
  refine gZn hnm ?_;conv=>whnf
  refine⟨⟨by omega,by omega⟩,fun t' ht'=>?_⟩;obtain rfl:=hgt t' ht';conv=>whnf
  refine gZn c41 ?_;conv=>whnf
  (refine⟨by kernel_rfl,by kernel_rfl,?_⟩;(conv=>whnf))
  exact⟨lr rfl,leG⟩
 rw[decide_eq_true htm]at c41;have hc:=x13 xs (by omega) h0;have v3:=x16 b hb ns xs rx h1 h2 p;have rV:=zz4 b ns xs rx p;have v1:=x16 (chE t b e) (qdb hb e he) ns xs rx h1 h2 p;have rs: ∀v,RI v-> ∀x∈xs.set i v,RI x:=fun v hv x hxx=>by
  rcases List.mem_or_eq_of_mem_set hxx with h|rfl
  ·exact rx x h
  ·exact hv
 have v2:=x16 e he ns (xs.set i (zfo fxA b ns xs p)) (rs _ rV) h1 (by simpa using h2) p;rw[←zwy ht hll ok1 ok2 ok3 rx htm]at v2;have hA:=zz4 (chE t b e) ns xs rx p;generalize zfo fxA (chE t b e) ns xs p=A at*;generalize zfo fxA b ns xs p=V at*;generalize chE t b e=R at*;have hs:=x20 A hA.l1 hA.l2;refine jc (code:=body8) hT8 hmx Tryz.func8 rfl rfl (ex:= []) ?_;conv=>whnf
 refine yd hT8 hmx 8 (fun _:Unit=>⟨[.any,.sl .str ns,.sl .iv xs,.any,.any,.int .i64 p,.ptr 6 0,.any,.any,.any,.any,.any,.any,.any,.ptr 14 0,.any,.own 63]++zf1 66,[(6,.cells (exC e)),(10,.free),(14,.cells (exC R)),(63,.buf 28 .iv (xs.set i V)),(qu,.gst JT)]⟩) (fun _=>by kernel_rfl) ?_ (fun _=>?_)
 ·conv=>whnf
  refine gZc y4 ?_;conv=>whnf
  refine gZn hg ?_;conv=>whnf
  refine brI (fun c=>(hne c).elim) (fun _=>?_);conv=>whnf
  refine brI (fun c=>(hne0 c).elim) (fun _=>?_);conv=>whnf
  refine⟨by omega,?_⟩;conv=>whnf
  rw[hw];refine⟨⟨by omega,by omega⟩,fun t' ht'=>?_⟩;obtain rfl:=hgt t' ht';conv=>whnf
  refine gZn c40 ?_;conv=>whnf
  (refine⟨by kernel_rfl,by kernel_rfl,?_⟩;(conv=>whnf))
  refine gZn hnm ?_;conv=>whnf
  refine⟨⟨by omega,by omega⟩,fun t' ht'=>?_⟩;obtain rfl:=hgt t' ht';conv=>whnf
  refine gZn c41 ?_;conv=>whnf
  (refine⟨by kernel_rfl,by kernel_rfl,?_⟩;(conv=>whnf))
  refine⟨[],[.buf 28 .iv xs],.own 2000000,hc,?_⟩;conv=>whnf
  refine gZc v3 ?_;conv=>whnf
  refine⟨⟨by omega,by omega⟩,?_⟩;conv=>whnf
  refine⟨by omega,?_⟩;conv=>whnf
  refine⟨(),?_⟩
  ((conv=>whnf);refine q9 ?_ ?_;repeat' first|refine lc ?_ ?_|exact la0|exact lr rfl|exact ln0|refine lh1 ?_ ?_|exact lh0|exact bf0|exact bd0|refine bc0 ?_|exact bm0 rfl|exact bb0 rfl|exact bg0 rfl|exact li0 rfl|refine lg0 ?_|refine lt0 ?_|fail)
 ·refine zqp [63] ?_;conv=>whnf
  refine yc hT8 hmx ?_;conv=>whnf
  refine gZc v1 ?_;conv=>whnf
  refine gZc v2 ?_;conv=>whnf
  refine gZn hs ?_;conv=>whnf
  (refine⟨by kernel_rfl,by kernel_rfl,?_⟩;(conv=>whnf))
  exact⟨lr rfl,leG⟩
end Go.Proofs.YtbolipecnhlnnaaGreatDoor
