/-
  Seat .Z: the reference's names.
-/
import Derived.Test.YtajnlbbgolmklaaGreatDoorQUb
import Derived.Test.YtajnlbbgolmklaaGreatDoorQVa
import Derived.Test.YtajnlbbgolmklaaGreatDoorQUa
import Derived.Test.YtajnlbbgolmklaaGreatDoorQYa
import Derived.Test.YtajnlbbgolmklaaGreatDoorQZz
import Derived.Test.YtajnlbbgolmklaaGreatDoorQWx
set_option linter.unusedVariables false
set_option linter.unusedSimpArgs false
namespace Go.Proofs.YtajnlbbgolmklaaGreatDoor
open Go Go.Sx
set_option maxRecDepth 100000
set_option maxHeartbeats 8000000
def ltB (c:Int):Bool:=decide (97≤c∧c≤122)||decide (65≤c∧c≤90)
def qaf (c:Int):Bool:=decide (48≤c∧c≤57)
def rnB (c:Int):Bool:=ltB c||qaf c||decide (c=95)||decide (c=46)
theorem z115 (c:Int):Fn 324 [] [.int .u8 c] (.bool (ltB c)) []:=by
 refine fnT hT hmx Tryz.func324 rfl rfl (ex:= []) ?_;conv=>whnf
 repeat' first
  |(refine brI (fun h=>?_) (fun h=>?_)<;>(conv=>whnf))
  |refine And.intro (ab0 ?_) lh0
 all_goals (simp only[decide_eq_true_eq,decide_eq_false_iff_not]at*;unfold ltB;rw[Bool.eq_iff_iff];simp;omega)
theorem z116 (c:Int):Fn 325 [] [.int .u8 c] (.bool (qaf c)) []:=by
 refine fnT hT hmx Tryz.func325 rfl rfl (ex:= []) ?_;conv=>whnf
 repeat' first
  |(refine brI (fun h=>?_) (fun h=>?_)<;>(conv=>whnf))
  |refine And.intro (ab0 ?_) lh0
 all_goals (simp only[decide_eq_true_eq,decide_eq_false_iff_not]at*;unfold qaf;rw[Bool.eq_iff_iff];simp;omega)
theorem z114 (c:Int):Fn 323 [] [.int .u8 c] (.bool (rnB c)) []:=by
 refine fnT hT hmx Tryz.func323 rfl rfl (ex:= []) ?_;conv=>whnf
 refine cbI [] (ltB c) (z115 c) (fun h1=>?_) (fun h1=>?_)
 ·conv=>whnf
  exact⟨ab0 (by simp[rnB,h1]),lh0⟩
 conv=>whnf
 refine cbI [] (qaf c) (z116 c) (fun h2=>?_) (fun h2=>?_)
 ·conv=>whnf
  exact⟨ab0 (by simp[rnB,h2]),lh0⟩
 conv=>whnf
 refine brI (fun h3=>?_) (fun h3=>?_)
 ·conv=>whnf
  exact⟨ab0 (by simp only[decide_eq_true_eq,beq_iff_eq]at h3;simp[rnB,h3]),lh0⟩
 ·conv=>whnf
  exact⟨ab0 (by simp only[decide_eq_false_iff_not,beq_eq_false_iff_ne,ne_eq]at h3;unfold rnB;rw[h1,h2,Bool.eq_iff_iff];simp[h3]),lh0⟩
theorem qd4 (c:UInt8):chB c=(!(decide ((c.toNat:Int)=46))&&rnB c.toNat):=by
 unfold chB cls rnB ltB qaf
 rw[Bool.eq_iff_iff]
 simp only[Bool.or_eq_true,Bool.and_eq_true,Bool.not_eq_true',decide_eq_true_eq,decide_eq_false_iff_not]
 repeat' split
 all_goals omega
theorem zxj (c:UInt8):decide (cls c.toNat=2)=ltB c.toNat:=by
 unfold cls ltB
 rw[Bool.eq_iff_iff]
 simp only[Bool.or_eq_true,decide_eq_true_eq]
 repeat' split
 all_goals omega
theorem zuq (s:zd):zcs s=(s.all chB&&match s with| []=>false|c::_=>ltB c.toNat):=by
 cases s with
 |nil=>simp[zcs]
 |cons c s=>
  simp only[zcs,List.all_cons,zxj]
  cases h:ltB c.toNat with
  |false=>simp
  |true=>
   have h2:decide (cls c.toNat=2)=true:=by rw[zxj];exact h
   simp[chB,h2]
theorem z101 (s:zd) (hs:s.length<9223372036854775808):Fn 292 [] [.str s] (.bool (zcs s)) []:=by
 rw[zuq]
 refine fnT hT hmx Tryz.func292 rfl rfl (ex:= []) ?_;conv=>whnf
 refine⟨Nat,fun i=>i≤s.length∧(s.drop i).all chB=s.all chB,fun i=> [(3,.int .i64 i)],fun _=> [],fun i=>s.length-i,0,⟨by simp,by simp⟩,?_,fun i hi=>?_⟩
 ·((conv=>whnf);refine And.intro ?_ ?_;repeat' first|refine lc ?_ ?_|exact la0|exact lr rfl|exact ln0|refine lh1 ?_ ?_|exact lh0|exact bf0|exact bd0|refine bc0 ?_|exact bm0 rfl|exact bg0 rfl|exact li0 rfl|refine lg0 ?_|refine lt0 ?_|fail)
 (refine⟨by kernel_rfl,?_⟩;(conv=>whnf))
 obtain⟨hi1,hi2⟩:=hi
 refine brI (fun h1=>?_) (fun h1=>?_)
 ·conv=>whnf
  have hi:i<s.length:=by simp only[decide_eq_true_eq]at h1;omega
  refine⟨⟨by omega,by omega⟩,fun c hc=>?_⟩
  have hc:s[(i:Int).toNat]? =some c:=hc
  have hc:s[i]? =some c:=by simpa using hc
  obtain⟨hl,hg⟩:=List.getElem?_eq_some_iff.1 hc
  have hd:s.drop i=c::s.drop (i+1):=by rw[←hg];exact List.drop_eq_getElem_cons hl
  rw[hd,List.all_cons,qd4]at hi2
  conv=>whnf
  refine brI (fun h2=>?_) (fun h2=>?_)
  ·have h2:(c.toNat:Int)=46:=by simpa using h2
   conv=>whnf
   refine⟨ab0 ?_,lh0⟩
   rw[decide_eq_true h2]at hi2
   rw[←hi2];rfl
  have h2: ¬(c.toNat:Int)=46:=by simpa using h2
  rw[decide_eq_false h2]at hi2
  conv=>whnf
  refine⟨⟨by omega,by omega⟩,fun c' hc'=>?_⟩
  have hc':s[(i:Int).toNat]? =some c':=hc'
  have hc':s[i]? =some c':=by simpa using hc'
  rw[hc]at hc';cases hc'
  conv=>whnf
  refine cbI [] (rnB c.toNat) (z114 c.toNat) (fun h3=>?_) (fun h3=>?_)
  ·conv=>whnf
   rw[h3]at hi2
   refine⟨i+1,⟨by omega,by simpa using hi2⟩,by show s.length-(i+1)<s.length-i;omega,?_⟩
   ((conv=>whnf);refine And.intro ?_ ?_;repeat' first|refine lc ?_ ?_|exact la0|exact lr rfl|exact ln0|refine lh1 ?_ ?_|exact lh0|exact bf0|exact bd0|refine bc0 ?_|exact bm0 rfl|exact bg0 rfl|exact li0 rfl|refine lg0 ?_|refine lt0 ?_|fail)
   exact ai0 (by rw[wI (by omega)];omega)
  ·conv=>whnf
   refine⟨ab0 ?_,lh0⟩
   rw[h3]at hi2
   rw[←hi2];rfl
 have hi: ¬i<s.length:=by simp only[decide_eq_false_iff_not]at h1;omega
 rw[List.drop_of_length_le (by omega)]at hi2
 rw[←hi2]
 conv=>whnf
 match s,hs with
 | [],_=>
   conv=>whnf
   exact⟨ab0 rfl,lh0⟩
 |c::s,_=>
  conv=>whnf
  refine⟨⟨by omega,by simp⟩,fun c' hc'=>?_⟩
  obtain rfl:c=c':=by simpa using hc'
  conv=>whnf
  refine gZn (z115 c.toNat) ?_;conv=>whnf
  exact⟨ab0 (by simp),lh0⟩
def nuF:zd→Nat→Nat→Option (Nat×Nat)
 | [],a,b=>some (a,b)
 |c::s,a,b=>if(c.toNat:Int)=46 then nuF s (a+1) b else if qaf c.toNat=true then nuF s a (b+1)else none
def nuR (s:zd):Int×Bool:=match nuF s 0 0 with
 |none=>(0,false)
 |some (a,b)=>if 1<a∨s= []∨((s.headD 0).toNat :Int)=46∨(((s.getLast?).getD 0).toNat :Int)=46 then(0,false)else(b,true)
theorem z102 (s:zd) (hs:s.length<9223372036854775808):Fn 293 [] [.str s] (.tup [.int .i64 (nuR s).1,.bool (nuR s).2]) []:=by
 obtain⟨A,hA⟩: ∃A,nuR s=A:=⟨_,rfl⟩
 rw[hA]
 unfold nuR at hA
 refine fnT hT hmx Tryz.func293 rfl rfl (ex:= []) ?_;conv=>whnf
 refine⟨Nat×Nat×Nat,fun x=>x.1≤s.length∧x.2.1≤x.1∧x.2.2≤x.1∧nuF (s.drop x.1) x.2.1 x.2.2=nuF s 0 0,fun x=> [(4,.int .i64 x.2.1),(5,.int .i64 x.2.2),(6,.int .i64 x.1)],fun _=> [],fun x=>s.length-x.1,(0,0,0),⟨by simp,by simp,by simp,rfl⟩,?_,fun x hx=>?_⟩
 ·((conv=>whnf);refine And.intro ?_ ?_;repeat' first|refine lc ?_ ?_|exact la0|exact lr rfl|exact ln0|refine lh1 ?_ ?_|exact lh0|exact bf0|exact bd0|refine bc0 ?_|exact bm0 rfl|exact bg0 rfl|exact li0 rfl|refine lg0 ?_|refine lt0 ?_|fail)
 (refine⟨by kernel_rfl,?_⟩;(conv=>whnf))
 obtain⟨i,a,b⟩:=x
 obtain⟨hi1,hi2,hi3,hi4⟩:=hx
 simp only at hi1 hi2 hi3 hi4
 refine brI (fun h1=>?_) (fun h1=>?_)
 ·conv=>whnf
  have hi:i<s.length:=by simp only[decide_eq_true_eq]at h1;omega
  refine⟨⟨by omega,by simp only;omega⟩,fun c hc=>?_⟩
  have hc:s[(i:Int).toNat]? =some c:=hc
  have hc:s[i]? =some c:=by simpa using hc
  obtain⟨hl,hg⟩:=List.getElem?_eq_some_iff.1 hc
  have hd:s.drop i=c::s.drop (i+1):=by rw[←hg];exact List.drop_eq_getElem_cons hl
  rw[hd]at hi4
  simp only[nuF]at hi4
  conv=>whnf
  refine brI (fun h2=>?_) (fun h2=>?_)
  ·have h2:(c.toNat:Int)=46:=by simpa using h2
   rw[if_pos h2]at hi4
   conv=>whnf
   refine⟨(i+1,a+1,b),⟨by simp only;omega,by simp only;omega,by simp only;omega,hi4⟩,by show s.length-(i+1)<s.length-i;omega,?_⟩
   ((conv=>whnf);refine And.intro ?_ ?_;repeat' first|refine lc ?_ ?_|exact la0|exact lr rfl|exact ln0|refine lh1 ?_ ?_|exact lh0|exact bf0|exact bd0|refine bc0 ?_|exact bm0 rfl|exact bg0 rfl|exact li0 rfl|refine lg0 ?_|refine lt0 ?_|fail)
   ·exact ai0 (by rw[wI (by simp only;omega)];simp only;omega)
   ·exact ai0 (by rw[wI (by simp only;omega)];simp only;omega)
  have h2: ¬(c.toNat:Int)=46:=by simpa using h2
  rw[if_neg h2]at hi4
  conv=>whnf
  refine⟨⟨by omega,by simp only;omega⟩,fun c' hc'=>?_⟩
  have hc':s[(i:Int).toNat]? =some c':=hc'
  have hc':s[i]? =some c':=by simpa using hc'
  rw[hc]at hc';cases hc'
  conv=>whnf
  refine cbI [] (qaf c.toNat) (z116 c.toNat) (fun h3=>?_) (fun h3=>?_)
  ·conv=>whnf
   rw[if_pos h3]at hi4
   refine⟨(i+1,a,b+1),⟨by simp only;omega,by simp only;omega,by simp only;omega,hi4⟩,by show s.length-(i+1)<s.length-i;omega,?_⟩
   ((conv=>whnf);refine And.intro ?_ ?_;repeat' first|refine lc ?_ ?_|exact la0|exact lr rfl|exact ln0|refine lh1 ?_ ?_|exact lh0|exact bf0|exact bd0|refine bc0 ?_|exact bm0 rfl|exact bg0 rfl|exact li0 rfl|refine lg0 ?_|refine lt0 ?_|fail)
   ·exact ai0 (by rw[wI (by simp only;omega)];simp only;omega)
   ·exact ai0 (by rw[wI (by simp only;omega)];simp only;omega)
  ·conv=>whnf
   rw[if_neg (by rw[h3];simp)]at hi4
   rw[←hi4]at hA
   subst hA
   exact⟨lr rfl,lh0⟩
 have hi: ¬i<s.length:=by simp only[decide_eq_false_iff_not]at h1;omega
 rw[List.drop_of_length_le (by omega)]at hi4
 simp only[nuF]at hi4
 rw[←hi4]at hA
 simp only at hA
 conv=>whnf
 refine brI (fun h2=>?_) (fun h2=>?_)
 ·have h2:1<a:=by simp only[decide_eq_true_eq]at h2;omega
  rw[if_pos (.inl h2)]at hA
  subst hA
  conv=>whnf
  exact⟨lr rfl,lh0⟩
 have h2: ¬1<a:=by simp only[decide_eq_false_iff_not]at h2;omega
 conv=>whnf
 match s,hs with
 | [],_=>
   rw[if_pos (.inr (.inl rfl))]at hA
   subst hA
   conv=>whnf
   exact⟨lr rfl,lh0⟩
 |c::s,hs=>
  conv=>whnf
  refine⟨⟨by omega,by simp⟩,fun c' hc'=>?_⟩
  obtain rfl:c=c':=by simpa using hc'
  conv=>whnf
  refine brI (fun h3=>?_) (fun h3=>?_)
  ·have h3:(c.toNat:Int)=46:=by simpa using h3
   rw[if_pos (.inr (.inr (.inl h3)))]at hA
   subst hA
   conv=>whnf
   exact⟨lr rfl,lh0⟩
  have h3: ¬(c.toNat:Int)=46:=by simpa using h3
  conv=>whnf
  have hw:IntKind.i64.wrap (((c::s).length :Int)-1)=(s.length:Int):=by rw[wI (by omega)];simp
  refine⟨⟨by rw[hw];omega,by rw[hw];simp only[List.length_cons];omega⟩,fun d hd=>?_⟩
  have hd:(c::s)[(IntKind.i64.wrap (((c::s).length :Int)-1)).toNat]? =some d:=hd
  rw[hw]at hd
  have hl:(c::s).getLast? =some d:=by rw[List.getLast?_eq_getElem?];simpa using hd
  rw[hl]at hA
  conv=>whnf
  refine brI (fun h4=>?_) (fun h4=>?_)
  ·have h4:(d.toNat:Int)=46:=by simpa using h4
   rw[if_pos (.inr (.inr (.inr h4)))]at hA
   subst hA
   conv=>whnf
   exact⟨lr rfl,lh0⟩
  ·have h4: ¬(d.toNat:Int)=46:=by simpa using h4
   rw[if_neg (by simp only[List.headD_cons,Option.getD_some];rintro(h|h|h|h)<;>simp_all)]at hA
   subst hA
   conv=>whnf
   exact⟨lr rfl,lh0⟩
def kdR (s:zd):Int×Int:=if zcs s=true then(if 20<s.length then(0,5)else(1,0))else if(nuR s).2=false then(0,3)else if 18<(nuR s).1 then(0,5)else(2,0)
theorem z78 (s:zd) (hs:s.length<9223372036854775808):Fn 248 [] [.str s] (.tup [.int .i64 (kdR s).1,.int .i64 (kdR s).2]) []:=by
 obtain⟨A,hA⟩: ∃A,kdR s=A:=⟨_,rfl⟩
 rw[hA]
 unfold kdR at hA
 refine fnT hT hmx Tryz.func248 rfl rfl (ex:= []) ?_;conv=>whnf
 refine cbI [] (zcs s) (z101 s hs) (fun h1=>?_) (fun h1=>?_)
 ·rw[if_pos h1]at hA
  conv=>whnf
  refine brI (fun h2=>?_) (fun h2=>?_)
  ·rw[if_pos (by simp only[decide_eq_true_eq]at h2;omega)]at hA
   subst hA
   conv=>whnf
   exact⟨lr rfl,lh0⟩
  ·rw[if_neg (by simp only[decide_eq_false_iff_not]at h2;omega)]at hA
   subst hA
   conv=>whnf
   exact⟨lr rfl,lh0⟩
 rw[if_neg (by rw[h1];simp)]at hA
 have h102:=z102 s hs
 obtain⟨⟨n,b⟩,hn⟩: ∃B,nuR s=B:=⟨_,rfl⟩
 rw[hn]at hA h102
 simp only at hA h102
 conv=>whnf
 refine gZn h102 ?_;conv=>whnf
 cases b with
 |false=>
  rw[if_pos rfl]at hA
  subst hA
  conv=>whnf
  exact⟨lr rfl,lh0⟩
 |true=>
  rw[if_neg (by simp)]at hA
  conv=>whnf
  refine brI (fun h2=>?_) (fun h2=>?_)
  ·rw[if_pos (by simpa using h2)]at hA
   subst hA
   conv=>whnf
   exact⟨lr rfl,lh0⟩
  ·rw[if_neg (by simpa using h2)]at hA
   subst hA
   conv=>whnf
   exact⟨lr rfl,lh0⟩
theorem z103:Fn 294 [] [] (.sl .str kws) []:=by
 refine fnT hT hmx Tryz.func294 rfl rfl (ex:= []) ?_;conv=>whnf
 exact⟨lr rfl,lh0⟩
theorem zvr (s:zd) {i:Nat} {k:zd} (h:kws[i]? =some k):(kws.drop i).any (fun k=>s==k)=((s==k)||(kws.drop (i+1)).any fun k=>s==k):=by
 obtain⟨hi,hx⟩:=List.getElem?_eq_some_iff.1 h
 rw[List.drop_eq_getElem_cons hi,hx,List.any_cons]
theorem z79 (s:zd):Fn 249 [] [.str s] (.bool (kwB s)) []:=by
 obtain⟨K,hK⟩: ∃K,kws=K:=⟨_,rfl⟩
 have h103:=z103
 have hkl:K.length=15:=by rw[←hK];rfl
 have hdr:= @zvr s
 unfold kwB
 rw[hK]at h103 hdr⊢
 refine fnT hT hmx Tryz.func249 rfl rfl (ex:= []) ?_;conv=>whnf
 refine gZn h103 ?_;conv=>whnf
 refine⟨Nat,fun i=>i≤K.length∧(K.drop i).any (fun k=>s==k)=K.any (fun k=>s==k),fun i=> [(4,.int .i64 i)],fun _=> [],fun i=>K.length-i,0,⟨by simp,by simp⟩,?_,fun i hi=>?_⟩
 ·((conv=>whnf);refine And.intro ?_ ?_;repeat' first|refine lc ?_ ?_|exact la0|exact lr rfl|exact ln0|refine lh1 ?_ ?_|exact lh0|exact bf0|exact bd0|refine bc0 ?_|exact bm0 rfl|exact bg0 rfl|exact li0 rfl|refine lg0 ?_|refine lt0 ?_|fail)
 (refine⟨by kernel_rfl,?_⟩;(conv=>whnf))
 obtain⟨hi1,hi2⟩:=hi
 refine brI (fun h1=>?_) (fun h1=>?_)
 ·conv=>whnf
  have hi:i<K.length:=by simp only[decide_eq_true_eq]at h1;omega
  refine⟨⟨by omega,by omega⟩,fun k hk=>?_⟩
  have hk:K[i]? =some k:=by simpa using hk
  rw[hdr hk]at hi2
  conv=>whnf
  refine brI (fun h2=>?_) (fun h2=>?_)
  ·conv=>whnf
   have h2:(k==s)=true:=h2
   have h2:(s==k)=true:=by rw[beq_iff_eq]at h2⊢;exact h2.symm
   refine⟨ab0 ?_,lh0⟩
   rw[←hi2,h2,Bool.true_or]
  ·conv=>whnf
   have h2:(k==s)=false:=h2
   have h2:(s==k)=false:=by rw[beq_eq_false_iff_ne]at h2⊢;exact fun h=>h2 h.symm
   rw[h2,Bool.false_or]at hi2
   refine⟨i+1,⟨by omega,hi2⟩,by show K.length-(i+1)<K.length-i;omega,?_⟩
   ((conv=>whnf);refine And.intro ?_ ?_;repeat' first|refine lc ?_ ?_|exact la0|exact lr rfl|exact ln0|refine lh1 ?_ ?_|exact lh0|exact bf0|exact bd0|refine bc0 ?_|exact bm0 rfl|exact bg0 rfl|exact li0 rfl|refine lg0 ?_|refine lt0 ?_|fail)
   exact ai0 (by rw[wI (by omega)];omega)
 ·conv=>whnf
  have hi: ¬i<K.length:=by simp only[decide_eq_false_iff_not]at h1;omega
  rw[List.drop_of_length_le (by omega)]at hi2
  exact⟨ab0 (by rw[←hi2];rfl),lh0⟩
theorem z60 (s:zd) (hs:s.length<9223372036854775808):Fn 170 [] [.str s] (.bool (zdt s)) []:=by
 have h78:=z78 s hs
 have hk:decide ((kdR s).1=1)=(zcs s&&decide (s.length≤20)):=by
  unfold kdR
  split
  ·rename_i h;rw[h]
   split
   ·rename_i h2;rw[decide_eq_false (by simp),decide_eq_false (by omega)];rfl
   ·rename_i h2;rw[decide_eq_true rfl,decide_eq_true (by omega)];rfl
  ·rename_i h
   have h:zcs s=false:=by simpa using h
   rw[h]
   split
   ·rfl
   ·split<;>rfl
 obtain⟨⟨n,b⟩,hn⟩: ∃B,kdR s=B:=⟨_,rfl⟩
 rw[hn]at h78 hk
 simp only at h78 hk
 refine fnT hT hmx Tryz.func170 rfl rfl (ex:= []) ?_;conv=>whnf
 refine gZn h78 ?_;conv=>whnf
 refine brI (fun h2=>?_) (fun h2=>?_)
 ·have h2:n=1:=by simpa using h2
  rw[decide_eq_true h2]at hk
  conv=>whnf
  refine gZn (z79 s) ?_;conv=>whnf
  exact⟨ab0 (by rw[zdt,←hk];simp),lh0⟩
 ·have h2: ¬n=1:=by simpa using h2
  rw[decide_eq_false h2]at hk
  conv=>whnf
  exact⟨ab0 (by rw[zdt,←hk];rfl),lh0⟩
end Go.Proofs.YtajnlbbgolmklaaGreatDoor

namespace Go.Proofs.YtajnlbbgolmklaaGreatDoor
open Go Go.Sx
mutual
def rcE:Ex→Nat→Nat
 | .mk _ _ _ _ _,0=>1048576
 | .mk k q s p l,n+1=>if xz (.mk k q s p l)=true then rcL l n 1 else 1048576
def rcL:List Ex→Nat→Nat→Nat
 | [],_,a=>a
 |x::l,n,a=>if a≤200 then rcL l n (a+rcE x n)else a
end
mutual
theorem zw7: ∀(e:Ex) (n:Nat),rcE e n≤1048576+200*n
 | .mk _ _ _ _ _,0=>by simp[rcE]
 | .mk k q s p l,n+1=>by
   have h:=zw6 l n 1
   simp only[rcE]
   split<;>omega
theorem zw6: ∀(l:List Ex) (n a:Nat),rcL l n a≤max a (1048776+200*n)
 | [],n,a=>by simp only[rcL];omega
 |x::l,n,a=>by
  have h1:=zw7 x n
  have h2:=zw6 l n (a+rcE x n)
  simp only[rcL]
  split<;>omega
end
theorem zwd (e:Ex):1≤zul e:=by cases e;simp[zul]
mutual
theorem zrp: ∀(e:Ex) (n:Nat),(rcE e n≤200↔VS e∧zul e≤n∧zd6 e≤200)∧(rcE e n≤200→rcE e n=zd6 e)
 | .mk k q s p l,0=>by
   have h:=zwd (.mk k q s p l)
   simp only[rcE]
   exact⟨⟨fun h1=>by omega,fun h1=>by omega⟩,fun h1=>by omega⟩
 | .mk k q s p l,n+1=>by
   have ih:=zro l n 1
   simp only[rcE,VS,zul,zd6]
   by_cases h:xz (.mk k q s p l)=true
   ·rw[if_pos h]
    refine⟨⟨fun h1=>?_,fun h1=>?_⟩,fun h1=>?_⟩
    ·have:=ih.1.1 h1;exact⟨⟨h,this.1⟩,by omega,by omega⟩
    ·exact ih.1.2 ⟨h1.1.2,by omega,by omega⟩
    ·have:=ih.2 h1;omega
   ·rw[if_neg h]
    exact⟨⟨fun h1=>by omega,fun h1=>absurd h1.1.1 h⟩,fun h1=>by omega⟩
theorem zro: ∀(l:List Ex) (n a:Nat),(rcL l n a≤200↔VSL l∧zuk l≤n∧a+zd5 l≤200)∧(rcL l n a≤200→rcL l n a=a+zd5 l)
 | [],n,a=>by
   simp only[rcL,VSL,zuk,zd5]
   exact⟨⟨fun h=>⟨trivial,by omega,by omega⟩,fun h=>by omega⟩,fun _=>rfl⟩
 |x::l,n,a=>by
  have i1:=zrp x n
  have i2:=zro l n (a+rcE x n)
  simp only[rcL,VSL,zuk,zd5]
  by_cases h:a≤200
  ·rw[if_pos h]
   refine⟨⟨fun h1=>?_,fun h1=>?_⟩,fun h1=>?_⟩
   ·have h2:=i2.1.1 h1
    have h3:=i1.1.1 (by omega)
    have h4:=i1.2 (by omega)
    exact⟨⟨h3.1,h2.1⟩,by omega,by omega⟩
   ·have h3:=i1.1.2 ⟨h1.1.1,by omega,by omega⟩
    have h4:=i1.2 h3
    exact i2.1.2 ⟨h1.1.2,by omega,by omega⟩
   ·have h2:=i2.1.1 h1
    have h4:=i1.2 (by omega)
    have h5:=i2.2 h1
    omega
  ·rw[if_neg h]
   exact⟨⟨fun h1=>absurd h1 h,fun h1=>by omega⟩,fun h1=>absurd h1 h⟩
end
theorem qch (e:Ex):decide ((rcE e 20:Int)≤200)=okT e:=by
 rw[Bool.eq_iff_iff,decide_eq_true_eq,xc,←(zrp e 20).1];omega
end Go.Proofs.YtajnlbbgolmklaaGreatDoor

namespace Go.Proofs.YtajnlbbgolmklaaGreatDoor
open Go Go.Sx
set_option maxRecDepth 100000
set_option maxHeartbeats 8000000
def agR (k:Int):Int:=if k=1∨k=2 then 0 else opn k
theorem z100 (k:Int):Fn 169 [] [.int .i64 k] (.int .i64 (agR k)) []:=by
 refine fnT hT hmx Tryz.func169 rfl rfl (ex:= []) ?_;conv=>whnf
 repeat' first
  |(refine brI (fun h=>?_) (fun h=>?_)<;>(conv=>whnf))
  |refine And.intro (ai0 ?_) lh0
  |fail
 all_goals (simp only[beq_iff_eq,beq_eq_false_iff_ne,ne_eq]at*;unfold agR opn;repeat' split)
 all_goals first|rfl|omega
theorem opn8:opn 8=1:=rfl
theorem z77 (e:Ex) (hs:e.s.length<9223372036854775808):Fn 105 [] [.agg (exC e)] (.bool (xz e)) []:=by
 refine fnT hT hmx Tryz.func105 rfl rfl (ex:= []) ?_;conv=>whnf
 refine gZn (z100 e.k) ?_;conv=>whnf
 repeat' first
  |(refine brI (fun h=>?_) (fun h=>?_)<;>(conv=>whnf))
  |refine And.intro (ab0 ?_) lh0
  |(refine gZn (f131 e.q.n e.q.d) ?_;conv=>whnf)
  |(refine gZn (z60 e.s hs) ?_;conv=>whnf)
  |(refine And.intro (by kernel_rfl) (And.intro (by kernel_rfl) ?_);conv=>whnf)
  |fail
 all_goals (obtain⟨k,⟨n,d⟩,s,p,l⟩:=e;simp only[Ex.k,Ex.q,Ex.s,Ex.p,Ex.l]at*;by_cases k1:k=1<;>by_cases k2:k=2<;>by_cases k8:k=8<;>simp_all[xz,qcp,qbu,qcl,opB,agR,opn8,Ex.k,Ex.q,Ex.s,Ex.p,Ex.l])
 ·intro _ _ _ _ _;exact decide_eq_false (by omega)
 ·exact decide_eq_true (by omega)
 ·rw[Bool.eq_iff_iff]
  constructor
  ·intro h5;rw[Bool.and_eq_true,Bool.and_eq_true];exact⟨⟨decide_eq_true (by omega),h5⟩,decide_eq_true (by omega)⟩
  ·intro h5;rw[Bool.and_eq_true,Bool.and_eq_true]at h5;exact h5.1.2
 ·intro h5 _;have:=of_decide_eq_true h5;omega
theorem zvd {l:List Ex} {n a:Nat} (h:200<a):rcL l n a=a:=by
 cases l with
 |nil=>rfl
 |cons x l=>simp only[rcL];rw[if_neg (by omega)]
theorem z59: ∀(e:Ex),Sm e→ ∀n:Nat,n≤20→Fn 50 [] [.agg (exC e),.int .i64 n] (.int .i64 (rcE e n:Nat)) []:=by
 refine zmk fun k q s p l ih hs=>?_
 simp only[Sm]at hs
 intro n hn
 have hnode:=z77 (.mk k q s p l) hs.1
 obtain⟨A,hA⟩: ∃A,rcE (.mk k q s p l) n=A:=⟨_,rfl⟩
 rw[hA]
 show Fn 50 [] [.agg [.int .i64 k,.int .i64 q.n,.int .i64 q.d,.str s,.int .i64 p,.sl .ex l],.int .i64 n] (.int .i64 A) []
 refine fnT hT hmx Tryz.func50 rfl rfl (ex:= []) ?_;conv=>whnf
 refine brI (fun h=>?_) (fun h=>?_)
 ·have h:n=0:=by simp only[beq_iff_eq]at h;omega
  subst h
  simp only[rcE]at hA
  subst hA
  conv=>whnf
  exact⟨lr rfl,lh0⟩
 have h:n≠0:=by simp only[beq_eq_false_iff_ne]at h;omega
 obtain⟨m,rfl⟩: ∃m,n=m+1:=⟨n-1,by omega⟩
 simp only[rcE]at hA
 conv=>whnf
 refine cbI [] (xz (.mk k q s p l)) hnode (fun h1=>?_) (fun h1=>?_)
 rotate_left
 ·rw[if_neg (by rw[h1];simp)]at hA
  subst hA
  conv=>whnf
  exact⟨lr rfl,lh0⟩
 rw[if_pos h1]at hA
 conv=>whnf
 refine⟨Nat×Nat,fun x=>x.1≤l.length∧x.2≤2000000∧rcL (l.drop x.1) m x.2=A,fun x=> [(5,.int .i64 x.2),(6,.int .i64 x.1)],fun _=> [],fun x=>l.length-x.1,(0,1),⟨by simp,by simp,hA⟩,?_,fun x hx=>?_⟩
 ·((conv=>whnf);refine And.intro ?_ ?_;repeat' first|refine lc ?_ ?_|exact la0|exact lr rfl|exact ln0|refine lh1 ?_ ?_|exact lh0|exact bf0|exact bd0|refine bc0 ?_|exact bm0 rfl|exact bg0 rfl|exact li0 rfl|refine lg0 ?_|refine lt0 ?_|fail)
 (refine⟨by kernel_rfl,?_⟩;(conv=>whnf))
 obtain⟨i,a⟩:=x
 obtain⟨hi1,hi2,hi3⟩:=hx
 simp only at hi1 hi2 hi3
 refine brI (fun h2=>?_) (fun h2=>?_)
 ·have hi:i<l.length:=by simp only[decide_eq_true_eq]at h2;omega
  conv=>whnf
  refine brI (fun h3=>?_) (fun h3=>?_)
  ·have h3:a≤200:=by simp only[decide_eq_true_eq]at h3;omega
   conv=>whnf
   refine⟨⟨by omega,by simp only;omega⟩,fun x hx=>?_⟩
   have hx:l[i]? =some x:=by simpa using hx
   have hm:=List.mem_of_getElem? hx
   have hc:=ih x hm (zjm hs.2.2 x hm) m (by omega)
   have hle:=zw7 x m
   rw[ql hx]at hi3
   simp only[rcL]at hi3
   rw[if_pos h3]at hi3
   have hw:IntKind.i64.wrap (((m+1:Nat):Int)-1)=(m:Int):=by rw[wI (by omega)];omega
   conv=>whnf
   refine⟨[],.int .i64 (rcE x m:Nat),?_,?_⟩
   ·show Fn 50 [] [.agg (exC x),.int .i64 (IntKind.i64.wrap (((m+1:Nat):Int)-1))] _ _
    rw[hw];exact hc
   conv=>whnf
   refine⟨(i+1,a+rcE x m),⟨by simp only;omega,by simp only;omega,hi3⟩,by show l.length-(i+1)<l.length-i;omega,?_⟩
   ((conv=>whnf);refine And.intro ?_ ?_;repeat' first|refine lc ?_ ?_|exact la0|exact lr rfl|exact ln0|refine lh1 ?_ ?_|exact lh0|exact bf0|exact bd0|refine bc0 ?_|exact bm0 rfl|exact bg0 rfl|exact li0 rfl|refine lg0 ?_|refine lt0 ?_|fail)
   ·exact ai0 (by rw[wI (by simp only;omega)];simp only;omega)
   ·exact ai0 (by rw[wI (by simp only;omega)];simp only;omega)
  ·have h3:200<a:=by simp only[decide_eq_false_iff_not]at h3;omega
   rw[zvd h3]at hi3
   conv=>whnf
   exact⟨ai0 (by rw[hi3]),lh0⟩
 ·have hi: ¬i<l.length:=by simp only[decide_eq_false_iff_not]at h2;omega
  rw[List.drop_of_length_le (by omega)]at hi3
  simp only[rcL]at hi3
  conv=>whnf
  exact⟨ai0 (by rw[hi3]),lh0⟩
theorem z32 (e:Ex) (hs:Sm e):Fn 11 [] [.agg (exC e)] (.bool (okT e)) []:=by
 have h59:=z59 e hs 20 (by omega)
 refine fnT hT hmx Tryz.func11 rfl rfl (ex:= []) ?_;conv=>whnf
 refine⟨[],.int .i64 (rcE e 20:Nat),?_,?_⟩
 ·cases e;exact h59
 conv=>whnf
 exact⟨ab0 (qch e),lh0⟩
end Go.Proofs.YtajnlbbgolmklaaGreatDoor

namespace Go.Proofs.YtajnlbbgolmklaaGreatDoor
open Go Go.Sx
set_option maxRecDepth 100000
set_option maxHeartbeats 8000000
theorem y39 (l:List zd) (s:zd) (hlen:l.length<9223372036854775808):Fn 64 [] [.sl .str l,.str s] (.int .i64 (ixP (eqS s) l 0)) []:=by
 refine fnT hT4 hmx Tryz.func64 rfl rfl (ex:= []) ?_;conv=>whnf
 refine⟨Nat,fun i=>i≤l.length∧ixP (eqS s) (l.drop i) i=ixP (eqS s) l 0,fun i=> [(5,.int .i64 i)],fun _=> [],fun i=>l.length-i,0,⟨by simp,rfl⟩,?_,fun i hi=>?_⟩
 ·((conv=>whnf);refine And.intro ?_ ?_;repeat' first|refine lc ?_ ?_|exact la0|exact lr rfl|exact ln0|refine lh1 ?_ ?_|exact lh0|exact bf0|exact bd0|refine bc0 ?_|exact bm0 rfl|exact bg0 rfl|exact li0 rfl|refine lg0 ?_|refine lt0 ?_|fail)
 (refine⟨by kernel_rfl,?_⟩;(conv=>whnf))
 obtain⟨hi1,hi2⟩:=hi
 refine brI (fun h1=>?_) (fun h1=>?_)
 ·conv=>whnf
  have hi:i<l.length:=by simp only[decide_eq_true_eq]at h1;omega
  refine⟨⟨by omega,by omega⟩,fun x hx=>?_⟩
  have hx:l[i]? =some x:=by simpa using hx
  rw[ql hx]at hi2
  simp only[ixP]at hi2
  conv=>whnf
  refine brI (fun h2=>?_) (fun h2=>?_)
  ·conv=>whnf
   have h2:(x==s)=true:=h2
   have h2:eqS s x=true:=by simp only[eqS,beq_iff_eq]at h2⊢;exact h2.symm
   rw[if_pos h2]at hi2
   exact⟨ai0 hi2,lh0⟩
  ·conv=>whnf
   have h2:(x==s)=false:=h2
   have h2: ¬eqS s x=true:=by simp only[eqS,beq_iff_eq,beq_eq_false_iff_ne]at h2⊢;exact fun e=>h2 e.symm
   rw[if_neg h2]at hi2
   refine⟨i+1,⟨by omega,hi2⟩,by show l.length-(i+1)<l.length-i;omega,?_⟩
   ((conv=>whnf);refine And.intro ?_ ?_;repeat' first|refine lc ?_ ?_|exact la0|exact lr rfl|exact ln0|refine lh1 ?_ ?_|exact lh0|exact bf0|exact bd0|refine bc0 ?_|exact bm0 rfl|exact bg0 rfl|exact li0 rfl|refine lg0 ?_|refine lt0 ?_|fail)
   exact ai0 (by rw[wI (by omega)];omega)
 ·conv=>whnf
  have hi: ¬i<l.length:=by simp only[decide_eq_false_iff_not]at h1;omega
  rw[List.drop_of_length_le (by omega)]at hi2
  exact⟨ai0 hi2,lh0⟩
theorem zxk (l:List zd) {i:Nat} {x:zd} (hx:l[i]? =some x):ixP (eqS x) l 0<i↔x∈l.take i:=by
 have key: ∀(l:List zd) (i j:Nat),l[i]? =some x→(ixP (eqS x) l j<(j+i:Nat)↔x∈l.take i)∧(j:Int)≤ixP (eqS x) l j:=by
  intro l
  induction l with
  |nil=>intro i j h;simp at h
  |cons y l ih=>
   intro i j h
   by_cases he:x=y
   ·subst he
    have:ixP (eqS x) (x::l) j=j:=by simp[ixP,eqS]
    rw[this]
    refine⟨?_,Int.le_refl _⟩
    cases i with
    |zero=>simp
    |succ i=>simp;omega
   ·have hne: ¬eqS x y=true:=by simpa[eqS]using he
    simp only[ixP,if_neg hne]
    cases i with
    |zero=>exact absurd (by simpa using h) (fun e:y=x=>he e.symm)
    |succ i=>
     obtain⟨h1,h2⟩:=ih i (j+1) (by simpa using h)
     refine⟨?_,by omega⟩
     rw[show j+(i+1)=(j+1)+i by omega,h1]
     simp[he]
 simpa using(key l i 0 hx).1
theorem zg4 (l:List zd) {i:Nat} {x:zd} (hx:l[i]? =some x):(l.take (i+1)).Nodup ↔(l.take i).Nodup ∧x∉l.take i:=by
 rw[List.take_add_one,hx]
 simp only[Option.toList_some]
 rw[List.nodup_append]
 constructor
 ·rintro⟨h1,_,h3⟩;exact⟨h1,fun hm=>h3 x hm x (by simp) rfl⟩
 ·rintro⟨h1,h2⟩;exact⟨h1,by simp,fun a ha b hb e=>by simp at hb;subst hb;exact h2 (e▸ha)⟩
def qcq (l:List zd):Bool:=decide (l.Nodup∧l.length≤200)
theorem y18 (l:List zd) (hlen:l.length<9223372036854775808):Fn 23 [] [.sl .str l] (.bool (qcq l)) []:=by
 have h39:=fun s=>y39 l s hlen
 refine fnT hT4 hmx Tryz.func23 rfl rfl (ex:= []) ?_;conv=>whnf
 refine⟨Nat,fun i=>i≤l.length∧(l.take i).Nodup,fun i=> [(3,.int .i64 i)],fun _=> [],fun i=>l.length-i,0,⟨by simp,by simp⟩,?_,fun i hi=>?_⟩
 ·((conv=>whnf);refine And.intro ?_ ?_;repeat' first|refine lc ?_ ?_|exact la0|exact lr rfl|exact ln0|refine lh1 ?_ ?_|exact lh0|exact bf0|exact bd0|refine bc0 ?_|exact bm0 rfl|exact bg0 rfl|exact li0 rfl|refine lg0 ?_|refine lt0 ?_|fail)
 (refine⟨by kernel_rfl,?_⟩;(conv=>whnf))
 obtain⟨hi1,hi2⟩:=hi
 refine brI (fun h1=>?_) (fun h1=>?_)
 ·conv=>whnf
  have hi:i<l.length:=by simp only[decide_eq_true_eq]at h1;omega
  refine⟨⟨by omega,by omega⟩,fun x hx=>?_⟩
  have hx:l[i]? =some x:=by simpa using hx
  conv=>whnf
  refine gZn (h39 x) ?_;conv=>whnf
  refine brI (fun h2=>?_) (fun h2=>?_)
  ·have h2:=(zxk l hx).1 (of_decide_eq_true h2)
   conv=>whnf
   refine⟨ab0 (Eq.symm (decide_eq_false fun hh=>?_)),lh0⟩
   have:=(zg4 l hx).1 (hh.1.sublist (List.take_sublist _ _))
   exact this.2 h2
  ·have h2:=fun hm=>of_decide_eq_false h2 ((zxk l hx).2 hm)
   conv=>whnf
   refine⟨i+1,⟨by omega,(zg4 l hx).2 ⟨hi2,h2⟩⟩,by show l.length-(i+1)<l.length-i;omega,?_⟩
   ((conv=>whnf);refine And.intro ?_ ?_;repeat' first|refine lc ?_ ?_|exact la0|exact lr rfl|exact ln0|refine lh1 ?_ ?_|exact lh0|exact bf0|exact bd0|refine bc0 ?_|exact bm0 rfl|exact bg0 rfl|exact li0 rfl|refine lg0 ?_|refine lt0 ?_|fail)
   exact ai0 (by rw[wI (by omega)];omega)
 ·conv=>whnf
  have hi: ¬i<l.length:=by simp only[decide_eq_false_iff_not]at h1;omega
  rw[List.take_of_length_le (by omega)]at hi2
  exact⟨ab0 (by unfold qcq;rw[Bool.eq_iff_iff,decide_eq_true_eq,decide_eq_true_eq];simp only[hi2,true_and];omega),lh0⟩
theorem zu3 {l:List Ex} {x:Ex} (h:x∈l):zd6 x≤zd5 l:=by
 induction l with
 |nil=>cases h
 |cons y l ih=>
  simp only[zd5]
  rcases List.mem_cons.1 h with rfl|h
  ·omega
  ·have:=ih h;omega
noncomputable def qd9:Code:=Tryz.f51.body.getD .skip
theorem y42: ∀(e:Ex),zd6 e≤1000→Fn 51 [] [.agg (exC e)] (.sl .ex (um e)) []:=by
 refine zmk fun k q s p l ih hs=>?_
 have hs1:zd5 l<1000:=by simp only[zd6]at hs;omega
 show Fn 51 [] [.agg [.int .i64 k,.int .i64 q.n,.int .i64 q.d,.str s,.int .i64 p,.sl .ex l]] _ []
 obtain⟨A,hA⟩: ∃A,um (.mk k q s p l)=A:=⟨_,rfl⟩
 have hAl:A.length≤1000:=by rw[←hA,zc1];exact hs
 have hll:l.length≤1000:=by
  have: ∀l:List Ex,l.length≤zd5 l:=by
   intro l
   induction l with
   |nil=>simp
   |cons x l ih=>cases x;simp only[zd5,zd6,List.length_cons];omega
  have:=this l;omega
 rw[hA]
 refine wk (code:=qd9) hT4 hmx Tryz.func51 rfl rfl (ex:= []) ?_;conv=>whnf
 refine zni hT4 hmx [1] ?_;conv=>whnf
 refine zyh hT4 1 21 ?_;conv=>whnf
 refine⟨Nat×List Ex,fun x=>x.1≤l.length∧x.2++xm (l.drop x.1)=A,fun x=> [(4,.int .i64 x.1),(3,.own 21),(6,.any)],fun x=> [(21,.buf 26 .ex x.2)],fun x=>l.length-x.1,(0,[.mk k q s p l]),⟨by simp,by rw[←hA];simp[um]⟩,?_,fun x hx=>?_⟩
 ·((conv=>whnf);refine And.intro ?_ ?_;repeat' first|refine lc ?_ ?_|exact la0|exact lr rfl|exact ln0|refine lh1 ?_ ?_|exact lh0|exact bf0|exact bd0|refine bc0 ?_|exact bm0 rfl|exact bb0 rfl|exact bg0 rfl|exact li0 rfl|refine lg0 ?_|refine lt0 ?_|fail)
 (refine⟨by kernel_rfl,?_⟩;(conv=>whnf))
 obtain⟨i,out⟩:=x
 obtain⟨hi1,hi2⟩:=hx
 simp only at hi1 hi2
 refine brI (fun h1=>?_) (fun h1=>?_)
 ·conv=>whnf
  have hi:i<l.length:=by simp only[decide_eq_true_eq]at h1;omega
  refine⟨⟨by omega,by simp only;omega⟩,fun x hx=>?_⟩
  have hx:l[i]? =some x:=by simpa using hx
  have hm:=List.mem_of_getElem? hx
  have hsx:=zu3 hm
  have h42:=ih x hm (by omega)
  rw[ql hx]at hi2
  simp only[xm]at hi2
  have hl2:=congrArg List.length hi2
  simp only[List.length_append]at hl2
  conv=>whnf
  refine gZn h42 ?_;conv=>whnf
  refine⟨by simp only;omega,?_⟩;conv=>whnf
  refine⟨(i+1,out++um x),⟨by simp only;omega,by simp only[List.append_assoc];exact hi2⟩,by show l.length-(i+1)<l.length-i;omega,?_⟩
  ((conv=>whnf);refine And.intro ?_ ?_;repeat' first|refine lc ?_ ?_|exact la0|exact lr rfl|exact ln0|refine lh1 ?_ ?_|exact lh0|exact bf0|exact bd0|refine bc0 ?_|exact bm0 rfl|exact bb0 rfl|exact bg0 rfl|exact li0 rfl|refine lg0 ?_|refine lt0 ?_|fail)
  exact ai0 (by rw[wI (by simp only;omega)];simp only;omega)
 ·conv=>whnf
  have hi: ¬i<l.length:=by simp only[decide_eq_false_iff_not]at h1;omega
  rw[List.drop_of_length_le (by omega)]at hi2
  simp only[xm,List.append_nil]at hi2
  exact⟨ji hi2,lh0⟩
end Go.Proofs.YtajnlbbgolmklaaGreatDoor

namespace Go.Proofs.YtajnlbbgolmklaaGreatDoor
open Go Go.Sx
set_option maxRecDepth 100000
set_option maxHeartbeats 8000000
def zmf (s:zd):List zd→List zd
 | []=> [s]
 |x::l=>if Op.bytesLess x s=true then x::zmf s l else if x=s then x::l else s::x::l
theorem znz (s:zd): ∀(l:List zd) (y:zd),y∈zmf s l↔y=s∨y∈l
 | [],y=>by simp[zmf]
 |x::l,y=>by
  have ih:=znz s l y
  simp only[zmf]
  split
  ·simp only[List.mem_cons,ih];constructor<;>rintro(h|h|h)<;>simp[h]
  ·split
   ·rename_i h;subst h;simp
   ·simp
theorem zi5 (s:zd): ∀l:List zd,(zmf s l).length ≤l.length+1
 | []=>by simp[zmf]
 |x::l=>by
  have ih:=zi5 s l
  simp only[zmf]
  split
  ·simp only[List.length_cons];omega
  ·split<;>simp
theorem y71 (l:List zd) (s:zd) (hl:l.length≤1000):Fn 113 [] [.sl .str l,.str s] (.sl .str (zmf s l)) []:=by
 obtain⟨A,hA⟩: ∃A,zmf s l=A:=⟨_,rfl⟩
 rw[hA]
 refine fnT hT4 hmx Tryz.func113 rfl rfl (ex:= []) ?_;conv=>whnf
 refine⟨Nat,fun i=>i≤l.length∧l.take i++zmf s (l.drop i)=A,fun i=> [(5,.int .i64 i)],fun _=> [],fun i=>l.length-i,0,⟨by simp,by simpa using hA⟩,?_,fun i hi=>?_⟩
 ·((conv=>whnf);refine And.intro ?_ ?_;repeat' first|refine lc ?_ ?_|exact la0|exact lr rfl|exact ln0|refine lh1 ?_ ?_|exact lh0|exact bf0|exact bd0|refine bc0 ?_|exact bm0 rfl|exact bg0 rfl|exact li0 rfl|refine lg0 ?_|refine lt0 ?_|fail)
 (refine⟨by kernel_rfl,?_⟩;(conv=>whnf))
 obtain⟨hi1,hi2⟩:=hi
 refine brI (fun h1=>?_) (fun h1=>?_)
 ·have hi:i<l.length:=by simp only[decide_eq_true_eq]at h1;omega
  conv=>whnf
  refine⟨⟨by omega,by omega⟩,fun x hx=>?_⟩
  have hx:l[i]? =some x:=by simpa using hx
  have hd:=ql hx
  rw[hd]at hi2
  simp only[zmf]at hi2
  conv=>whnf
  refine brI (fun h2=>?_) (fun h2=>?_)
  ·have h2:Op.bytesLess x s=true:=h2
   rw[if_pos h2]at hi2
   conv=>whnf
   refine⟨i+1,⟨by omega,by rw[List.take_add_one,hx];simpa using hi2⟩,by show l.length-(i+1)<l.length-i;omega,?_⟩
   ((conv=>whnf);refine And.intro ?_ ?_;repeat' first|refine lc ?_ ?_|exact la0|exact lr rfl|exact ln0|refine lh1 ?_ ?_|exact lh0|exact bf0|exact bd0|refine bc0 ?_|exact bm0 rfl|exact bg0 rfl|exact li0 rfl|refine lg0 ?_|refine lt0 ?_|fail)
   exact ai0 (by rw[wI (by omega)];omega)
  ·have h2:Op.bytesLess x s=false:=h2
   rw[if_neg (by rw[h2];simp)]at hi2
   conv=>whnf
   refine brI (fun _=>?_) (fun h3=>absurd hi (by simp only[decide_eq_false_iff_not]at h3;omega))
   conv=>whnf
   refine⟨⟨by omega,by omega⟩,fun x' hx'=>?_⟩
   have hx':l[i]? =some x':=by simpa using hx'
   obtain rfl:x=x':=by rw[hx]at hx';exact Option.some.inj hx'
   conv=>whnf
   refine brI (fun h3=>?_) (fun h3=>?_)
   ·have h3:(x==s)=true:=h3
    have h3:x=s:=by simpa using h3
    rw[if_pos h3,←hd,List.take_append_drop]at hi2
    conv=>whnf
    exact⟨ji hi2,lh0⟩
   ·have h3:(x==s)=false:=h3
    have h3: ¬x=s:=by simpa using h3
    rw[if_neg h3,←hd]at hi2
    conv=>whnf
    refine⟨⟨by omega,by omega,by omega⟩,?_⟩;conv=>whnf
    refine⟨by simp;omega,?_⟩;conv=>whnf
    refine⟨by simp;omega,?_⟩;conv=>whnf
    refine⟨⟨by omega,by omega,by omega⟩,?_⟩;conv=>whnf
    refine⟨by simp;omega,?_⟩;conv=>whnf
    exact⟨ji (by rw[←hi2];simp),lh0⟩
 ·have hi: ¬i<l.length:=by simp only[decide_eq_false_iff_not]at h1;omega
  obtain rfl:i=l.length:=by omega
  have hA2:A=l++ [s]:=by rw[←hi2];simp[zmf]
  conv=>whnf
  refine brI (fun h3=>absurd (of_decide_eq_true h3) (by omega)) (fun _=>?_)
  conv=>whnf
  refine⟨⟨by omega,by omega,by omega⟩,?_⟩;conv=>whnf
  refine⟨by simp;omega,?_⟩;conv=>whnf
  refine⟨by simp;omega,?_⟩;conv=>whnf
  refine⟨⟨by omega,by omega,by omega⟩,?_⟩;conv=>whnf
  refine⟨by simp;omega,?_⟩;conv=>whnf
  exact⟨ji (by rw[hA2];simp),lh0⟩
def nmR:List Ex→List zd→List zd
 | [],acc=>acc
 |y::l,acc=>if y.k=2 then nmR l (zmf y.s acc)else nmR l acc
theorem zl0: ∀(l:List Ex) (acc:List zd) (s:zd),s∈nmR l acc↔s∈acc∨ ∃y∈l,y.k=2∧y.s=s
 | [],acc,s=>by simp[nmR]
 |y::l,acc,s=>by
  simp only[nmR]
  split
  ·rename_i h
   rw[zl0 l _ s,znz]
   constructor
   ·rintro((h1|h1)|⟨z,h1,h2,h3⟩)
    ·exact .inr ⟨y,List.mem_cons_self,h,h1.symm⟩
    ·exact .inl h1
    ·exact .inr ⟨z,List.mem_cons_of_mem _ h1,h2,h3⟩
   ·rintro(h1|⟨z,h1,h2,h3⟩)
    ·exact .inl (.inr h1)
    ·rcases List.mem_cons.1 h1 with rfl|h1
     ·exact .inl (.inl h3.symm)
     ·exact .inr ⟨z,h1,h2,h3⟩
  ·rename_i h
   rw[zl0 l _ s]
   constructor
   ·rintro(h1|⟨z,h1,h2,h3⟩)
    ·exact .inl h1
    ·exact .inr ⟨z,List.mem_cons_of_mem _ h1,h2,h3⟩
   ·rintro(h1|⟨z,h1,h2,h3⟩)
    ·exact .inl h1
    ·rcases List.mem_cons.1 h1 with rfl|h1
     ·exact absurd h2 h
     ·exact .inr ⟨z,h1,h2,h3⟩
theorem zlz: ∀(l:List Ex) (acc:List zd),(nmR l acc).length ≤acc.length+l.length
 | [],acc=>by simp[nmR]
 |y::l,acc=>by
  have h1:=zlz l (zmf y.s acc)
  have h2:=zlz l acc
  have h3:=zi5 y.s acc
  simp only[nmR,List.length_cons]
  split<;>omega
theorem y41 (e:Ex) (he:zd6 e≤500):Fn 65 [] [.agg (exC e)] (.sl .str (nmR (um e) [])) []:=by
 have h42:=y42 e (by omega)
 have hl:(um e).length ≤500:=by rw[zc1];exact he
 generalize um e=l at h42 hl
 cases e
 refine fnT hT4 hmx Tryz.func65 rfl rfl (ex:= []) ?_;conv=>whnf
 refine gZn h42 ?_;conv=>whnf
 refine⟨Nat×List zd,fun x=>x.1≤l.length∧nmR (l.drop x.1) x.2=nmR l []∧x.2.length≤x.1,fun x=> [(5,.int .i64 x.1),(3,.sl .str x.2)],fun _=> [],fun x=>l.length-x.1,(0,[]),⟨by simp,by simp,by simp⟩,?_,fun x hx=>?_⟩
 ·((conv=>whnf);refine And.intro ?_ ?_;repeat' first|refine lc ?_ ?_|exact la0|exact lr rfl|exact ln0|refine lh1 ?_ ?_|exact lh0|exact bf0|exact bd0|refine bc0 ?_|exact bm0 rfl|exact bg0 rfl|exact li0 rfl|refine lg0 ?_|refine lt0 ?_|fail)
 (refine⟨by kernel_rfl,?_⟩;(conv=>whnf))
 obtain⟨i,acc⟩:=x
 obtain⟨hi1,hi2,hi3⟩:=hx
 simp only at hi1 hi2 hi3
 refine brI (fun h1=>?_) (fun h1=>?_)
 ·have hi:i<l.length:=by simp only[decide_eq_true_eq]at h1;omega
  conv=>whnf
  refine⟨⟨by omega,by simp only;omega⟩,fun(x:Ex) hx=>?_⟩
  have hx:l[i]? =some x:=by simpa using hx
  rw[ql hx]at hi2
  simp only[nmR]at hi2
  conv=>whnf
  refine brI (fun h2=>?_) (fun h2=>?_)
  ·have h2:(x.k==2)=true:=h2
   have h2:x.k=2:=by simpa using h2
   rw[if_pos h2]at hi2
   have h71:=y71 acc x.s (by omega)
   have h3:=zi5 x.s acc
   conv=>whnf
   refine⟨⟨by omega,by simp only;omega⟩,fun(x':Ex) hx'=>?_⟩
   have hx':l[i]? =some x':=by simpa using hx'
   obtain rfl:x=x':=by rw[hx]at hx';exact Option.some.inj hx'
   conv=>whnf
   refine gZn h71 ?_;conv=>whnf
   refine⟨(i+1,zmf x.s acc),⟨by simp only;omega,hi2,by simp only;omega⟩,by show l.length-(i+1)<l.length-i;omega,?_⟩
   ((conv=>whnf);refine And.intro ?_ ?_;repeat' first|refine lc ?_ ?_|exact la0|exact lr rfl|exact ln0|refine lh1 ?_ ?_|exact lh0|exact bf0|exact bd0|refine bc0 ?_|exact bm0 rfl|exact bg0 rfl|exact li0 rfl|refine lg0 ?_|refine lt0 ?_|fail)
   exact ai0 (by rw[wI (by simp only;omega)];simp only;omega)
  ·have h2:(x.k==2)=false:=h2
   have h2: ¬x.k=2:=by simpa using h2
   rw[if_neg h2]at hi2
   conv=>whnf
   refine⟨(i+1,acc),⟨by simp only;omega,hi2,by simp only;omega⟩,by show l.length-(i+1)<l.length-i;omega,?_⟩
   ((conv=>whnf);refine And.intro ?_ ?_;repeat' first|refine lc ?_ ?_|exact la0|exact lr rfl|exact ln0|refine lh1 ?_ ?_|exact lh0|exact bf0|exact bd0|refine bc0 ?_|exact bm0 rfl|exact bg0 rfl|exact li0 rfl|refine lg0 ?_|refine lt0 ?_|fail)
   exact ai0 (by rw[wI (by simp only;omega)];simp only;omega)
 ·have hi: ¬i<l.length:=by simp only[decide_eq_false_iff_not]at h1;omega
  rw[List.drop_of_length_le (by omega)]at hi2
  conv=>whnf
  exact⟨ji hi2,lh0⟩
def knB (e:Ex) (ns:List zd):Bool:=okT e&&decide (∀y∈um e,y.k=2→y.s∈ns)
theorem zsx (s:zd) (l:List zd):ixP (eqS s) l 0<0↔s∉l:=by
 have h:=zfu (eqS s) l 0
 have h2:l.any (eqS s)=true↔s∈l:=by
  rw[List.any_eq_true]
  constructor
  ·rintro⟨x,h1,h2⟩;have:s=x:=by simpa[eqS]using h2
   rw[this];exact h1
  ·intro h;exact⟨s,h,by simp[eqS]⟩
 rw[←h2,←h];omega
theorem sz_ok {e:Ex} (h:okT e=true):zd6 e≤200:=by
 rw[xc]at h;exact h.2.2
theorem y19 (e:Ex) (ns:List zd) (he:Sm e) (hn:ns.length<9223372036854775808):Fn 24 [] [.agg (exC e),.sl .str ns] (.bool (knB e ns)) []:=by
 have h40:=z32 e he
 unfold knB
 cases hok:okT e with
 |false=>
  rw[hok]at h40
  cases e
  refine fnT hT4 hmx Tryz.func24 rfl rfl (ex:= []) ?_;conv=>whnf
  refine gZn h40 ?_;conv=>whnf
  exact⟨lr rfl,lh0⟩
 |true=>
  rw[hok]at h40
  have hsz:=sz_ok hok
  have h41:=y41 e (by omega)
  have hmem:=zl0 (um e) []
  have hlen:=zlz (um e) []
  rw[zc1]at hlen
  generalize nmR (um e) []=l at h41 hmem hlen
  have hA:(decide (∀y∈um e,y.k=2→y.s∈ns))=l.all fun s=>decide (s∈ns):=by
   rw[Bool.eq_iff_iff,decide_eq_true_eq,List.all_eq_true]
   constructor
   ·intro h s hs
    obtain h1|⟨y,h1,h2,rfl⟩:=(hmem s).1 hs
    ·cases h1
    ·exact decide_eq_true (h y h1 h2)
   ·intro h y hy hk
    exact of_decide_eq_true (h y.s ((hmem y.s).2 (.inr ⟨y,hy,hk,rfl⟩)))
  rw[hA]
  have hlen:l.length≤200:=by simpa using Nat.le_trans hlen (by simpa using hsz)
  clear hmem hA
  cases e
  refine fnT hT4 hmx Tryz.func24 rfl rfl (ex:= []) ?_;conv=>whnf
  refine gZn h40 ?_;conv=>whnf
  refine gZn h41 ?_;conv=>whnf
  refine⟨Nat,fun i=>i≤l.length∧((l.drop i).all fun s=>decide (s∈ns))=l.all fun s=>decide (s∈ns),fun i=> [(6,.int .i64 i)],fun _=> [],fun i=>l.length-i,0,⟨by simp,by simp⟩,?_,fun i hi=>?_⟩
  ·((conv=>whnf);refine And.intro ?_ ?_;repeat' first|refine lc ?_ ?_|exact la0|exact lr rfl|exact ln0|refine lh1 ?_ ?_|exact lh0|exact bf0|exact bd0|refine bc0 ?_|exact bm0 rfl|exact bg0 rfl|exact li0 rfl|refine lg0 ?_|refine lt0 ?_|fail)
  (refine⟨by kernel_rfl,?_⟩;(conv=>whnf))
  obtain⟨hi1,hi2⟩:=hi
  refine brI (fun h1=>?_) (fun h1=>?_)
  ·have hi:i<l.length:=by simp only[decide_eq_true_eq]at h1;omega
   conv=>whnf
   refine⟨⟨by omega,by omega⟩,fun x hx=>?_⟩
   have hx:l[i]? =some x:=by simpa using hx
   rw[ql hx,List.all_cons]at hi2
   conv=>whnf
   refine gZn (y39 ns x hn) ?_;conv=>whnf
   refine brI (fun h2=>?_) (fun h2=>?_)
   ·have h2:=(zsx x ns).1 (of_decide_eq_true h2)
    conv=>whnf
    exact⟨ab0 (by rw[←hi2,decide_eq_false h2];rfl),lh0⟩
   ·have h2:x∈ns:=Classical.byContradiction fun hc=>of_decide_eq_false h2 ((zsx x ns).2 hc)
    rw[decide_eq_true h2]at hi2
    conv=>whnf
    refine⟨i+1,⟨by omega,by simpa using hi2⟩,by show l.length-(i+1)<l.length-i;omega,?_⟩
    ((conv=>whnf);refine And.intro ?_ ?_;repeat' first|refine lc ?_ ?_|exact la0|exact lr rfl|exact ln0|refine lh1 ?_ ?_|exact lh0|exact bf0|exact bd0|refine bc0 ?_|exact bm0 rfl|exact bg0 rfl|exact li0 rfl|refine lg0 ?_|refine lt0 ?_|fail)
    exact ai0 (by rw[wI (by omega)];omega)
  ·have hi: ¬i<l.length:=by simp only[decide_eq_false_iff_not]at h1;omega
   rw[List.drop_of_length_le (by omega)]at hi2
   conv=>whnf
   exact⟨ab0 hi2,lh0⟩
end Go.Proofs.YtajnlbbgolmklaaGreatDoor
