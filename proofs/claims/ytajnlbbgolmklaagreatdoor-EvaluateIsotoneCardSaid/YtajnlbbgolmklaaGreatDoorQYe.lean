/-
  Seat .Z: the reference's names.
-/
import Derived.Test.YtajnlbbgolmklaaGreatDoorQUb
import Derived.Test.YtajnlbbgolmklaaGreatDoorQVa
import Derived.Test.YtajnlbbgolmklaaGreatDoorQUa
import Derived.Test.YtajnlbbgolmklaaGreatDoorQYa
import Derived.Test.YtajnlbbgolmklaaGreatDoorQZz
import Derived.Test.YtajnlbbgolmklaaGreatDoorQWx
set_option linter.unusedVariables false
set_option linter.unusedSimpArgs false
namespace Go.Proofs.YtajnlbbgolmklaaGreatDoor
open Go Go.Sx
set_option maxRecDepth 100000
set_option maxHeartbeats 8000000
def ltB (c:Int):Bool:=decide (97≤c∧c≤122)||decide (65≤c∧c≤90)
def dgtB (c:Int):Bool:=decide (48≤c∧c≤57)
def rnB (c:Int):Bool:=ltB c||dgtB c||decide (c=95)||decide (c=46)
theorem z115 (c:Int):Fn 324 [] [.int .u8 c] (.bool (ltB c)) []:=by
 refine fnT hT hmx Tryz.func324 rfl rfl (ex:= []) ?_
 conv=>whnf
 repeat' first
  |(refine brI (fun h=>?_) (fun h=>?_)<;>(conv=>whnf))
  |refine And.intro (ab0 ?_) lh0
 all_goals (simp only[decide_eq_true_eq,decide_eq_false_iff_not]at*;unfold ltB;rw[Bool.eq_iff_iff];simp;omega)
theorem z116 (c:Int):Fn 325 [] [.int .u8 c] (.bool (dgtB c)) []:=by
 refine fnT hT hmx Tryz.func325 rfl rfl (ex:= []) ?_
 conv=>whnf
 repeat' first
  |(refine brI (fun h=>?_) (fun h=>?_)<;>(conv=>whnf))
  |refine And.intro (ab0 ?_) lh0
 all_goals (simp only[decide_eq_true_eq,decide_eq_false_iff_not]at*;unfold dgtB;rw[Bool.eq_iff_iff];simp;omega)
theorem z114 (c:Int):Fn 323 [] [.int .u8 c] (.bool (rnB c)) []:=by
 refine fnT hT hmx Tryz.func323 rfl rfl (ex:= []) ?_
 conv=>whnf
 refine cbI [] (ltB c) (z115 c) (fun h1=>?_) (fun h1=>?_)
 ·conv=>whnf
  exact⟨ab0 (by simp[rnB,h1]),lh0⟩
 conv=>whnf
 refine cbI [] (dgtB c) (z116 c) (fun h2=>?_) (fun h2=>?_)
 ·conv=>whnf
  exact⟨ab0 (by simp[rnB,h2]),lh0⟩
 conv=>whnf
 refine brI (fun h3=>?_) (fun h3=>?_)
 ·conv=>whnf
  exact⟨ab0 (by simp only[decide_eq_true_eq,beq_iff_eq]at h3;simp[rnB,h3]),lh0⟩
 ·conv=>whnf
  exact⟨ab0 (by simp only[decide_eq_false_iff_not,beq_eq_false_iff_ne,ne_eq]at h3;unfold rnB;rw[h1,h2,Bool.eq_iff_iff];simp[h3]),lh0⟩
theorem ch_iff (c:UInt8):chB c=(!(decide ((c.toNat:Int)=46))&&rnB c.toNat):=by
 unfold chB cls rnB ltB dgtB
 rw[Bool.eq_iff_iff]
 simp only[Bool.or_eq_true,Bool.and_eq_true,Bool.not_eq_true',decide_eq_true_eq,decide_eq_false_iff_not]
 repeat' split
 all_goals omega
theorem lt_iff (c:UInt8):decide (cls c.toNat=2)=ltB c.toNat:=by
 unfold cls ltB
 rw[Bool.eq_iff_iff]
 simp only[Bool.or_eq_true,decide_eq_true_eq]
 repeat' split
 all_goals omega
theorem wordB_eq (s:Bytes):wordB s=(s.all chB&&match s with| []=>false|c::_=>ltB c.toNat):=by
 cases s with
 |nil=>simp[wordB]
 |cons c s=>
  simp only[wordB,List.all_cons,lt_iff]
  cases h:ltB c.toNat with
  |false=>simp
  |true=>
   have h2:decide (cls c.toNat=2)=true:=by rw[lt_iff];exact h
   simp[chB,h2]
theorem z101 (s:Bytes) (hs:s.length<9223372036854775808):Fn 292 [] [.str s] (.bool (wordB s)) []:=by
 rw[wordB_eq]
 refine fnT hT hmx Tryz.func292 rfl rfl (ex:= []) ?_
 conv=>whnf
 refine⟨Nat,fun i=>i≤s.length∧(s.drop i).all chB=s.all chB,fun i=> [(3,.int .i64 i)],fun _=> [],fun i=>s.length-i,0,⟨by simp,by simp⟩,?_,fun i hi=>?_⟩
 ·((conv=>whnf);refine And.intro ?_ ?_;repeat' first|refine lc ?_ ?_|exact la0|exact lr rfl|exact ln0|refine lh1 ?_ ?_|exact lh0|exact bf0|exact bd0|refine bc0 ?_|exact bm0 rfl|exact bg0 rfl|exact li0 rfl|refine lg0 ?_|refine lt0 ?_|fail)
 (refine⟨by kernel_rfl,?_⟩;(conv=>whnf))
 obtain⟨hi1,hi2⟩:=hi
 refine brI (fun h1=>?_) (fun h1=>?_)
 ·conv=>whnf
  have hi:i<s.length:=by simp only[decide_eq_true_eq]at h1;omega
  refine⟨⟨by omega,by omega⟩,fun c hc=>?_⟩
  have hc:s[(i:Int).toNat]? =some c:=hc
  have hc:s[i]? =some c:=by simpa using hc
  obtain⟨hl,hg⟩:=List.getElem?_eq_some_iff.1 hc
  have hd:s.drop i=c::s.drop (i+1):=by rw[←hg];exact List.drop_eq_getElem_cons hl
  rw[hd,List.all_cons,ch_iff]at hi2
  conv=>whnf
  refine brI (fun h2=>?_) (fun h2=>?_)
  ·have h2:(c.toNat:Int)=46:=by simpa using h2
   conv=>whnf
   refine⟨ab0 ?_,lh0⟩
   rw[decide_eq_true h2]at hi2
   rw[←hi2];rfl
  have h2: ¬(c.toNat:Int)=46:=by simpa using h2
  rw[decide_eq_false h2]at hi2
  conv=>whnf
  refine⟨⟨by omega,by omega⟩,fun c' hc'=>?_⟩
  have hc':s[(i:Int).toNat]? =some c':=hc'
  have hc':s[i]? =some c':=by simpa using hc'
  rw[hc]at hc';cases hc'
  conv=>whnf
  refine cbI [] (rnB c.toNat) (z114 c.toNat) (fun h3=>?_) (fun h3=>?_)
  ·conv=>whnf
   rw[h3]at hi2
   refine⟨i+1,⟨by omega,by simpa using hi2⟩,by show s.length-(i+1)<s.length-i;omega,?_⟩
   ((conv=>whnf);refine And.intro ?_ ?_;repeat' first|refine lc ?_ ?_|exact la0|exact lr rfl|exact ln0|refine lh1 ?_ ?_|exact lh0|exact bf0|exact bd0|refine bc0 ?_|exact bm0 rfl|exact bg0 rfl|exact li0 rfl|refine lg0 ?_|refine lt0 ?_|fail)
   exact ai0 (by rw[wI (by omega)];omega)
  ·conv=>whnf
   refine⟨ab0 ?_,lh0⟩
   rw[h3]at hi2
   rw[←hi2];rfl
 have hi: ¬i<s.length:=by simp only[decide_eq_false_iff_not]at h1;omega
 rw[List.drop_of_length_le (by omega)]at hi2
 rw[←hi2]
 conv=>whnf
 match s,hs with
 | [],_=>
   conv=>whnf
   exact⟨ab0 rfl,lh0⟩
 |c::s,_=>
  conv=>whnf
  refine⟨⟨by omega,by simp⟩,fun c' hc'=>?_⟩
  obtain rfl:c=c':=by simpa using hc'
  conv=>whnf
  refine⟨[],_,z115 c.toNat,?_⟩
  conv=>whnf
  exact⟨ab0 (by simp),lh0⟩
def nuF:Bytes→Nat→Nat→Option (Nat×Nat)
 | [],a,b=>some (a,b)
 |c::s,a,b=>if(c.toNat:Int)=46 then nuF s (a+1) b else if dgtB c.toNat=true then nuF s a (b+1)else none
def nuR (s:Bytes):Int×Bool:=match nuF s 0 0 with
 |none=>(0,false)
 |some (a,b)=>if 1<a∨s= []∨((s.headD 0).toNat :Int)=46∨(((s.getLast?).getD 0).toNat :Int)=46 then(0,false)else(b,true)
theorem z102 (s:Bytes) (hs:s.length<9223372036854775808):Fn 293 [] [.str s] (.tup [.int .i64 (nuR s).1,.bool (nuR s).2]) []:=by
 obtain⟨A,hA⟩: ∃A,nuR s=A:=⟨_,rfl⟩
 rw[hA]
 unfold nuR at hA
 refine fnT hT hmx Tryz.func293 rfl rfl (ex:= []) ?_
 conv=>whnf
 refine⟨Nat×Nat×Nat,fun x=>x.1≤s.length∧x.2.1≤x.1∧x.2.2≤x.1∧nuF (s.drop x.1) x.2.1 x.2.2=nuF s 0 0,fun x=> [(4,.int .i64 x.2.1),(5,.int .i64 x.2.2),(6,.int .i64 x.1)],fun _=> [],fun x=>s.length-x.1,(0,0,0),⟨by simp,by simp,by simp,rfl⟩,?_,fun x hx=>?_⟩
 ·((conv=>whnf);refine And.intro ?_ ?_;repeat' first|refine lc ?_ ?_|exact la0|exact lr rfl|exact ln0|refine lh1 ?_ ?_|exact lh0|exact bf0|exact bd0|refine bc0 ?_|exact bm0 rfl|exact bg0 rfl|exact li0 rfl|refine lg0 ?_|refine lt0 ?_|fail)
 (refine⟨by kernel_rfl,?_⟩;(conv=>whnf))
 obtain⟨i,a,b⟩:=x
 obtain⟨hi1,hi2,hi3,hi4⟩:=hx
 simp only at hi1 hi2 hi3 hi4
 refine brI (fun h1=>?_) (fun h1=>?_)
 ·conv=>whnf
  have hi:i<s.length:=by simp only[decide_eq_true_eq]at h1;omega
  refine⟨⟨by omega,by simp only;omega⟩,fun c hc=>?_⟩
  have hc:s[(i:Int).toNat]? =some c:=hc
  have hc:s[i]? =some c:=by simpa using hc
  obtain⟨hl,hg⟩:=List.getElem?_eq_some_iff.1 hc
  have hd:s.drop i=c::s.drop (i+1):=by rw[←hg];exact List.drop_eq_getElem_cons hl
  rw[hd]at hi4
  simp only[nuF]at hi4
  conv=>whnf
  refine brI (fun h2=>?_) (fun h2=>?_)
  ·have h2:(c.toNat:Int)=46:=by simpa using h2
   rw[if_pos h2]at hi4
   conv=>whnf
   refine⟨(i+1,a+1,b),⟨by simp only;omega,by simp only;omega,by simp only;omega,hi4⟩,by show s.length-(i+1)<s.length-i;omega,?_⟩
   ((conv=>whnf);refine And.intro ?_ ?_;repeat' first|refine lc ?_ ?_|exact la0|exact lr rfl|exact ln0|refine lh1 ?_ ?_|exact lh0|exact bf0|exact bd0|refine bc0 ?_|exact bm0 rfl|exact bg0 rfl|exact li0 rfl|refine lg0 ?_|refine lt0 ?_|fail)
   ·exact ai0 (by rw[wI (by simp only;omega)];simp only;omega)
   ·exact ai0 (by rw[wI (by simp only;omega)];simp only;omega)
  have h2: ¬(c.toNat:Int)=46:=by simpa using h2
  rw[if_neg h2]at hi4
  conv=>whnf
  refine⟨⟨by omega,by simp only;omega⟩,fun c' hc'=>?_⟩
  have hc':s[(i:Int).toNat]? =some c':=hc'
  have hc':s[i]? =some c':=by simpa using hc'
  rw[hc]at hc';cases hc'
  conv=>whnf
  refine cbI [] (dgtB c.toNat) (z116 c.toNat) (fun h3=>?_) (fun h3=>?_)
  ·conv=>whnf
   rw[if_pos h3]at hi4
   refine⟨(i+1,a,b+1),⟨by simp only;omega,by simp only;omega,by simp only;omega,hi4⟩,by show s.length-(i+1)<s.length-i;omega,?_⟩
   ((conv=>whnf);refine And.intro ?_ ?_;repeat' first|refine lc ?_ ?_|exact la0|exact lr rfl|exact ln0|refine lh1 ?_ ?_|exact lh0|exact bf0|exact bd0|refine bc0 ?_|exact bm0 rfl|exact bg0 rfl|exact li0 rfl|refine lg0 ?_|refine lt0 ?_|fail)
   ·exact ai0 (by rw[wI (by simp only;omega)];simp only;omega)
   ·exact ai0 (by rw[wI (by simp only;omega)];simp only;omega)
  ·conv=>whnf
   rw[if_neg (by rw[h3];simp)]at hi4
   rw[←hi4]at hA
   subst hA
   exact⟨lr rfl,lh0⟩
 have hi: ¬i<s.length:=by simp only[decide_eq_false_iff_not]at h1;omega
 rw[List.drop_of_length_le (by omega)]at hi4
 simp only[nuF]at hi4
 rw[←hi4]at hA
 simp only at hA
 conv=>whnf
 refine brI (fun h2=>?_) (fun h2=>?_)
 ·have h2:1<a:=by simp only[decide_eq_true_eq]at h2;omega
  rw[if_pos (.inl h2)]at hA
  subst hA
  conv=>whnf
  exact⟨lr rfl,lh0⟩
 have h2: ¬1<a:=by simp only[decide_eq_false_iff_not]at h2;omega
 conv=>whnf
 match s,hs with
 | [],_=>
   rw[if_pos (.inr (.inl rfl))]at hA
   subst hA
   conv=>whnf
   exact⟨lr rfl,lh0⟩
 |c::s,hs=>
  conv=>whnf
  refine⟨⟨by omega,by simp⟩,fun c' hc'=>?_⟩
  obtain rfl:c=c':=by simpa using hc'
  conv=>whnf
  refine brI (fun h3=>?_) (fun h3=>?_)
  ·have h3:(c.toNat:Int)=46:=by simpa using h3
   rw[if_pos (.inr (.inr (.inl h3)))]at hA
   subst hA
   conv=>whnf
   exact⟨lr rfl,lh0⟩
  have h3: ¬(c.toNat:Int)=46:=by simpa using h3
  conv=>whnf
  have hw:IntKind.i64.wrap (((c::s).length :Int)-1)=(s.length:Int):=by rw[wI (by omega)];simp
  refine⟨⟨by rw[hw];omega,by rw[hw];simp only[List.length_cons];omega⟩,fun d hd=>?_⟩
  have hd:(c::s)[(IntKind.i64.wrap (((c::s).length :Int)-1)).toNat]? =some d:=hd
  rw[hw]at hd
  have hl:(c::s).getLast? =some d:=by rw[List.getLast?_eq_getElem?];simpa using hd
  rw[hl]at hA
  conv=>whnf
  refine brI (fun h4=>?_) (fun h4=>?_)
  ·have h4:(d.toNat:Int)=46:=by simpa using h4
   rw[if_pos (.inr (.inr (.inr h4)))]at hA
   subst hA
   conv=>whnf
   exact⟨lr rfl,lh0⟩
  ·have h4: ¬(d.toNat:Int)=46:=by simpa using h4
   rw[if_neg (by simp only[List.headD_cons,Option.getD_some];rintro(h|h|h|h)<;>simp_all)]at hA
   subst hA
   conv=>whnf
   exact⟨lr rfl,lh0⟩
def kdR (s:Bytes):Int×Int:=if wordB s=true then(if 20<s.length then(0,5)else(1,0))else if(nuR s).2=false then(0,3)else if 18<(nuR s).1 then(0,5)else(2,0)
theorem z78 (s:Bytes) (hs:s.length<9223372036854775808):Fn 248 [] [.str s] (.tup [.int .i64 (kdR s).1,.int .i64 (kdR s).2]) []:=by
 obtain⟨A,hA⟩: ∃A,kdR s=A:=⟨_,rfl⟩
 rw[hA]
 unfold kdR at hA
 refine fnT hT hmx Tryz.func248 rfl rfl (ex:= []) ?_
 conv=>whnf
 refine cbI [] (wordB s) (z101 s hs) (fun h1=>?_) (fun h1=>?_)
 ·rw[if_pos h1]at hA
  conv=>whnf
  refine brI (fun h2=>?_) (fun h2=>?_)
  ·rw[if_pos (by simp only[decide_eq_true_eq]at h2;omega)]at hA
   subst hA
   conv=>whnf
   exact⟨lr rfl,lh0⟩
  ·rw[if_neg (by simp only[decide_eq_false_iff_not]at h2;omega)]at hA
   subst hA
   conv=>whnf
   exact⟨lr rfl,lh0⟩
 rw[if_neg (by rw[h1];simp)]at hA
 have h102:=z102 s hs
 obtain⟨⟨n,b⟩,hn⟩: ∃B,nuR s=B:=⟨_,rfl⟩
 rw[hn]at hA h102
 simp only at hA h102
 conv=>whnf
 refine⟨[],_,h102,?_⟩
 conv=>whnf
 cases b with
 |false=>
  rw[if_pos rfl]at hA
  subst hA
  conv=>whnf
  exact⟨lr rfl,lh0⟩
 |true=>
  rw[if_neg (by simp)]at hA
  conv=>whnf
  refine brI (fun h2=>?_) (fun h2=>?_)
  ·rw[if_pos (by simpa using h2)]at hA
   subst hA
   conv=>whnf
   exact⟨lr rfl,lh0⟩
  ·rw[if_neg (by simpa using h2)]at hA
   subst hA
   conv=>whnf
   exact⟨lr rfl,lh0⟩
theorem z103:Fn 294 [] [] (.sl .str kws) []:=by
 refine fnT hT hmx Tryz.func294 rfl rfl (ex:= []) ?_
 conv=>whnf
 exact⟨lr rfl,lh0⟩
theorem kwB_drop (s:Bytes) {i:Nat} {k:Bytes} (h:kws[i]? =some k):(kws.drop i).any (fun k=>s==k)=((s==k)||(kws.drop (i+1)).any fun k=>s==k):=by
 obtain⟨hi,hx⟩:=List.getElem?_eq_some_iff.1 h
 rw[List.drop_eq_getElem_cons hi,hx,List.any_cons]
theorem z79 (s:Bytes):Fn 249 [] [.str s] (.bool (kwB s)) []:=by
 obtain⟨K,hK⟩: ∃K,kws=K:=⟨_,rfl⟩
 have h103:=z103
 have hkl:K.length=15:=by rw[←hK];rfl
 have hdr:= @kwB_drop s
 unfold kwB
 rw[hK]at h103 hdr⊢
 refine fnT hT hmx Tryz.func249 rfl rfl (ex:= []) ?_
 conv=>whnf
 refine⟨[],_,h103,?_⟩
 conv=>whnf
 refine⟨Nat,fun i=>i≤K.length∧(K.drop i).any (fun k=>s==k)=K.any (fun k=>s==k),fun i=> [(4,.int .i64 i)],fun _=> [],fun i=>K.length-i,0,⟨by simp,by simp⟩,?_,fun i hi=>?_⟩
 ·((conv=>whnf);refine And.intro ?_ ?_;repeat' first|refine lc ?_ ?_|exact la0|exact lr rfl|exact ln0|refine lh1 ?_ ?_|exact lh0|exact bf0|exact bd0|refine bc0 ?_|exact bm0 rfl|exact bg0 rfl|exact li0 rfl|refine lg0 ?_|refine lt0 ?_|fail)
 (refine⟨by kernel_rfl,?_⟩;(conv=>whnf))
 obtain⟨hi1,hi2⟩:=hi
 refine brI (fun h1=>?_) (fun h1=>?_)
 ·conv=>whnf
  have hi:i<K.length:=by simp only[decide_eq_true_eq]at h1;omega
  refine⟨⟨by omega,by omega⟩,fun k hk=>?_⟩
  have hk:K[i]? =some k:=by simpa using hk
  rw[hdr hk]at hi2
  conv=>whnf
  refine brI (fun h2=>?_) (fun h2=>?_)
  ·conv=>whnf
   have h2:(k==s)=true:=h2
   have h2:(s==k)=true:=by rw[beq_iff_eq]at h2⊢;exact h2.symm
   refine⟨ab0 ?_,lh0⟩
   rw[←hi2,h2,Bool.true_or]
  ·conv=>whnf
   have h2:(k==s)=false:=h2
   have h2:(s==k)=false:=by rw[beq_eq_false_iff_ne]at h2⊢;exact fun h=>h2 h.symm
   rw[h2,Bool.false_or]at hi2
   refine⟨i+1,⟨by omega,hi2⟩,by show K.length-(i+1)<K.length-i;omega,?_⟩
   ((conv=>whnf);refine And.intro ?_ ?_;repeat' first|refine lc ?_ ?_|exact la0|exact lr rfl|exact ln0|refine lh1 ?_ ?_|exact lh0|exact bf0|exact bd0|refine bc0 ?_|exact bm0 rfl|exact bg0 rfl|exact li0 rfl|refine lg0 ?_|refine lt0 ?_|fail)
   exact ai0 (by rw[wI (by omega)];omega)
 ·conv=>whnf
  have hi: ¬i<K.length:=by simp only[decide_eq_false_iff_not]at h1;omega
  rw[List.drop_of_length_le (by omega)]at hi2
  exact⟨ab0 (by rw[←hi2];rfl),lh0⟩
theorem z60 (s:Bytes) (hs:s.length<9223372036854775808):Fn 170 [] [.str s] (.bool (nameB s)) []:=by
 have h78:=z78 s hs
 have hk:decide ((kdR s).1=1)=(wordB s&&decide (s.length≤20)):=by
  unfold kdR
  split
  ·rename_i h;rw[h]
   split
   ·rename_i h2;rw[decide_eq_false (by simp),decide_eq_false (by omega)];rfl
   ·rename_i h2;rw[decide_eq_true rfl,decide_eq_true (by omega)];rfl
  ·rename_i h
   have h:wordB s=false:=by simpa using h
   rw[h]
   split
   ·rfl
   ·split<;>rfl
 obtain⟨⟨n,b⟩,hn⟩: ∃B,kdR s=B:=⟨_,rfl⟩
 rw[hn]at h78 hk
 simp only at h78 hk
 refine fnT hT hmx Tryz.func170 rfl rfl (ex:= []) ?_
 conv=>whnf
 refine⟨[],_,h78,?_⟩
 conv=>whnf
 refine brI (fun h2=>?_) (fun h2=>?_)
 ·have h2:n=1:=by simpa using h2
  rw[decide_eq_true h2]at hk
  conv=>whnf
  refine⟨[],_,z79 s,?_⟩
  conv=>whnf
  exact⟨ab0 (by rw[nameB,←hk];simp),lh0⟩
 ·have h2: ¬n=1:=by simpa using h2
  rw[decide_eq_false h2]at hk
  conv=>whnf
  exact⟨ab0 (by rw[nameB,←hk];rfl),lh0⟩
end Go.Proofs.YtajnlbbgolmklaaGreatDoor

namespace Go.Proofs.YtajnlbbgolmklaaGreatDoor
open Go Go.Sx
mutual
def rcE:Ex→Nat→Nat
 | .mk _ _ _ _ _,0=>1048576
 | .mk k q s p l,n+1=>if nodeB (.mk k q s p l)=true then rcL l n 1 else 1048576
def rcL:List Ex→Nat→Nat→Nat
 | [],_,a=>a
 |x::l,n,a=>if a≤200 then rcL l n (a+rcE x n)else a
end
mutual
theorem rcE_le: ∀(e:Ex) (n:Nat),rcE e n≤1048576+200*n
 | .mk _ _ _ _ _,0=>by simp[rcE]
 | .mk k q s p l,n+1=>by
   have h:=rcL_le l n 1
   simp only[rcE]
   split<;>omega
theorem rcL_le: ∀(l:List Ex) (n a:Nat),rcL l n a≤max a (1048776+200*n)
 | [],n,a=>by simp only[rcL];omega
 |x::l,n,a=>by
  have h1:=rcE_le x n
  have h2:=rcL_le l n (a+rcE x n)
  simp only[rcL]
  split<;>omega
end
theorem depE_pos (e:Ex):1≤depE e:=by cases e;simp[depE]
mutual
theorem rcE_iff: ∀(e:Ex) (n:Nat),(rcE e n≤200↔VS e∧depE e≤n∧sizE e≤200)∧(rcE e n≤200→rcE e n=sizE e)
 | .mk k q s p l,0=>by
   have h:=depE_pos (.mk k q s p l)
   simp only[rcE]
   exact⟨⟨fun h1=>by omega,fun h1=>by omega⟩,fun h1=>by omega⟩
 | .mk k q s p l,n+1=>by
   have ih:=rcL_iff l n 1
   simp only[rcE,VS,depE,sizE]
   by_cases h:nodeB (.mk k q s p l)=true
   ·rw[if_pos h]
    refine⟨⟨fun h1=>?_,fun h1=>?_⟩,fun h1=>?_⟩
    ·have:=ih.1.1 h1;exact⟨⟨h,this.1⟩,by omega,by omega⟩
    ·exact ih.1.2 ⟨h1.1.2,by omega,by omega⟩
    ·have:=ih.2 h1;omega
   ·rw[if_neg h]
    exact⟨⟨fun h1=>by omega,fun h1=>absurd h1.1.1 h⟩,fun h1=>by omega⟩
theorem rcL_iff: ∀(l:List Ex) (n a:Nat),(rcL l n a≤200↔VSL l∧depL l≤n∧a+sizL l≤200)∧(rcL l n a≤200→rcL l n a=a+sizL l)
 | [],n,a=>by
   simp only[rcL,VSL,depL,sizL]
   exact⟨⟨fun h=>⟨trivial,by omega,by omega⟩,fun h=>by omega⟩,fun _=>rfl⟩
 |x::l,n,a=>by
  have i1:=rcE_iff x n
  have i2:=rcL_iff l n (a+rcE x n)
  simp only[rcL,VSL,depL,sizL]
  by_cases h:a≤200
  ·rw[if_pos h]
   refine⟨⟨fun h1=>?_,fun h1=>?_⟩,fun h1=>?_⟩
   ·have h2:=i2.1.1 h1
    have h3:=i1.1.1 (by omega)
    have h4:=i1.2 (by omega)
    exact⟨⟨h3.1,h2.1⟩,by omega,by omega⟩
   ·have h3:=i1.1.2 ⟨h1.1.1,by omega,by omega⟩
    have h4:=i1.2 h3
    exact i2.1.2 ⟨h1.1.2,by omega,by omega⟩
   ·have h2:=i2.1.1 h1
    have h4:=i1.2 (by omega)
    have h5:=i2.2 h1
    omega
  ·rw[if_neg h]
   exact⟨⟨fun h1=>absurd h1 h,fun h1=>by omega⟩,fun h1=>absurd h1 h⟩
end
theorem rc_okT (e:Ex):decide ((rcE e 20:Int)≤200)=okT e:=by
 rw[Bool.eq_iff_iff,decide_eq_true_eq,okT_iff,←(rcE_iff e 20).1];omega
end Go.Proofs.YtajnlbbgolmklaaGreatDoor

namespace Go.Proofs.YtajnlbbgolmklaaGreatDoor
open Go Go.Sx
set_option maxRecDepth 100000
set_option maxHeartbeats 8000000
def agR (k:Int):Int:=if k=1∨k=2 then 0 else opn k
theorem z100 (k:Int):Fn 169 [] [.int .i64 k] (.int .i64 (agR k)) []:=by
 refine fnT hT hmx Tryz.func169 rfl rfl (ex:= []) ?_
 conv=>whnf
 repeat' first
  |(refine brI (fun h=>?_) (fun h=>?_)<;>(conv=>whnf))
  |refine And.intro (ai0 ?_) lh0
  |fail
 all_goals (simp only[beq_iff_eq,beq_eq_false_iff_ne,ne_eq]at*;unfold agR opn;repeat' split)
 all_goals first|rfl|omega
theorem opn8:opn 8=1:=rfl
theorem z77 (e:Ex) (hs:e.s.length<9223372036854775808):Fn 105 [] [.agg (exC e)] (.bool (nodeB e)) []:=by
 refine fnT hT hmx Tryz.func105 rfl rfl (ex:= []) ?_
 conv=>whnf
 refine⟨[],_,z100 e.k,?_⟩
 conv=>whnf
 repeat' first
  |(refine brI (fun h=>?_) (fun h=>?_)<;>(conv=>whnf))
  |refine And.intro (ab0 ?_) lh0
  |(refine⟨[],_,f131 e.q.n e.q.d,?_⟩;conv=>whnf)
  |(refine⟨[],_,z60 e.s hs,?_⟩;conv=>whnf)
  |(refine And.intro (by kernel_rfl) (And.intro (by kernel_rfl) ?_);conv=>whnf)
  |fail
 all_goals (obtain⟨k,⟨n,d⟩,s,p,l⟩:=e;simp only[Ex.k,Ex.q,Ex.s,Ex.p,Ex.l]at*;by_cases k1:k=1<;>by_cases k2:k=2<;>by_cases k8:k=8<;>simp_all[nodeB,numB,varB,powB,opB,agR,opn8,Ex.k,Ex.q,Ex.s,Ex.p,Ex.l])
 ·intro _ _ _ _ _;exact decide_eq_false (by omega)
 ·exact decide_eq_true (by omega)
 ·rw[Bool.eq_iff_iff]
  constructor
  ·intro h5;rw[Bool.and_eq_true,Bool.and_eq_true];exact⟨⟨decide_eq_true (by omega),h5⟩,decide_eq_true (by omega)⟩
  ·intro h5;rw[Bool.and_eq_true,Bool.and_eq_true]at h5;exact h5.1.2
 ·intro h5 _;have:=of_decide_eq_true h5;omega
theorem rcL_stop {l:List Ex} {n a:Nat} (h:200<a):rcL l n a=a:=by
 cases l with
 |nil=>rfl
 |cons x l=>simp only[rcL];rw[if_neg (by omega)]
theorem z59: ∀(e:Ex),Sm e→ ∀n:Nat,n≤20→Fn 50 [] [.agg (exC e),.int .i64 n] (.int .i64 (rcE e n:Nat)) []:=by
 refine exInd fun k q s p l ih hs=>?_
 simp only[Sm]at hs
 intro n hn
 have hnode:=z77 (.mk k q s p l) hs.1
 obtain⟨A,hA⟩: ∃A,rcE (.mk k q s p l) n=A:=⟨_,rfl⟩
 rw[hA]
 show Fn 50 [] [.agg [.int .i64 k,.int .i64 q.n,.int .i64 q.d,.str s,.int .i64 p,.sl .ex l],.int .i64 n] (.int .i64 A) []
 refine fnT hT hmx Tryz.func50 rfl rfl (ex:= []) ?_
 conv=>whnf
 refine brI (fun h=>?_) (fun h=>?_)
 ·have h:n=0:=by simp only[beq_iff_eq]at h;omega
  subst h
  simp only[rcE]at hA
  subst hA
  conv=>whnf
  exact⟨lr rfl,lh0⟩
 have h:n≠0:=by simp only[beq_eq_false_iff_ne]at h;omega
 obtain⟨m,rfl⟩: ∃m,n=m+1:=⟨n-1,by omega⟩
 simp only[rcE]at hA
 conv=>whnf
 refine cbI [] (nodeB (.mk k q s p l)) hnode (fun h1=>?_) (fun h1=>?_)
 rotate_left
 ·rw[if_neg (by rw[h1];simp)]at hA
  subst hA
  conv=>whnf
  exact⟨lr rfl,lh0⟩
 rw[if_pos h1]at hA
 conv=>whnf
 refine⟨Nat×Nat,fun x=>x.1≤l.length∧x.2≤2000000∧rcL (l.drop x.1) m x.2=A,fun x=> [(5,.int .i64 x.2),(6,.int .i64 x.1)],fun _=> [],fun x=>l.length-x.1,(0,1),⟨by simp,by simp,hA⟩,?_,fun x hx=>?_⟩
 ·((conv=>whnf);refine And.intro ?_ ?_;repeat' first|refine lc ?_ ?_|exact la0|exact lr rfl|exact ln0|refine lh1 ?_ ?_|exact lh0|exact bf0|exact bd0|refine bc0 ?_|exact bm0 rfl|exact bg0 rfl|exact li0 rfl|refine lg0 ?_|refine lt0 ?_|fail)
 (refine⟨by kernel_rfl,?_⟩;(conv=>whnf))
 obtain⟨i,a⟩:=x
 obtain⟨hi1,hi2,hi3⟩:=hx
 simp only at hi1 hi2 hi3
 refine brI (fun h2=>?_) (fun h2=>?_)
 ·have hi:i<l.length:=by simp only[decide_eq_true_eq]at h2;omega
  conv=>whnf
  refine brI (fun h3=>?_) (fun h3=>?_)
  ·have h3:a≤200:=by simp only[decide_eq_true_eq]at h3;omega
   conv=>whnf
   refine⟨⟨by omega,by simp only;omega⟩,fun x hx=>?_⟩
   have hx:l[i]? =some x:=by simpa using hx
   have hm:=List.mem_of_getElem? hx
   have hc:=ih x hm (SmL_mem hs.2.2 x hm) m (by omega)
   have hle:=rcE_le x m
   rw[drop_get hx]at hi3
   simp only[rcL]at hi3
   rw[if_pos h3]at hi3
   have hw:IntKind.i64.wrap (((m+1:Nat):Int)-1)=(m:Int):=by rw[wI (by omega)];omega
   conv=>whnf
   refine⟨[],.int .i64 (rcE x m:Nat),?_,?_⟩
   ·show Fn 50 [] [.agg (exC x),.int .i64 (IntKind.i64.wrap (((m+1:Nat):Int)-1))] _ _
    rw[hw];exact hc
   conv=>whnf
   refine⟨(i+1,a+rcE x m),⟨by simp only;omega,by simp only;omega,hi3⟩,by show l.length-(i+1)<l.length-i;omega,?_⟩
   ((conv=>whnf);refine And.intro ?_ ?_;repeat' first|refine lc ?_ ?_|exact la0|exact lr rfl|exact ln0|refine lh1 ?_ ?_|exact lh0|exact bf0|exact bd0|refine bc0 ?_|exact bm0 rfl|exact bg0 rfl|exact li0 rfl|refine lg0 ?_|refine lt0 ?_|fail)
   ·exact ai0 (by rw[wI (by simp only;omega)];simp only;omega)
   ·exact ai0 (by rw[wI (by simp only;omega)];simp only;omega)
  ·have h3:200<a:=by simp only[decide_eq_false_iff_not]at h3;omega
   rw[rcL_stop h3]at hi3
   conv=>whnf
   exact⟨ai0 (by rw[hi3]),lh0⟩
 ·have hi: ¬i<l.length:=by simp only[decide_eq_false_iff_not]at h2;omega
  rw[List.drop_of_length_le (by omega)]at hi3
  simp only[rcL]at hi3
  conv=>whnf
  exact⟨ai0 (by rw[hi3]),lh0⟩
theorem z32 (e:Ex) (hs:Sm e):Fn 11 [] [.agg (exC e)] (.bool (okT e)) []:=by
 have h59:=z59 e hs 20 (by omega)
 refine fnT hT hmx Tryz.func11 rfl rfl (ex:= []) ?_
 conv=>whnf
 refine⟨[],.int .i64 (rcE e 20:Nat),?_,?_⟩
 ·cases e;exact h59
 conv=>whnf
 exact⟨ab0 (rc_okT e),lh0⟩
end Go.Proofs.YtajnlbbgolmklaaGreatDoor

namespace Go.Proofs.YtajnlbbgolmklaaGreatDoor
open Go Go.Sx
set_option maxRecDepth 100000
set_option maxHeartbeats 8000000
theorem sizL_mem {l:List Ex} {x:Ex} (h:x∈l):sizE x≤sizL l:=by
 induction l with
 |nil=>cases h
 |cons y l ih=>
  simp only[sizL]
  rcases List.mem_cons.1 h with rfl|h
  ·omega
  ·have:=ih h;omega
noncomputable def body42:Code:=Tryz.f51.body.getD .skip
theorem y42: ∀(e:Ex),sizE e≤1000→Fn 51 [] [.agg (exC e)] (.sl .ex (preE e)) []:=by
 refine exInd fun k q s p l ih hs=>?_
 have hs1:sizL l<1000:=by simp only[sizE]at hs;omega
 show Fn 51 [] [.agg [.int .i64 k,.int .i64 q.n,.int .i64 q.d,.str s,.int .i64 p,.sl .ex l]] _ []
 obtain⟨A,hA⟩: ∃A,preE (.mk k q s p l)=A:=⟨_,rfl⟩
 have hAl:A.length≤1000:=by rw[←hA,preE_len];exact hs
 have hll:l.length≤1000:=by
  have: ∀l:List Ex,l.length≤sizL l:=by
   intro l
   induction l with
   |nil=>simp
   |cons x l ih=>cases x;simp only[sizL,sizE,List.length_cons];omega
  have:=this l;omega
 rw[hA]
 refine fnC_sound (code:=body42) hT4 hmx Tryz.func51 rfl rfl (ex:= []) ?_
 conv=>whnf
 refine sem_end4 hT4 hmx [1] ?_
 conv=>whnf
 refine tri_lit hT4 1 21 ?_
 conv=>whnf
 refine⟨Nat×List Ex,fun x=>x.1≤l.length∧x.2++preL (l.drop x.1)=A,fun x=> [(4,.int .i64 x.1),(3,.own 21),(6,.any)],fun x=> [(21,.buf 26 .ex x.2)],fun x=>l.length-x.1,(0,[.mk k q s p l]),⟨by simp,by rw[←hA];simp[preE]⟩,?_,fun x hx=>?_⟩
 ·((conv=>whnf);refine And.intro ?_ ?_;repeat' first|refine lc ?_ ?_|exact la0|exact lr rfl|exact ln0|refine lh1 ?_ ?_|exact lh0|exact bf0|exact bd0|refine bc0 ?_|exact bm0 rfl|exact bb0 rfl|exact bg0 rfl|exact li0 rfl|refine lg0 ?_|refine lt0 ?_|fail)
 (refine⟨by kernel_rfl,?_⟩;(conv=>whnf))
 obtain⟨i,out⟩:=x
 obtain⟨hi1,hi2⟩:=hx
 simp only at hi1 hi2
 refine brI (fun h1=>?_) (fun h1=>?_)
 ·conv=>whnf
  have hi:i<l.length:=by simp only[decide_eq_true_eq]at h1;omega
  refine⟨⟨by omega,by simp only;omega⟩,fun x hx=>?_⟩
  have hx:l[i]? =some x:=by simpa using hx
  have hm:=List.mem_of_getElem? hx
  have hsx:=sizL_mem hm
  have h42:=ih x hm (by omega)
  rw[drop_get hx]at hi2
  simp only[preL]at hi2
  have hl2:=congrArg List.length hi2
  simp only[List.length_append]at hl2
  conv=>whnf
  refine⟨[],_,h42,?_⟩
  conv=>whnf
  refine⟨by simp only;omega,?_⟩
  conv=>whnf
  refine⟨(i+1,out++preE x),⟨by simp only;omega,by simp only[List.append_assoc];exact hi2⟩,by show l.length-(i+1)<l.length-i;omega,?_⟩
  ((conv=>whnf);refine And.intro ?_ ?_;repeat' first|refine lc ?_ ?_|exact la0|exact lr rfl|exact ln0|refine lh1 ?_ ?_|exact lh0|exact bf0|exact bd0|refine bc0 ?_|exact bm0 rfl|exact bb0 rfl|exact bg0 rfl|exact li0 rfl|refine lg0 ?_|refine lt0 ?_|fail)
  exact ai0 (by rw[wI (by simp only;omega)];simp only;omega)
 ·conv=>whnf
  have hi: ¬i<l.length:=by simp only[decide_eq_false_iff_not]at h1;omega
  rw[List.drop_of_length_le (by omega)]at hi2
  simp only[preL,List.append_nil]at hi2
  exact⟨leA_sl hi2,lh0⟩
end Go.Proofs.YtajnlbbgolmklaaGreatDoor

namespace Go.Proofs.YtajnlbbgolmklaaGreatDoor
open Go Go.Sx
set_option maxRecDepth 100000
set_option maxHeartbeats 8000000
theorem sz_ok {e:Ex} (h:okT e=true):sizE e≤200:=by
 rw[okT_iff]at h;exact h.2.2
end Go.Proofs.YtajnlbbgolmklaaGreatDoor
