/-
  Names: the classes of bytes, words, keywords.
-/
import Derived.Test.YtbolipecnhlnnaaGreatDoorRUa
import Derived.Laws.Externs
import Derived.Tactics
import Derived.WalkKit
import Derived.Test.YtbolipecnhlnnaaGreatDoorRSxW
set_option linter.unusedVariables false
set_option linter.unusedSimpArgs false
open And renaming intro->q3
open List renaming getElem?_eq_some_iff->q2,drop_eq_getElem_cons->q4,mem_of_getElem?->q5,length_cons->q6,mem_cons->q7
namespace Go.Proofs.YtbolipecnhlnnaaGreatDoor
open Go Go.Sx
set_option maxRecDepth 100000
set_option maxHeartbeats 1000000
theorem c177 (s:ByteArray) (c:Int) (w:World):
 Calls Tryz.prog 392 #[.string s,.int .u8 c] w fun e w'=>e= .returned (.int .i64 (firstIdx s c.toNat.toUInt8))/\w'=w:=by
 go_enter Tryz.func392,Tryz.ntmps392
 go_wp2
 rw[run_callFunc_extern Tryz.func408 (by kernel_rfl) (by kernel_rfl) (by kernel_rfl) (e:=Extern.BytealgIndexByte.indexByte) (by kernel_rfl),run_indexByte_string];simp only[Result.andThen];rw[Oper.upon_value]
 go_wp2
 go_ret
 exact⟨rfl,rfl⟩
theorem zkj.pure {P:Program} {f:Nat} {H:Hp} {A:List AV} {r:AV} (hE:Ent P f)
 (h: ∀(ρ:Env) (vs:List Value) (w:World),Rs ρ A vs->Calls P f vs.toArray w fun e w'=>(∃v,e= .returned v/\R ρ r v)/\w'=w):zkj P f H A r H:=by
 refine⟨hE,fun w M pt ow S vs hcore hcont hargs=>?_⟩;refine(h _ vs w hargs).mono ?_;rintro e w' ⟨⟨v,rfl,hr⟩,rfl⟩;exact⟨v,M,pt,ow,S,rfl,hcore,hcont,hr,⟨rfl,rfl,rfl,Nat.le_refl _,fun _ _ _ _=>rfl,fun _ h=>h,fun _ h=> .inl h,fun _ h=> .inl h,fun _ _ h=> .inl h,fun _ _ h=> .inl h⟩⟩
theorem f177 (s:ze) (c:Int):Fn 392 [] [.str s,.int .u8 c] (.int .i64 (firstIdx ⟨s.toArray⟩ c.toNat.toUInt8)) []:=by
 refine zkj.pure ⟨_,Tryz.func392,rfl,rfl⟩ fun ρ vs w hv=>?_
 match vs,hv with
 | [a,b],⟨ha,hb,_⟩=>
   obtain rfl:a= .string ⟨s.toArray⟩:=ha;obtain rfl:b= .int .u8 c:=hb;refine(c177 ⟨s.toArray⟩ c w).mono ?_;rintro e w' ⟨rfl,rfl⟩;exact⟨⟨_,rfl,rfl⟩,rfl⟩
theorem f164 (s:ze) (c:Int):Fn 354 [] [.str s,.int .u8 c] (.int .i64 (firstIdx ⟨s.toArray⟩ c.toNat.toUInt8)) []:=by
 refine fnT hT hmx Tryz.func354 rfl rfl (ex:= []) ?_;conv=>whnf
 refine gZn (f177 s c) ?_;conv=>whnf
 exact⟨lr rfl,lh0⟩
def syms:ze:= [40,41,91,93,123,125,44,59,58,39,61,43,45,42,47,94]
def cls (c:Int):Int:=
 if c=32\/c=9\/c=13\/c=10 then 1 else if(97<=c/\c<=122)\/(65<=c/\c<=90)then 2 else if 48<=c/\c<=57 then 3
 else if c=95 then 4 else if c=46 then 5 else if 0<=firstIdx ⟨syms.toArray⟩ c.toNat.toUInt8 then 6 else 0
theorem f157 (c:Int):Fn 279 [] [.int .u8 c] (.int .i64 (cls c)) []:=by
 refine fnT hT hmx Tryz.func279 rfl rfl (ex:= []) ?_;conv=>whnf
 repeat' first
  |(refine brI (fun h=>?_) (fun h=>?_)<;>(conv=>whnf))
  |refine⟨ai0 ?_,lh0⟩
  |(refine gZn (f164 syms c) ?_;conv=>whnf)
 all_goals (simp only[decide_eq_true_eq,decide_eq_false_iff_not,beq_iff_eq,beq_eq_false_iff_ne,ne_eq]at*;unfold cls;repeat' split)
 all_goals first|rfl|omega
def kws:List ze:= [[115,116,97,116,101],[112,97,114,97,109],[105,110],[109,111,100,101],[119,104,101,110],[114,105,115,101,115],[102,97,108,108,115],[103,111,116,111],[119,105,116,104],[116,105,109,101],[101,120,112],[108,111,103],[115,105,110],[99,111,115],[115,113,114,116]]
def kwB (s:ze):Bool:=kws.any fun k=>s==k
theorem f135 (s:ze):Fn 185 [] [.str s] (.bool (kwB s)) []:=by
 refine fnT hT hmx Tryz.func185 rfl rfl (ex:= []) ?_;conv=>whnf
 repeat' first
  |(refine brI (fun h=>?_) (fun h=>?_)<;>(conv=>whnf))
  |refine q3 (ab0 ?_) lh0
 all_goals simp_all[kwB,kws]
def chB (c:UInt8):Bool:=decide (cls c.toNat=2)||decide (cls c.toNat=3)||decide (cls c.toNat=4)
def zqe:ze->Bool
 | []=>false
 |c::s=>decide (cls c.toNat=2)&&s.all chB
theorem f134 (s:ze) (hs:s.length<9223372036854775808):Fn 184 [] [.str s] (.bool (zqe s)) []:=by
 refine fnT hT hmx Tryz.func184 rfl rfl (ex:= []) ?_;conv=>whnf
 match s,hs with
 | [],_=>
   conv=>whnf
   exact⟨ab0 rfl,lh0⟩
 |c::s,hs=>
  conv=>whnf
  refine⟨⟨by omega,by simp⟩,fun c' hc'=>?_⟩;obtain rfl:c=c':=by simpa using hc'
  conv=>whnf
  refine gZn (f157 c.toNat) ?_;conv=>whnf
  refine brI (fun h2=>?_) (fun h2=>?_)
  ·conv=>whnf
   refine⟨ab0 ?_,lh0⟩;simp only[bne_iff_ne]at h2;simp[zqe,h2]
  ·conv=>whnf
   have h2:cls c.toNat=2:=by simpa using h2
   refine⟨Nat,fun i=>i<=(c::s).length /\((c::s).take i).all chB=true,fun i=> [(15,.int .i64 i)],fun _=> [],fun i=>(c::s).length -i,0,⟨by simp,by simp⟩,?_,fun i hi=>?_⟩
   ·((conv=>whnf);refine⟨?_,lh0⟩;repeat' first|exact ln0|exact la0|exact lr rfl|refine lc ?_ ?_)
   ·(refine⟨by kernel_rfl,?_⟩;(conv=>whnf))
    obtain⟨hi1,hi2⟩:=hi;refine brI (fun h3=>?_) (fun h3=>?_)
    ·conv=>whnf
     have h3:i<(c::s).length :=by simp only[decide_eq_true_eq]at h3;omega
     refine⟨⟨by omega,by omega⟩,fun c' hc'=>?_⟩;have hc':(c::s)[i]? =some c':=by simpa using hc'
     conv=>whnf
     refine gZn (f157 c'.toNat) ?_;conv=>whnf
     have hno:chB c'=false->false=zqe (c::s):=fun h=>by
      have hm:c'∈c::s:=q5 hc';simp only[zqe,h2,decide_true,Bool.true_and];rcases q7.1 hm with rfl|hm
      ·simp[chB,h2]at h
      ·symm;rw[List.all_eq_false];exact⟨c',hm,by rw[h];simp⟩
     have hyes:chB c'=true->((c::s).take (i+1)).all chB=true:=fun h=>by
      rw[List.take_add_one,hc'];simp[hi2,h]
     have hnext:chB c'=true->i+1<=(c::s).length /\((c::s).take (i+1)).all chB=true:=fun h=>⟨by omega,hyes h⟩
     refine brI (fun h4=>?_) (fun h4=>?_)
     ·conv=>whnf
      refine brI (fun h5=>?_) (fun h5=>?_)
      ·conv=>whnf
       refine brI (fun h6=>?_) (fun h6=>?_)
       ·conv=>whnf
        refine⟨ab0 (hno ?_),lh0⟩;simp only[bne_iff_ne]at h4 h5 h6;simp[chB,h4,h5,h6]
       ·conv=>whnf
        refine⟨i+1,hnext (by simp at h6;simp[chB,h6]),(by show(c::s).length -(i+1)<(c::s).length -i;omega),?_⟩
        ((conv=>whnf);refine⟨?_,lh0⟩;repeat' first|exact ln0|exact la0|exact lr rfl|refine lc ?_ ?_)
        exact ai0 (by rw[wI (by omega)];omega)
      ·conv=>whnf
       refine⟨i+1,hnext (by simp at h5;simp[chB,h5]),(by show(c::s).length -(i+1)<(c::s).length -i;omega),?_⟩
       ((conv=>whnf);refine⟨?_,lh0⟩;repeat' first|exact ln0|exact la0|exact lr rfl|refine lc ?_ ?_)
       exact ai0 (by rw[wI (by omega)];omega)
     ·conv=>whnf
      refine⟨i+1,hnext (by simp at h4;simp[chB,h4]),(by show(c::s).length -(i+1)<(c::s).length -i;omega),?_⟩
      ((conv=>whnf);refine⟨?_,lh0⟩;repeat' first|exact ln0|exact la0|exact lr rfl|refine lc ?_ ?_)
      exact ai0 (by rw[wI (by omega)];omega)
    ·conv=>whnf
     have h3: ¬i<(c::s).length :=by simp only[decide_eq_false_iff_not]at h3;omega
     refine⟨ab0 ?_,lh0⟩;rw[List.take_of_length_le (by omega)]at hi2;simp only[List.all_cons,Bool.and_eq_true]at hi2;simp[zqe,h2,hi2.2]
def zht (s:ze):Bool:=zqe s&&decide (s.length<=20)&& !kwB s
theorem f89 (s:ze) (hs:s.length<9223372036854775808):Fn 107 [] [.str s] (.bool (zht s)) []:=by
 refine fnT hT hmx Tryz.func107 rfl rfl (ex:= []) ?_;conv=>whnf
 refine gZn (f134 s hs) ?_;conv=>whnf
 refine brI (fun h1=>?_) (fun h1=>?_)
 ·conv=>whnf
  refine brI (fun h2=>?_) (fun h2=>?_)
  ·conv=>whnf
   refine gZn (f135 s) ?_;conv=>whnf
   have h2:s.length<=20:=by simp only[decide_eq_true_eq]at h2;omega
   exact⟨ab0 (by simp[zht,h1,h2]),lh0⟩
  ·conv=>whnf
   have h2: ¬s.length<=20:=by simp only[decide_eq_false_iff_not]at h2;omega
   exact⟨ab0 (by simp[zht,h2]),lh0⟩
 ·conv=>whnf
  exact⟨ab0 (by simp[zht,h1]),lh0⟩
theorem cbI {Pc K:List Blk->AV->Prop} (bs:List Blk) (b:Bool) (hc:Pc bs (.bool b)) (h1:b=true->K bs (.bool true)) (h2:b=false->K bs (.bool false)): ∃bs' r,Pc bs' r/\K bs' r:=by
 cases b
 ·exact⟨bs,_,hc,h2 rfl⟩
 ·exact⟨bs,_,hc,h1 rfl⟩
set_option maxHeartbeats 4000000
def opn (k:Int):Int:=
 if k=3\/k=4\/k=5\/k=6 then 2 else if k=7\/k=8\/k=9\/k=10\/k=11\/k=12\/k=13 then 1 else-1
theorem f147 (k:Int):Fn 341 [] [.int .i64 k] (.int .i64 (opn k)) []:=by
 refine fnT hT hmx Tryz.func341 rfl rfl (ex:= []) ?_;conv=>whnf
 repeat' first
  |(refine brI (fun h=>?_) (fun h=>?_)<;>(conv=>whnf))
  |refine q3 (ai0 ?_) lh0
  |fail
 all_goals (simp only[beq_iff_eq,beq_eq_false_iff_ne,ne_eq]at*;unfold opn;repeat' split)
 all_goals first|rfl|omega
def numB (e:Ex):Bool:=rOk e.q&&(e.s== [])&&decide (e.p=0)&&decide (e.l.length=0)
def varB (e:Ex):Bool:=decide (e.q=⟨0,0⟩)&&zht e.s&&decide (e.p=0)&&decide (e.l.length=0)
def powB (e:Ex):Bool:=decide (e.q=⟨0,0⟩)&&(e.s== [])&&decide (0<=e.p)&&decide (e.p<=16)&&decide (e.l.length=1)
def opB (e:Ex):Bool:=decide (e.q=⟨0,0⟩)&&(e.s== [])&&decide (e.p=0)&&decide ((e.l.length:Int)=opn e.k)
def zjt (e:Ex):Bool:=if e.k=1 then numB e else if e.k=2 then varB e else if e.k=8 then powB e else opB e
theorem f118 (e:Ex) (hs:e.s.length<9223372036854775808):Fn 262 [] [.agg (exC e)] (.bool (zjt e)) []:=by
 refine fnT hT hmx Tryz.func262 rfl rfl (ex:= []) ?_;conv=>whnf
 repeat' first
  |(refine brI (fun h=>?_) (fun h=>?_)<;>(conv=>whnf))
  |refine q3 (ab0 ?_) lh0
  |(refine gZn (f54 e.q.n e.q.d) ?_;conv=>whnf)
  |(refine gZn (f89 e.s hs) ?_;conv=>whnf)
  |(refine gZn (f147 e.k) ?_;conv=>whnf)
  |(refine q3 (by kernel_rfl) (q3 (by kernel_rfl) ?_);conv=>whnf)
  |fail
 all_goals (obtain⟨k,⟨n,d⟩,s,p,l⟩:=e;simp only[Ex.k,Ex.q,Ex.s,Ex.p,Ex.l]at*;simp_all[zjt,numB,varB,powB,opB,Ex.k,Ex.q,Ex.s,Ex.p,Ex.l])
 all_goals first
  |(cases l<;>simp<;>omega)
  |(intro h1;have h2:=of_decide_eq_true h1;omega)
  |(rw[Bool.eq_iff_iff];simp only[beq_iff_eq];constructor
    ·intro h1;exact decide_eq_true (by omega)
    ·intro h1;have:=of_decide_eq_true h1;omega)
mutual
def Sm:Ex->Prop
 | .mk _ _ s _ l=>s.length<9223372036854775808/\l.length<9223372036854775808/\SmL l
def SmL:List Ex->Prop
 | []=>True
 |x::l=>Sm x/\SmL l
end
theorem qdc {l:List Ex} (h:SmL l) {x:Ex} {i:Nat} (hx:l[i]? =some x):Sm x:=by
 induction l generalizing i with
 |nil=>simp at hx
 |cons y l ih=>cases i with
  |zero=>simp at hx;rw[←hx];exact h.1
  |succ i=>exact ih h.2 (by simpa using hx)
mutual
def zda:Ex->Nat->Nat->Bool×Nat
 | .mk k q s p l,d,n=>if d<=20/\n+1<=200/\zjt (.mk k q s p l)=true then ze4 l (d+1) (n+1)else(false,n+1)
def ze4:List Ex->Nat->Nat->Bool×Nat
 | [],_,n=>(true,n)
 |x::l,d,n=>match zda x d n with
  |(true,m)=>ze4 l d m
  |(false,m)=>(false,m)
end
def ixL:List Ex->Nat->Nat->Nat->Int
 | [],_,_,_=> -1
 |x::l,d,n,i=>match zda x d n with
  |(true,m)=>ixL l d m (i+1)
  |(false,_)=>i
theorem zt8: ∀(l:List Ex) (d n i:Nat),0<=ixL l d n i<->(ze4 l d n).1=false
 | [],d,n,i=>by simp[ixL,ze4]
 |x::l,d,n,i=>by
  simp only[ixL,ze4]
  cases h:zda x d n with
  |mk b m=>cases b with
   |true=>exact zt8 l d m (i+1)
   |false=>simp
abbrev cb1 (n:Int):Blk:= .cells [.int .i64 n]
abbrev Hc (d n:Nat):Hp:= [(1000004,cb1 d),(1000005,.cells [.ptr 1000002 0]),(1000002,cb1 n)]
abbrev zvx (e:Ex):Prop:= ∀d n:Nat,d<=1000->n<=1000->Fn 175 [(1000002,cb1 n)] [.agg (exC e),.int .i64 d,.ptr 1000002 0] (.bool (zda e d n).1) [(1000002,cb1 (zda e d n).2)]
theorem f119 (e:Ex) (h:zvx e) (d n:Nat) (hd:d<1000) (hn:n<=1000):
 Fn 264 (Hc d n) [.agg (exC e),.ptr 1000004 0,.ptr 1000005 0] (.bool (!(zda e (d+1) n).1)) (Hc d (zda e (d+1) n).2):=by
 refine fnT hT hmx Tryz.func264 rfl rfl (ex:= []) ?_;conv=>whnf
 rw[wI (x:=(d:Int)+1) (by omega)];refine⟨[cb1 (zda e (d+1) n).2],.bool (zda e (d+1) n).1,h (d+1) n (by omega) hn,?_⟩;conv=>whnf
 exact⟨lr rfl,lh1 (bc0 (lc (lr rfl) ln0)) (lh1 (bc0 (lc (lr rfl) ln0)) (lh1 (bc0 (lc (lr rfl) ln0)) lh0))⟩
mutual
theorem zu8: ∀(e:Ex) (d n:Nat),(zda e d n).1=true->(zda e d n).2<=200
 | .mk k q s p l,d,n,h=>by
   simp only[zda]at h⊢;split at h
   ·rename_i hc;rw[if_pos hc];exact zu7 l _ _ hc.2.1 h
   ·simp at h
theorem zu7: ∀(l:List Ex) (d n:Nat),n<=200->(ze4 l d n).1=true->(ze4 l d n).2<=200
 | [],d,n,hn,_=>hn
 |x::l,d,n,hn,h=>by
  simp only[ze4]at h⊢;have:=zu8 x d n
  cases hx:zda x d n with
  |mk b m=>cases b with
   |true=>rw[hx]at h this;exact zu7 l d m (this rfl) h
   |false=>rw[hx]at h;simp at h
end
def AtL (l:List Ex) (d n i m:Nat):Prop:=i<=l.length/\m<=200/\ze4 (l.drop i) d m=ze4 l d n/\ixL (l.drop i) d m i=ixL l d n 0
theorem zyq {l:List Ex} {d n i m m':Nat} {x:Ex} (h:AtL l d n i m) (hx:l[i]? =some x) (hc:zda x d m=(true,m')):AtL l d n (i+1) m':=by
 obtain⟨h1,h2,h3,h4⟩:=h;have hd:l.drop i=x::l.drop (i+1):=by
  obtain⟨hi,hx⟩:=q2.1 hx;rw[←hx];exact q4 hi
 have hi:i<l.length:=by
  obtain⟨hi,hx⟩:=q2.1 hx;exact hi
 rw[hd]at h3 h4;simp only[ze4,ixL,hc]at h3 h4;have:=zu8 x d m (by rw[hc]);rw[hc]at this;exact⟨by omega,this,h3,h4⟩
theorem f114c (l:List Ex) (hl: ∀x∈l,zvx x) (hlen:l.length<9223372036854775808) (d n:Nat) (hd:d<1000) (hn:n<=200):
 Fn 342 (Hc d n) [.sl .ex l,.fn 264 [.ptr 1000004 0,.ptr 1000005 0]] (.int .i64 (ixL l (d+1) n 0)) (Hc d (ze4 l (d+1) n).2):=by
 refine fnT hT hmx Tryz.func342 rfl rfl (ex:= []) ?_;conv=>whnf
 refine⟨Nat×Nat,fun x=>AtL l (d+1) n x.1 x.2,fun x=> [(8,.int .i64 x.1)],fun x=> [(1000002,cb1 x.2)],fun x=>l.length-x.1,(0,n),⟨by simp,hn,rfl,rfl⟩,?_,fun x hx=>?_⟩
 ·((conv=>whnf);refine q3 ?_ ?_;repeat' first|exact ln0|exact lh0|exact la0|exact lr rfl|exact li0 rfl|refine lg0 ?_|refine lt0 ?_|exact bf0|exact bd0|refine lc ?_ ?_|refine lh1 ?_ ?_|refine bc0 ?_|fail)
 ·(refine⟨by kernel_rfl,?_⟩;(conv=>whnf))
  obtain⟨i,m⟩:=x;have hx:AtL l (d+1) n i m:=hx;refine brI (fun h1=>?_) (fun h1=>?_)
  ·conv=>whnf
   have hi:i<l.length:=by simp only[decide_eq_true_eq]at h1;omega
   refine⟨⟨by omega,by simp only;omega⟩,fun e he=>?_⟩;have he:l[i]? =some e:=by simpa using he
   conv=>whnf
   refine⟨[cb1 d,.cells [.ptr 1000002 0],cb1 (zda e (d+1) m).2],.bool (!(zda e (d+1) m).1),f119 e (hl e (q5 he)) d m hd (by have:=hx.2.1;omega),?_⟩;conv=>whnf
   refine brI (fun h2=>?_) (fun h2=>?_)
   ·conv=>whnf
    have hd:l.drop i=e::l.drop (i+1):=by
     obtain⟨hi,he⟩:=q2.1 he;rw[←he];exact q4 hi
    have h2:(zda e (d+1) m).1=false:=by simpa using h2
    obtain⟨_,_,h3,h4⟩:=hx;rw[hd]at h3 h4;simp only[ze4,ixL]at h3 h4;rcases hc:zda e (d+1) m with ⟨b,m'⟩
    rw[hc]at h3 h4 h2;subst h2;simp only at h3 h4;rw[←h3,←h4]
    (refine q3 ?_ ?_;repeat' first|exact ln0|exact lh0|exact la0|exact lr rfl|exact li0 rfl|refine lg0 ?_|refine lt0 ?_|exact bf0|exact bd0|refine lc ?_ ?_|refine lh1 ?_ ?_|refine bc0 ?_|fail)
   ·conv=>whnf
    have h2:(zda e (d+1) m).1=true:=by simpa using h2
    refine⟨(i+1,(zda e (d+1) m).2),zyq hx he (by rw[←h2]),by show l.length-(i+1)<l.length-i;omega,?_⟩
    ((conv=>whnf);refine q3 ?_ ?_;repeat' first|exact ln0|exact lh0|exact la0|exact lr rfl|exact li0 rfl|refine lg0 ?_|refine lt0 ?_|exact bf0|exact bd0|refine lc ?_ ?_|refine lh1 ?_ ?_|refine bc0 ?_|fail)
    exact ai0 (by rw[wI (by simp only;omega)];simp only;omega)
  ·conv=>whnf
   have hi: ¬i<l.length:=by simp only[decide_eq_false_iff_not]at h1;omega
   obtain⟨_,_,h3,h4⟩:=hx;rw[List.drop_of_length_le (by omega)]at h3 h4;simp only[ze4,ixL]at h3 h4;rw[←h3,←h4]
   (refine q3 ?_ ?_;repeat' first|exact ln0|exact lh0|exact la0|exact lr rfl|exact li0 rfl|refine lg0 ?_|refine lt0 ?_|exact bf0|exact bd0|refine lc ?_ ?_|refine lh1 ?_ ?_|refine bc0 ?_|fail)
theorem f60c (l:List Ex) (hl: ∀x∈l,zvx x) (hlen:l.length<9223372036854775808) (d n:Nat) (hd:d<1000) (hn:n<=200):
 Fn 263 (Hc d n) [.sl .ex l,.fn 264 [.ptr 1000004 0,.ptr 1000005 0]] (.bool (!(ze4 l (d+1) n).1)) (Hc d (ze4 l (d+1) n).2):=by
 refine fnT hT hmx Tryz.func263 rfl rfl (ex:= []) ?_;conv=>whnf
 refine⟨[cb1 d,.cells [.ptr 1000002 0],cb1 (ze4 l (d+1) n).2],_,f114c l hl hlen d n hd hn,?_⟩;conv=>whnf
 (refine q3 ?_ ?_;repeat' first|exact ln0|exact lh0|exact la0|exact lr rfl|exact li0 rfl|refine lg0 ?_|refine lt0 ?_|exact bf0|exact bd0|refine lc ?_ ?_|refine lh1 ?_ ?_|refine bc0 ?_|fail)
 exact ab0 (by have:=zt8 l (d+1) n 0;cases hc:(ze4 l (d+1) n).1<;>simp_all)
mutual
theorem zul {P:Ex->Prop} (h: ∀k q s p l,(∀x∈l,P x)->P (.mk k q s p l)): ∀e,P e
 | .mk k q s p l=>h k q s p l (zzo h l)
theorem zzo {P:Ex->Prop} (h: ∀k q s p l,(∀x∈l,P x)->P (.mk k q s p l)): ∀(l:List Ex),∀x∈l,P x
 | []=>fun x hx=>by simp at hx
 |y::l=>fun x hx=>by
  rcases q7.1 hx with e|hx
  ·rw[e];exact zul h y
  ·exact zzo h l x hx
end
theorem znx {l:List Ex} (h:SmL l): ∀x∈l,Sm x:=fun x hx=>by
 obtain⟨i,hi⟩:=List.mem_iff_getElem?.1 hx;exact qdc h hi
theorem leH1 {h h':Hp} {n m:Int} (e:n=m):leH h h' [(1000002,cb1 n)] [(1000002,cb1 m)]:=by
 subst e;exact lh1 (bc0 (lc (lr rfl) ln0)) lh0
theorem f65: ∀(e:Ex),Sm e->zvx e:=by
 refine zul fun k q s p l ih hs=>?_
 simp only[Sm]at hs;have hl: ∀x∈l,zvx x:=fun x hx=>ih x hx (znx hs.2.2 x hx)
 intro d n hd hn;have hnode:Fn 262 [] [.agg (exC (.mk k q s p l))] (.bool (zjt (.mk k q s p l))) []:=f118 _ hs.1;have hcon:=f60c l hl hs.2.1;have hno: ¬(d<=20/\n+1<=200/\zjt (.mk k q s p l)=true)->zda (.mk k q s p l) d n=(false,n+1):=fun h=>by simp only[zda];rw[if_neg h]
 refine fnT hT hmx Tryz.func175 rfl rfl (ex:= []) ?_;conv=>whnf
 have hw:IntKind.i64.wrap ((n:Int)+1)=((n+1:Nat):Int):=by rw[wI (by omega)];rfl
 refine brI (fun h1=>?_) (fun h1=>?_)
 ·conv=>whnf
  simp only[decide_eq_true_eq]at h1;rw[hno (by omega)];exact⟨lr rfl,leH1 hw⟩
 ·conv=>whnf
  simp only[decide_eq_false_iff_not]at h1;refine brI (fun h2=>?_) (fun h2=>?_)
  ·conv=>whnf
   simp only[decide_eq_true_eq]at h2;rw[hw]at h2;rw[hno (by omega)];exact⟨lr rfl,leH1 hw⟩
  ·conv=>whnf
   simp only[decide_eq_false_iff_not]at h2;rw[hw]at h2;refine gZn hnode ?_;conv=>whnf
   refine brI (fun h3=>?_) (fun h3=>?_)
   ·conv=>whnf
    have h3:zjt (.mk k q s p l)=false:=by simpa using h3
    rw[hno (by rw[h3];simp)];exact⟨lr rfl,leH1 hw⟩
   ·conv=>whnf
    have h3:zjt (.mk k q s p l)=true:=by simpa using h3
    have hyes:zda (.mk k q s p l) d n=ze4 l (d+1) (n+1):=by simp only[zda];rw[if_pos ⟨by omega,by omega,h3⟩]
    rw[hyes,hw];refine⟨[cb1 d,.cells [.ptr 1000002 0],cb1 (ze4 l (d+1) (n+1)).2],.bool (!(ze4 l (d+1) (n+1)).1),(hcon d (n+1) (by omega) (by omega)).sw [(4,1000004),(5,1000005)] rfl,?_⟩;conv=>whnf
    exact⟨ab0 (by simp),leH1 rfl⟩
def okT (e:Ex):Bool:=(zda e 1 0).1
theorem f17 (e:Ex) (hs:Sm e):Fn 95 [] [.agg (exC e)] (.bool (okT e)) []:=by
 refine fnT hT hmx Tryz.func95 rfl rfl (ex:= []) ?_;conv=>whnf
 refine⟨[cb1 (zda e 1 0).2],.bool (okT e),(f65 e hs 1 0 (by omega) (by omega)).sw [(3,1000002)] rfl,?_⟩;conv=>whnf
 exact⟨lr rfl,lh0⟩
set_option maxHeartbeats 8000000
theorem wq {α:Type} {l:List α} {i:Nat} {x:α} (h:l[i]? =some x):l.drop i=x::l.drop (i+1):=by
 obtain⟨hi,hx⟩:=q2.1 h;rw[←hx];exact q4 hi
def ixP {α:Type} (p:α->Bool):List α->Nat->Int
 | [],_=> -1
 |x::l,i=>if p x then i else ixP p l (i+1)
theorem zj2 {α:Type} (p:α->Bool): ∀(l:List α) (i:Nat),0<=ixP p l i<->l.any p=true
 | [],i=>by simp[ixP]
 |x::l,i=>by
  have ih:=zj2 p l (i+1);by_cases h:p x=true
  ·simp[ixP,h]
  ·simp only[ixP,if_neg h,ih,List.any_cons];simp[h]
def eqS (s x:ze):Bool:=s==x
def zhs (r:Rt):Ex:= .mk 1 r [] 0 []
def opE (k n:Int) (l:List Ex):Ex:= .mk k ⟨0,0⟩ [] n l
theorem ix0 {P:Ex->Prop} {a:Ex} {l:List Ex} (h:P a):((0:Int)<=0/\(0:Int)<((a::l).length :Int))/\ ∀x,(a::l)[(0:Int).toNat]? =some x->P x:=
 ⟨⟨by omega,by simp only[q6];omega⟩,fun x hx=>(show a=x by simpa using hx)▸h⟩
theorem ix1 {P:Ex->Prop} {a b:Ex} {l:List Ex} (h:P b):((0:Int)<=1/\(1:Int)<((a::b::l).length :Int))/\ ∀x,(a::b::l)[(1:Int).toNat]? =some x->P x:=
 ⟨⟨by omega,by simp only[q6];omega⟩,fun x hx=>(show b=x by simpa using hx)▸h⟩
end Go.Proofs.YtbolipecnhlnnaaGreatDoor
