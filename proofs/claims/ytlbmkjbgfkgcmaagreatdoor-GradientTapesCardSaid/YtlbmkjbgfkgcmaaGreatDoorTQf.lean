/- Law 20: equal lists, short lists, few operations, the examples' numbers. -/
import Derived.Test.YtlbmkjbgfkgcmaaGreatDoorTQg
set_option linter.all false
open Bool renaming and_eq_true->q2,true_and->q3,false_and->qB,eq_iff_iff->qH,false_or->qI,true_or->qJ
open List renaming mem_of_getElem?->q0,drop_of_length_le->q1,mem_map->qA,mem_singleton->qC,take_of_length_le->qD,range->qE,take_add_one->qF,length_take->qG
open Nat renaming zero_le->q4
namespace Go.Proofs.YtlbmkjbgfkgcmaaGreatDoor
open Go Go.Sx
set_option maxRecDepth 100000
set_option maxHeartbeats 8000000
def eqL{α:Type}(P:α->α->Bool):List α->List α->Bool
 | [],[]=>true
 |x::a,y::b=>P x y&&eqL P a b
 | _,_=>false
theorem znk{α:Type}{P:α->α->Bool}:∀ {a b:List α},a.length≠b.length->eqL P a b=false
 | [],[],h=>absurd rfl h
 |x::a,y::b,h=>by
  unfold eqL;rw[znk (a:=a) (b:=b) (fun e=>h (by simp[e])),Bool.and_false]
 | [],_::_,_=>rfl
 | _::_,[],_=>rfl
theorem efG{g:Nat}{P:Iv->Iv->Bool}(a b:List Iv)(ha:a.length<9223372036854775808)(hb:b.length<9223372036854775808)(hg:∀x∈a,∀y∈b,Fn g [] [.agg (ivC x),.agg (ivC y)] (.bool (P x y)) []):
 Fn 23 [] [.sl .iv a,.sl .iv b,.fn g []] (.bool (eqL P a b)) []:=by
 by_cases hl:a.length=b.length
 rotate_left
 .rw[znk hl];refine fnT hTE hmx Tryz.func23 rfl rfl (ex:= []) ?_;conv=>whnf
  refine brI (fun _=>?_) (fun c=>?_)
  .conv=>whnf
   exact⟨lr rfl,lh0⟩
  .have c:((a.length:Int) != (b.length:Int))=false:=c;exact absurd (by have e:(a.length:Int)=b.length:=(by simpa using c);omega) hl
 refine fnT hTE hmx Tryz.func23 rfl rfl (ex:= []) ?_;conv=>whnf
 refine brI (fun c=>?_) (fun _=>?_)
 .have c:((a.length:Int) != (b.length:Int))=true:=c;rw[hl]at c;simp at c
 conv=>whnf
 refine⟨Nat,fun i=>i<=a.length/\eqL P (a.drop i) (b.drop i)=eqL P a b,fun i=> [(17,.int .i64 i)],fun _=> [],fun i=>a.length-i,0,⟨OC,rfl⟩,?_,fun i hi=>?_⟩
 .exact KZ0
 refine gYe ?_;obtain⟨hi1,hi2⟩:=hi;refine brI (fun h1=>?_) (fun h1=>?_)
 .have hi:i<a.length:=by have:=Z0 h1;omega
  conv=>whnf
  refine⟨⟨O,O⟩,fun(x:Iv)hx=>?_⟩;have hx:a[i]? =some x:=by simpa using hx
  conv=>whnf
  refine⟨⟨O,O⟩,fun(y:Iv)hy=>?_⟩;have hy:b[i]? =some y:=by simpa using hy
  have hc:=hg x (q0 hx) y (q0 hy);rw[qh hx,qh hy]at hi2;simp only[eqL]at hi2;conv=>whnf
  refine cbI [] (P x y) hc (fun h2=>?_) (fun h2=>?_)
  .conv=>whnf
   rw[h2,q3]at hi2;refine⟨i+1,⟨O,hi2⟩,by show a.length-(i+1)<a.length-i;omega,?_⟩;exact KZ0
  .conv=>whnf
   rw[h2,qB]at hi2;exact⟨ab0 hi2,lh0⟩
 .conv=>whnf
  have hi:¬i<a.length:=by have:=Z3 h1;omega
  rw[q1 O,q1 O]at hi2;exact⟨ab0 hi2,lh0⟩
theorem efR{g:Nat}{P:List Iv->List Iv->Bool}(a b:List (List Iv))(ha:a.length<9223372036854775808)(hb:b.length<9223372036854775808)(hg:∀x∈a,∀y∈b,Fn g [] [.sl .iv x,.sl .iv y] (.bool (P x y)) []):
 Fn 25 [] [.sl .vs a,.sl .vs b,.fn g []] (.bool (eqL P a b)) []:=by
 by_cases hl:a.length=b.length
 rotate_left
 .rw[znk hl];refine fnT hTE hmx Tryz.func25 rfl rfl (ex:= []) ?_;conv=>whnf
  refine brI (fun _=>?_) (fun c=>?_)
  .conv=>whnf
   exact⟨lr rfl,lh0⟩
  .have c:((a.length:Int) != (b.length:Int))=false:=c;exact absurd (by have e:(a.length:Int)=b.length:=(by simpa using c);omega) hl
 refine fnT hTE hmx Tryz.func25 rfl rfl (ex:= []) ?_;conv=>whnf
 refine brI (fun c=>?_) (fun _=>?_)
 .have c:((a.length:Int) != (b.length:Int))=true:=c;rw[hl]at c;simp at c
 conv=>whnf
 refine⟨Nat,fun i=>i<=a.length/\eqL P (a.drop i) (b.drop i)=eqL P a b,fun i=> [(17,.int .i64 i)],fun _=> [],fun i=>a.length-i,0,⟨OC,rfl⟩,?_,fun i hi=>?_⟩
 .exact KZ0
 refine gYe ?_;obtain⟨hi1,hi2⟩:=hi;refine brI (fun h1=>?_) (fun h1=>?_)
 .have hi:i<a.length:=by have:=Z0 h1;omega
  conv=>whnf
  refine⟨⟨O,O⟩,fun(x:List Iv)hx=>?_⟩;have hx:a[i]? =some x:=by simpa using hx
  conv=>whnf
  refine⟨⟨O,O⟩,fun(y:List Iv)hy=>?_⟩;have hy:b[i]? =some y:=by simpa using hy
  have hc:=hg x (q0 hx) y (q0 hy);rw[qh hx,qh hy]at hi2;simp only[eqL]at hi2;conv=>whnf
  refine cbI [] (P x y) hc (fun h2=>?_) (fun h2=>?_)
  .conv=>whnf
   rw[h2,q3]at hi2;refine⟨i+1,⟨O,hi2⟩,by show a.length-(i+1)<a.length-i;omega,?_⟩;exact KZ0
  .conv=>whnf
   rw[h2,qB]at hi2;exact⟨ab0 hi2,lh0⟩
 .conv=>whnf
  have hi:¬i<a.length:=by have:=Z3 h1;omega
  rw[q1 O,q1 O]at hi2;exact⟨ab0 hi2,lh0⟩
theorem q27(n:Int)(h: -1000<=n/\n<=1000):Fn 27 [] [.int .i64 n] (.agg (dyC (wg n))) []:=by
 have h1:=r262 n O;refine fnT hTE hmx Tryz.func27 rfl rfl (ex:= []) ?_;conv=>whnf
 refine gYn h1 ?_;exact⟨lr rfl,lh0⟩
theorem q29(n:Int)(h: -1000<=n/\n<=1000):Fn 29 [] [.int .i64 n] (.agg (dyC (ql (wg n) (-2)).1)) []:=by
 have h1:=q27 n h;have h2:=q47 (wu n O) (j:= -2) (.inr rfl);generalize ql (wg n) (-2)=R at*;generalize wg n=D at*;obtain⟨⟨R1,R2,R3⟩,R4⟩:=R;refine fnT hTE hmx Tryz.func29 rfl rfl (ex:= []) ?_;conv=>whnf
 refine gYn h1 ?_;refine gYn h2 ?_;exact⟨lr rfl,lh0⟩
theorem q42(x:Iv)(ha:x.all=false)(h1:x.lo.m.length<9223372036854775808)(h2:x.hi.m.length<9223372036854775808):Fn 42 [] [.agg (ivC x),.agg (ivC x)] (.bool true) []:=by
 have c1:=x103 x.lo h1;have c2:=x103 x.hi h2;obtain⟨a,b,c⟩:=x;have ha:c=false:=ha;subst ha;have h:Fn 78 [] [.agg (ivC ⟨a,b,false⟩),.agg (ivC ⟨a,b,false⟩)] (.bool true) []:=by
  refine fnT hTE hmx Tryz.func78 rfl rfl (ex:= []) ?_;conv=>whnf
  refine gYn c1 ?_;refine gYn c2 ?_;exact⟨lr rfl,lh0⟩
 refine fnT hTE hmx Tryz.func42 rfl rfl (ex:= []) ?_;conv=>whnf
 refine gYn h ?_;exact⟨lr rfl,lh0⟩
theorem q14(x:Iv)(ha:x.all=false)(h1:x.lo.m.length<9223372036854775808)(h2:x.hi.m.length<9223372036854775808):Fn 14 [] [.sl .iv [x],.sl .iv [x]] (.bool true) []:=by
 have h:=efG (g:=42) (P:=fun _ _=>true) [x] [x] OC OC fun y hy z hz=>by
  rw[qC]at hy hz;subst hy;subst hz;exact q42 _ ha h1 h2
 have h:Fn 23 [] [.sl .iv [x],.sl .iv [x],.fn 42 []] (.bool true) []:=h;refine fnT hTE hmx Tryz.func14 rfl rfl (ex:= []) ?_;conv=>whnf
 refine gYn h ?_;exact⟨lr rfl,lh0⟩
theorem q15(x:Iv)(ha:x.all=false)(h1:x.lo.m.length<9223372036854775808)(h2:x.hi.m.length<9223372036854775808):Fn 15 [] [.sl .vs [[x]],.sl .vs [[x]]] (.bool true) []:=by
 have h:=efR (g:=14) (P:=fun _ _=>true) [[x]] [[x]] OC OC fun y hy z hz=>by
  rw[qC]at hy hz;subst hy;subst hz;exact q14 _ ha h1 h2
 have h:Fn 25 [] [.sl .vs [[x]],.sl .vs [[x]],.fn 14 []] (.bool true) []:=h;refine fnT hTE hmx Tryz.func15 rfl rfl (ex:= []) ?_;conv=>whnf
 refine gYn h ?_;exact⟨lr rfl,lh0⟩
def fewB(t:Tp):Bool:=decide (t.ops.length<=60)&&decide (t.outs.length<=10)
theorem q6(t:Tp)(h1:t.ops.length<9223372036854775808)(h2:t.outs.length<9223372036854775808):Fn 6 [] [.agg (tpC t)] (.bool (fewB t)) []:=by
 refine fnT hTE hmx Tryz.func6 rfl rfl (ex:= []) ?_;conv=>whnf
 refine brI (fun h=>?_) (fun h=>?_)
 .conv=>whnf
  have h:t.ops.length<=60:=by have:=Z0 h;omega
  refine⟨ab0 ?_,lh0⟩;unfold fewB;rw[Z8 h,q3,qH,Z4,Z4];omega
 .conv=>whnf
  have h:¬t.ops.length<=60:=by have:=Z3 h;omega
  refine⟨ab0 ?_,lh0⟩;unfold fewB;rw[Z9 h,qB]
def lgD(d:Dy):Bool:=decide (20<d.m.length)||(decide (300<d.e)||decide (d.e< -300))
def zvg(x:Iv):Bool:=lgD x.lo||lgD x.hi
theorem q30(d:Dy)(hl:d.m.length<9223372036854775808):Fn 30 [] [.agg (dyC d)] (.bool (lgD d)) []:=by
 obtain⟨a,b,c⟩:=d;unfold lgD;simp only at hl⊢;refine fnT hTE hmx Tryz.func30 rfl rfl (ex:= []) ?_;conv=>whnf
 refine brI (fun h=>?_) (fun h=>?_)
 .conv=>whnf
  have h:20<b.length:=by have h:(b.length:Int)>20:=Z0 h;omega
  exact⟨ab0 (by rw[Z8 h,qJ]),lh0⟩
 have h:¬20<b.length:=by have h:¬(b.length:Int)>20:=Z3 h;omega
 rw[Z9 h,qI];conv=>whnf
 refine brI (fun h=>?_) (fun h=>?_)
 .conv=>whnf
  have h:300<c:=Z0 h;exact⟨ab0 (by rw[Z8 h,qJ]),lh0⟩
 have h:¬300<c:=Z3 h;rw[Z9 h,qI];conv=>whnf
 exact⟨lr rfl,lh0⟩
abbrev Hq9:Hp:= [(1000001,.cells [.fn 30 []])]
theorem ztk{h h':Hp}:leH h h' Hq9 Hq9:=lh1 (bc0 (lc (lr rfl) ln0)) lh0
theorem q32(x:Iv)(h1:x.lo.m.length<9223372036854775808)(h2:x.hi.m.length<9223372036854775808):Fn 32 Hq9 [.agg (ivC x),.ptr 1000001 0] (.bool (zvg x)) Hq9:=by
 have c1:=q30 x.lo h1;have c2:=q30 x.hi h2;unfold zvg;generalize lgD x.lo=a at*;generalize lgD x.hi=b at*;obtain⟨x1,x2,x3⟩:=x;cases a
 .refine fnT hTE hmx Tryz.func32 rfl rfl (ex:= []) ?_;conv=>whnf
  refine gYn c1 ?_;refine gYn c2 ?_;exact⟨lr rfl,ztk⟩
 .refine fnT hTE hmx Tryz.func32 rfl rfl (ex:= []) ?_;conv=>whnf
  refine gYn c1 ?_;exact⟨lr rfl,ztk⟩
theorem q61(l:List Iv)(hlen:l.length<9223372036854775808)(hr:∀y∈l,RI y):Fn 61 Hq9 [.sl .iv l,.fn 32 [.ptr 1000001 0]] (.int .i64 (ixP zvg l 0)) Hq9:=by
 refine fnT hTE hmx Tryz.func61 rfl rfl (ex:= []) ?_;conv=>whnf
 refine⟨Nat,fun i=>i<=l.length/\ixP zvg (l.drop i) i=ixP zvg l 0,fun i=> [(8,.int .i64 i)],fun _=> [],fun i=>l.length-i,0,⟨OC,rfl⟩,?_,fun i hi=>?_⟩
 .exact KZ0
 refine gYe ?_;obtain⟨hi1,hi2⟩:=hi;refine brI (fun h1=>?_) (fun h1=>?_)
 .conv=>whnf
  have hi:i<l.length:=by simp only[Z4]at h1;omega
  refine⟨⟨O,O⟩,fun(x:Iv)hx=>?_⟩;have hx:l[i]? =some x:=by simpa using hx
  have hm:=hr x (q0 hx);have hc:=q32 x hm.l1 hm.l2;rw[qh hx]at hi2;simp only[ixP]at hi2;conv=>whnf
  refine cbI [.cells [.fn 30 []]] (zvg x) hc (fun h2=>?_) (fun h2=>?_)
  .conv=>whnf
   rw[Z6 h2]at hi2;exact⟨ai0 hi2,ztk⟩
  .conv=>whnf
   rw[Z7 (by rw[h2];simp)]at hi2;refine⟨i+1,⟨O,hi2⟩,by show l.length-(i+1)<l.length-i;omega,?_⟩;exact KZ0
 .conv=>whnf
  have hi:¬i<l.length:=by simp only[Z5]at h1;omega
  rw[q1 O]at hi2;exact⟨ai0 hi2,ztk⟩
theorem q31l(l:List Iv)(hlen:l.length<9223372036854775808)(hr:∀y∈l,RI y):Fn 31 Hq9 [.sl .iv l,.fn 32 [.ptr 1000001 0]] (.bool (l.any zvg)) Hq9:=by
 refine fnT hTE hmx Tryz.func31 rfl rfl (ex:= []) ?_;conv=>whnf
 refine⟨[.cells [.fn 30 []]],_,q61 l hlen hr,?_⟩;conv=>whnf
 exact⟨ab0 (by rw[qH,Z4];exact zgt zvg l 0),ztk⟩
def shB(l:List Iv):Bool:=decide (l.length<=10)&& !l.any zvg
theorem q7(l:List Iv)(hlen:l.length<9223372036854775808)(hr:∀y∈l,RI y):Fn 7 [] [.sl .iv l] (.bool (shB l)) []:=by
 have h:=q31l l hlen hr;unfold shB;generalize l.any zvg=b at*;refine fnT hTE hmx Tryz.func7 rfl rfl (ex:= []) ?_;conv=>whnf
 refine brI (fun g=>?_) (fun g=>?_)
 .have g:l.length<=10:=by have:=Z0 g;omega
  rw[Z8 g,q3];conv=>whnf
  refine⟨[.cells [.fn 30 []]],_,h.sw [(3,1000001)] rfl,?_⟩;conv=>whnf
  exact⟨lr rfl,lh0⟩
 .have g:¬l.length<=10:=by have:=Z3 g;omega
  rw[Z9 g,qB];conv=>whnf
  exact⟨lr rfl,lh0⟩
theorem efGs{g:Nat}(a:List Iv)(ha:a.length<9223372036854775808)(hg:∀x∈a,Fn g [] [.agg (ivC x),.agg (ivC x)] (.bool true) []):
 Fn 23 [] [.sl .iv a,.sl .iv a,.fn g []] (.bool true) []:=by
 refine fnT hTE hmx Tryz.func23 rfl rfl (ex:= []) ?_;conv=>whnf
 refine brI (fun c=>absurd (show((a.length:Int) != (a.length:Int))=true from c) OC) (fun _=>?_);conv=>whnf
 refine⟨Nat,fun i=>i<=a.length,fun i=> [(17,.int .i64 i)],fun _=> [],fun i=>a.length-i,0,q4 _,?_,fun i hi=>?_⟩
 .exact KZ0
 have hi:i<=a.length:=hi;refine gYe ?_;refine brI (fun h1=>?_) (fun h1=>?_)
 .have hi:i<a.length:=by have:=Z0 h1;omega
  conv=>whnf
  refine⟨⟨O,O⟩,fun(x:Iv)hx=>?_⟩;have hx:a[i]? =some x:=by simpa using hx
  conv=>whnf
  refine⟨⟨O,O⟩,fun(y:Iv)hy=>?_⟩;obtain rfl:x=y:=by
   have hy:a[i]? =some y:=by simpa using hy
   rw[hx]at hy;exact Option.some.inj hy
  have hc:=hg x (q0 hx);conv=>whnf
  refine gYn hc ?_;refine⟨i+1,hi,by show a.length-(i+1)<a.length-i;omega,?_⟩;exact KZ0
 .conv=>whnf
  exact⟨lr rfl,lh0⟩
theorem efRs{g:Nat}(a:List (List Iv))(ha:a.length<9223372036854775808)(hg:∀x∈a,Fn g [] [.sl .iv x,.sl .iv x] (.bool true) []):
 Fn 25 [] [.sl .vs a,.sl .vs a,.fn g []] (.bool true) []:=by
 refine fnT hTE hmx Tryz.func25 rfl rfl (ex:= []) ?_;conv=>whnf
 refine brI (fun c=>absurd (show((a.length:Int) != (a.length:Int))=true from c) OC) (fun _=>?_);conv=>whnf
 refine⟨Nat,fun i=>i<=a.length,fun i=> [(17,.int .i64 i)],fun _=> [],fun i=>a.length-i,0,q4 _,?_,fun i hi=>?_⟩
 .exact KZ0
 have hi:i<=a.length:=hi;refine gYe ?_;refine brI (fun h1=>?_) (fun h1=>?_)
 .have hi:i<a.length:=by have:=Z0 h1;omega
  conv=>whnf
  refine⟨⟨O,O⟩,fun(x:List Iv)hx=>?_⟩;have hx:a[i]? =some x:=by simpa using hx
  conv=>whnf
  refine⟨⟨O,O⟩,fun(y:List Iv)hy=>?_⟩;obtain rfl:x=y:=by
   have hy:a[i]? =some y:=by simpa using hy
   rw[hx]at hy;exact Option.some.inj hy
  have hc:=hg x (q0 hx);conv=>whnf
  refine gYn hc ?_;refine⟨i+1,hi,by show a.length-(i+1)<a.length-i;omega,?_⟩;exact KZ0
 .conv=>whnf
  exact⟨lr rfl,lh0⟩
theorem q42s(x:Iv)(h:RI x):Fn 42 [] [.agg (ivC x),.agg (ivC x)] (.bool true) []:=by
 by_cases ha:x.all=true
 .obtain⟨a,b,c⟩:=x;obtain rfl:c=true:=ha;refine fnT hTE hmx Tryz.func42 rfl rfl (ex:= []) ?_;conv=>whnf
  exact⟨lr rfl,lh0⟩
 .exact q42 x (by simpa using ha) h.l1 h.l2
theorem q14s(a:List Iv)(ha:a.length<9223372036854775808)(hr:∀x∈a,RI x):Fn 14 [] [.sl .iv a,.sl .iv a] (.bool true) []:=by
 have h:=efGs (g:=42) a ha fun x hx=>q42s x (hr x hx)
 refine fnT hTE hmx Tryz.func14 rfl rfl (ex:= []) ?_;conv=>whnf
 refine gYn h ?_;exact⟨lr rfl,lh0⟩
theorem q15s(a:List (List Iv))(ha:a.length<9223372036854775808)(hr:∀r∈a,r.length<9223372036854775808/\∀x∈r,RI x):Fn 15 [] [.sl .vs a,.sl .vs a] (.bool true) []:=by
 have h:=efRs (g:=14) a ha fun x hx=>q14s x (hr x hx).1 (hr x hx).2
 refine fnT hTE hmx Tryz.func15 rfl rfl (ex:= []) ?_;conv=>whnf
 refine gYn h ?_;exact⟨lr rfl,lh0⟩
abbrev Hm9(m:Int):Hp:= [(1000006,.cells [.int .i64 m])]
theorem qaz{m:Int}{h h':Hp}:leH h h' (Hm9 m) (Hm9 m):=lh1 (bc0 (lc (lr rfl) ln0)) lh0
theorem q12(m:Int)(l:List Iv)(h:(l.length:Int)=m):Fn 12 (Hm9 m) [.sl .iv l,.ptr 1000006 0] (.bool false) (Hm9 m):=by
 refine fnT hTE hmx Tryz.func12 rfl rfl (ex:= []) ?_;conv=>whnf
 exact⟨ab0 (by simp[h]),qaz⟩
theorem q39(m:Int)(d:List (List Iv))(hlen:d.length<9223372036854775808)(hd:∀r∈d,(r.length:Int)=m):Fn 39 (Hm9 m) [.sl .vs d,.fn 12 [.ptr 1000006 0]] (.int .i64 (-1)) (Hm9 m):=by
 refine fnT hTE hmx Tryz.func39 rfl rfl (ex:= []) ?_;conv=>whnf
 refine⟨Nat,fun i=>i<=d.length,fun i=> [(8,.int .i64 i)],fun _=> [],fun i=>d.length-i,0,q4 _,?_,fun i hi=>?_⟩
 .exact KZ0
 have hi:i<=d.length:=hi;refine gYe ?_;refine brI (fun h1=>?_) (fun h1=>?_)
 .conv=>whnf
  have hi:i<d.length:=by have:=Z0 h1;omega
  refine⟨⟨O,O⟩,fun(x:List Iv)hx=>?_⟩;have hx:d[i]? =some x:=by simpa using hx
  have h12:=q12 m x (hd x (q0 hx));conv=>whnf
  refine⟨[.cells [.int .i64 m]],_,h12,?_⟩;conv=>whnf
  refine⟨i+1,O,by show d.length-(i+1)<d.length-i;omega,?_⟩;exact KZ0
 .conv=>whnf
  exact⟨lr rfl,qaz⟩
theorem q11(m:Int)(d:List (List Iv))(hlen:d.length<9223372036854775808)(hd:∀r∈d,(r.length:Int)=m):Fn 11 (Hm9 m) [.sl .vs d,.fn 12 [.ptr 1000006 0]] (.bool false) (Hm9 m):=by
 refine fnT hTE hmx Tryz.func11 rfl rfl (ex:= []) ?_;conv=>whnf
 refine⟨[.cells [.int .i64 m]],_,q39 m d hlen hd,?_⟩;conv=>whnf
 exact⟨lr rfl,qaz⟩
def meN(p:Int)(r x c:List Iv)(s:Iv):Nat->Iv
 |0=>s
 |i+1=>kp (meN p r x c s i) (ja (gI r i) (zes (gI x i) (gI c i) p) p) p
def meC(x:List Iv)(p:Int):List Iv:=x.map fun y=>qt (zyl y p)
def meE(p:Int)(v:List Iv)(d:List (List Iv))(x c at':List Iv)(k:Nat):Iv:=(meI (meN p ((d[k]?).getD []) x c (gI at' k) x.length) (gI v k)).1
def meL(t:Tp)(x:List Iv)(p:Int):List Iv:=(qE t.outs.length).map (meE p (gtV t x t.ins p) (gtD t x t.ins p) x (meC x p) (zq3 t (meC x p) p))
theorem zzd{x:Iv}(hx:RI x)(p:Int):VD (zyl x p):=by
 unfold zyl;split
 .exact qv
 rename_i h;have h:kB x=true:=(Decidable.not_not.1 h).1;have k:=(zw hx).1 h;split
 .exact k.lo
 split
 .exact k.lo
 split
 .exact zab _ _
 .exact k.lo
theorem zly{l:List Iv}{i:Nat}(h:i<l.length):l[i]? =some (gI l i):=by
 have:=wx (vs:=l) (k:=(i:Int)) O O;simpa using this
theorem qem{p:Int}{r x c:List Iv}{s:Iv}(h:RI s):∀i,RI (meN p r x c s i)
 |0=>h
 |i+1=>(zax _ _ _).ri
noncomputable def zy4:Code:=Tryz.f28.body.getD .skip
theorem q28b(t:Tp)(x:List Iv)(p:Int)(v:List Iv)(d:List (List Iv))(c at':List Iv)(hn:t.outs.length<=200)(hx:∀y∈x,RI y)(hxl:x.length<=8)(hv:∀y∈v,RI y)(hvl:v.length=t.outs.length)(hdl:d.length=t.outs.length)
 (hdr:∀r∈d,r.length=x.length/\∀y∈r,RI y) (hc:∀y∈c,RI y) (hcl:c.length=x.length) (ha:∀y∈at',RI y) (hal:at'.length=t.outs.length) (n:Nat) (hn2:n=7):
 SemOK Tryz.prog TQ Tryz.f28.results.toList [] (.sl .iv ((qE t.outs.length).map (meE p v d x c at'))) G0 (zh4 n zy4) ⟨[.any,.sl .iv x,.int .i64 p,.any,.any,.any,.any,.sl .iv v,.sl .vs d,.sl .iv c,.any,.any,.sl .iv at',.nilsl]++uo 89,[(3,.cells (tpC t)),(11,.free),(45,.dead),(100045,.free),(1500045,.free),(15,.free),(17,.free),(100,.free),(100100,.free),(1500100,.free)]++G0⟩:=by
 subst hn2;obtain⟨M,hM⟩:∃M,(qE t.outs.length).map (meE p v d x c at')=M:=⟨_,rfl⟩;have hMl:M.length=t.outs.length:=by rw[<-hM];simp
 have hMs:∀i,i<t.outs.length->M.take (i+1)=M.take i++ [meE p v d x c at' i]:=fun i h=>by
  rw[qF,<-hM,List.getElem?_map,List.getElem?_range h];rfl
 rw[hM];clear hM;refine ww hTQ hmx ?_;conv=>whnf
 refine⟨Nat,fun i=>i<=t.outs.length,fun i=> [(53,.int .i64 i),(13,.own 100)],fun i=> [(15,.free),(17,.free),(100,.buf 48 .iv (M.take i))],fun i=>t.outs.length-i,0,q4 _,?_,fun i hi=>?_⟩
 .exact KZ0
 have hi:i<=t.outs.length:=hi;refine gYe ?_;refine brI (fun c1=>?_) (fun c1=>?_)
 .have c1:i<t.outs.length:=by have:=Z0 c1;omega
  have hs:=hMs i c1;have g1:at'[i]? =some (gI at' i):=zly O;have g2:v[i]? =some (gI v i):=zly O;have r1:=ha _ (q0 g1);have r2:=hv _ (q0 g2);obtain⟨r,hr⟩:∃r,d[i]? =some r:=⟨_,List.getElem?_eq_getElem O⟩;obtain⟨hrl,hrr⟩:=hdr r (q0 hr);have eE:meE p v d x c at' i=(meI (meN p r x c (gI at' i) x.length) (gI v i)).1:=by unfold meE;rw[hr];rfl
  rw[eE]at hs;have rN:=fun j=>qem (p:=p) (r:=r) (x:=x) (c:=c) r1 j
  obtain⟨N,hN⟩:∃N:Nat->Iv,N=meN p r x c (gI at' i):=⟨_,rfl⟩;have N0:N 0=gI at' i:=by rw[hN];rfl
  have Ns:∀j,N (j+1)=kp (N j) (ja (gI r j) (zes (gI x j) (gI c j) p) p) p:=fun j=>by rw[hN];rfl
  rw[<-hN]at hs rN;rw[<-N0]at g1;have cm:=c140 (N x.length) (gI v i) (rN _) r2;generalize gI v i=vi at*;obtain⟨M1,hM1⟩:∃M1,M.take (i+1)=M1:=⟨_,rfl⟩;rw[hM1]at hs;have hl0:(M.take i).length <=200:=by rw[qG];omega
  generalize M.take i=M0 at*;clear hN r1 eE N0;conv=>whnf
  refine⟨⟨O,O⟩,fun(y:Iv)hy=>?_⟩;obtain rfl:N 0=y:=by
   have hy:at'[i]? =some y:=by simpa using hy
   rw[g1]at hy;exact Option.some.inj hy
  conv=>whnf
  refine⟨Nat,fun j=>j<=x.length,fun j=> [(62,.int .i64 j)],fun j=> [(15,.cells (ivC (N j)))],fun j=>x.length-j,0,q4 _,?_,fun j hj=>?_⟩
  .exact KZ0
  have hj:j<=x.length:=hj;refine gYe ?_;refine brI (fun c2=>?_) (fun c2=>?_)
  .have c2:j<x.length:=by have:=Z0 c2;omega
   have e1:x[j]? =some (gI x j):=zly c2;have e2:c[j]? =some (gI c j):=zly O;have e3:r[j]? =some (gI r j):=zly O;have k1:=hx _ (q0 e1);have k2:=hc _ (q0 e2);have k3:=hrr _ (q0 e3);have u1:=i83 (gI x j) (gI c j) k1 k2 p;have u3:=i82 (N j) _ (rN j) (zbd (gI r j) (zes (gI x j) (gI c j) p) p).ri p;have hN1:=Ns j;have u2:Fn 58 G0 [.agg (ivC (gI r j)),.agg (ivC (zes (gI x j) (gI c j) p)),.int .i64 p] (.agg (ivC (ja (gI r j) (zes (gI x j) (gI c j) p) p))) G0:=i84 (gI r j) _ k3 (zax (gI x j) (zbm (gI c j)) p).ri p;rw[<-hN1]at u3;clear hN1;generalize ja (gI r j) (zes (gI x j) (gI c j) p) p=B at*;generalize zes (gI x j) (gI c j) p=A at*;generalize gI x j=xj at*;generalize gI c j=cj at*;generalize gI r j=rj at*;obtain⟨N1,hN1⟩:∃N1,N (j+1)=N1:=⟨_,rfl⟩;rw[hN1]at u3;conv=>whnf
   refine⟨⟨O,O⟩,fun(r':List Iv)hr'=>?_⟩;obtain rfl:r=r':=by
    have hr':d[i]? =some r':=by simpa using hr'
    rw[hr]at hr';exact Option.some.inj hr'
   conv=>whnf
   refine⟨⟨O,O⟩,fun(y1:Iv)hy1=>?_⟩;obtain rfl:rj=y1:=by
    have hy1:r[j]? =some y1:=by simpa using hy1
    rw[e3]at hy1;exact Option.some.inj hy1
   conv=>whnf
   refine⟨⟨O,O⟩,fun(y2:Iv)hy2=>?_⟩;obtain rfl:xj=y2:=by
    have hy2:x[j]? =some y2:=by simpa using hy2
    rw[e1]at hy2;exact Option.some.inj hy2
   conv=>whnf
   refine⟨⟨O,O⟩,fun(y3:Iv)hy3=>?_⟩;obtain rfl:cj=y3:=by
    have hy3:c[j]? =some y3:=by simpa using hy3
    rw[e2]at hy3;exact Option.some.inj hy3
   conv=>whnf
   refine gYc u1 ?_;refine gYc u2 ?_;refine gYc u3 ?_;refine gYd ?_;refine⟨j+1,c2,by show x.length-(j+1)<x.length-j;omega,?_⟩
   ((conv=>whnf);refine And.intro ?_ ?_;repeat' first|refine lc ?_ ?_|refine lh1 ?_ ?_|refine bc0 ?_|exact KXZ|refine lg0 ?_|refine lt0 ?_)
   .exact ai0 (by rw[wI O];omega)
   all_goals (rw[hN1];exact lr rfl)
  .obtain rfl:j=x.length:=by have:=Z3 c2;omega
   generalize meI (N x.length) vi=Zq at*;obtain⟨Z1,Z2⟩:=Zq;conv=>whnf
   refine⟨⟨O,O⟩,fun(y:Iv)hy=>?_⟩;obtain rfl:vi=y:=by
    have hy:v[i]? =some y:=by simpa using hy
    rw[g2]at hy;exact Option.some.inj hy
   conv=>whnf
   refine gYn cm ?_;refine gYd ?_;refine⟨OE,?_⟩;conv=>whnf
   refine⟨i+1,c1,by show t.outs.length-(i+1)<t.outs.length-i;omega,?_⟩
   ((conv=>whnf);refine And.intro ?_ ?_;repeat' first|refine lc ?_ ?_|refine lh1 ?_ ?_|refine bc0 ?_|exact KXZ|refine lg0 ?_|refine lt0 ?_)
   .exact ai0 (by rw[wI O];omega)
   .exact bb0 (by rw[hM1,hs])
 .conv=>whnf
  have hi2:i=t.outs.length:=by have:=Z3 c1;omega
  subst hi2;exact⟨vp (qD O),leG⟩
theorem zyt{t:Tp}{x:List Iv}{m p:Int}(hx:∀y∈x,RI y):∀y∈gtV t x m p,RI y:=fun y hy=>by
 unfold gtV at hy;split at hy
 .rename_i h;unfold gtB fiB at h;simp only[q2,Z4]at h;obtain⟨_,hob,hout⟩:=wo h.1.1;rw[<-h.1.2.1]at hob hout;obtain⟨k,hk,rfl⟩:=qA.1 hy;have hr:=hout k hk;exact zeo hob hx _ (q0 (wx hr.1 (by rw[jx];omega)))
 .cases hy
theorem qfo{t:Tp}(ht:tvB t=true){vs:List Iv}(hv:∀y∈vs,RI y)(hl:(vs.length:Int)=t.ins+t.ops.length)(i p:Int):(∀y∈coS t vs i p,RI y)/\((coS t vs i p).length :Int)=t.ins+t.ops.length:=by
 obtain⟨⟨a1,_⟩,hob,_⟩:=wo ht;have cl:((coI t.ins.toNat i).length :Int)=t.ins:=by simp[coI];omega
 exact⟨zps hv (by rw[cl];exact hob) (zug _ _) O,by unfold coS;rw[ze6];omega⟩
theorem zyu{t:Tp}{x:List Iv}{m p:Int}(hx:∀y∈x,RI y):∀r∈gtD t x m p,r.length=m.toNat/\∀y∈r,RI y:=fun r hr=>by
 unfold gtD at hr;split at hr
 .rename_i h;unfold gtB fiB at h;simp only[q2,Z4]at h;obtain⟨_,hob,hout⟩:=wo h.1.1;rw[<-h.1.2.1]at hob;obtain⟨k,hk,rfl⟩:=qA.1 hr;have hr:=hout k hk;refine⟨by simp[gtC],fun y hy=>?_⟩;obtain⟨i,_,rfl⟩:=qA.1 hy;obtain⟨c1,c2⟩:=qfo h.1.1 (zeo hob hx (p:=p)) (by rw[jx];have:=h.1.2.1;omega) i p;exact c1 _ (q0 (wx hr.1 O))
 .cases hr
theorem qdz{t:Tp}(ht:tvB t=true){x:List Iv}{p:Int}(hx:∀y∈x,RI y):∀y∈zq3 t x p,RI y:=by
 obtain⟨_,a5,a6⟩:=wo ht;unfold zq3;split
 .rename_i h;intro y hy;obtain⟨k,hk,rfl⟩:=qA.1 hy;have hr:=a6 k hk;rw[<-h.2]at a5 hr;exact zeo a5 hx _ (q0 (wx hr.1 (by rw[jx];omega)))
 .intro y hy;cases hy
theorem q28(t:Tp)(x:List Iv)(p:Int)(hf:fiB t x p=true)(hx:∀y∈x,RI y):Fn 28 G0 [.agg (tpC t),.sl .iv x,.int .i64 p] (.sl .iv (meL t x p)) G0:=by
 have hf2:=hf;unfold fiB at hf2;simp only[q2,Z4]at hf2;obtain⟨ht,hl,_,_⟩:=hf2;obtain⟨⟨a1,a2,a3,a4⟩,_,_⟩:=wo ht;have h33:=q33 t x p O O hx O;rw[hf]at h33;have h8:=q8 t x t.ins p O O hx O;have hg:gtB t x t.ins p=true:=by
  unfold gtB;rw[hf,Z8 a1,Z8 (Int.le_refl _)];rfl
 have lv:(gtV t x t.ins p).length =t.outs.length:=by unfold gtV;rw[Z6 hg];simp
 have ld:(gtD t x t.ins p).length =t.outs.length:=by unfold gtD;rw[Z6 hg];simp
 have rv:=zyt (t:=t) (m:=t.ins) (p:=p) hx;have rd:=zyu (t:=t) (m:=t.ins) (p:=p) hx;have lcc:(meC x p).length =x.length:=by simp[meC]
 have rc:∀y∈meC x p,RI y:=fun y hy=>by
  obtain⟨z,hz,rfl⟩:=qA.1 hy;have v:=zzd (hx z hz) p;exact(show CI (qt (zyl z p))from .inr ⟨rfl,v,v⟩).ri
 have h56:=j8 t (meC x p) p O O rc O;have la:(zq3 t (meC x p) p).length =t.outs.length:=by unfold zq3;rw[Z6 ⟨ht,O⟩];simp
 have ra:=qdz ht (p:=p) rc;have rest:=q28b t x p _ _ _ _ a4 hx O rv lv ld (fun r hr=>⟨by rw[(rd r hr).1];omega,(rd r hr).2⟩) rc lcc ra la 7 rfl;have eL:(qE t.outs.length).map (meE p (gtV t x t.ins p) (gtD t x t.ins p) x (meC x p) (zq3 t (meC x p) p))=meL t x p:=rfl;rw[eL]at rest;have hMs:∀i y,x[i]? =some y->(meC x p).take (i+1)=(meC x p).take i++ [qt (zyl y p)]:=fun i y h=>by
  rw[qF];simp[meC,h]
 generalize gtV t x t.ins p=v at*;generalize gtD t x t.ins p=d at*;generalize zq3 t (meC x p) p=at' at*;generalize meL t x p=Zq at*;generalize meC x p=C at*;clear rv rd rc ra eL hg;refine qr (code:=zy4) hTQ hmx Tryz.func28 rfl rfl (ex:= []) ?_;conv=>whnf
 refine jm hTQ hmx 7 (fun _:Unit=>⟨[.any,.sl .iv x,.int .i64 p,.any,.any,.any,.any,.sl .iv v,.sl .vs d,.sl .iv C,.any,.any,.sl .iv at',.nilsl]++uo 89,[(3,.cells (tpC t)),(11,.free),(45,.dead),(100045,.free),(1500045,.free),(15,.free),(17,.free),(100,.free),(100100,.free),(1500100,.free)]++G0⟩) (fun _=>Z) ?_ (fun _=>rest);clear rest;conv=>whnf
 refine gYn h33 ?_;refine gYc h8 ?_;refine⟨Nat,fun i=>i<=x.length,fun i=> [(35,.int .i64 i),(9,.own 45)],fun i=> [(11,.free),(45,.buf 48 .iv (C.take i))],fun i=>x.length-i,0,q4 _,?_,fun i hi=>?_⟩
 .exact KZ0
 have hi:i<=x.length:=hi;refine gYe ?_;refine brI (fun c=>?_) (fun c=>?_)
 .have c:i<x.length:=by have:=Z0 c;omega
  have hl0:(C.take i).length <=8:=by rw[qG];omega
  obtain⟨M',hM'⟩:∃M',C.take (i+1)=M':=⟨_,rfl⟩;conv=>whnf
  refine⟨⟨O,O⟩,fun(y:Iv)hy=>?_⟩;have hy:x[i]? =some y:=by simpa using hy
  have ry:=hx y (q0 hy);have h55:=q55 y ry p;have h20:=zyr (zzd ry p);have hs:=hMs i y hy;rw[hM']at hs;generalize C.take i=M0 at*;generalize zyl y p=mm at*;conv=>whnf
  refine gYc h55 ?_;refine gYn h20 ?_;refine⟨OE,?_⟩;conv=>whnf
  refine⟨i+1,c,by show x.length-(i+1)<x.length-i;omega,?_⟩
  ((conv=>whnf);refine And.intro ?_ ?_;repeat' first|refine lc ?_ ?_|refine lh1 ?_ ?_|refine bc0 ?_|exact KXZ|refine lg0 ?_|refine lt0 ?_)
  .exact ai0 (by rw[wI O];omega)
  .exact bb0 (by rw[hM',hs])
 .have c:i=x.length:=by have:=Z3 c;omega
  subst c;have e:C.take x.length=C:=qD O;conv=>whnf
  rw[e];refine gYc h56 ?_;refine⟨(),?_⟩;exact KZ0
def tpX:Tp:=⟨1,[⟨8,0,0,2,⟨0,0⟩⟩,⟨4,1,0,0,⟨0,0⟩⟩],[2]⟩
def bxX:List Iv:= [⟨d0,wg 1,false⟩]
def j1X:Iv:=⟨wg (-1),wg 1,false⟩
def m1X:Iv:=⟨(ql (wg (-3)) (-2)).1,(ql (wg 1) (-2)).1,false⟩
theorem gtX:gtD tpX bxX 1 60= [[j1X]]:=Z
theorem meX:meL tpX bxX 60= [m1X]:=Z
theorem q5:Fn 5 G0 [] (.bool true) G0:=by
 have rb:∀y∈bxX,RI y:=fun y hy=>by
  rw[bxX,qC]at hy;subst hy;exact⟨qv.lb,(wu 1 O).lb,OA,OA⟩
 have h8:=q8 tpX bxX 1 60 OA OA rb OA;rw[gtX]at h8;have h28:=q28 tpX bxX 60 Z rb;rw[meX]at h28;have h15:=q15 j1X rfl OA OA;have h14:=q14 m1X rfl OA OA;have d1:=q27 1 O;have d2:=q27 (-1) O;have d3:=q29 (-3) O;have d4:=q29 1 O;generalize gtV tpX bxX 1 60=v at*;refine fnT hTQ hmx Tryz.func5 rfl rfl (ex:= []) ?_;conv=>whnf
 refine gYn d1 ?_;refine gYc h8 ?_;refine gYc h28 ?_;refine gYn d2 ?_;refine gYn d1 ?_;refine gYn h15 ?_;refine gYn d3 ?_;refine gYn d4 ?_;refine gYn h14 ?_;exact⟨lr rfl,leG⟩
theorem tr_le{t:Tp}(h:trB t=true):∀o∈t.ops,o.k<=8:=fun o ho=>by
 unfold trB at h;simp only[q2,Bool.not_eq_true']at h;have:=List.any_eq_false.1 h.2 o ho;unfold qe6 at this;simpa using this
theorem q3t(t:Tp)(x:List Iv)(m p:Int)(h1:t.ops.length<9223372036854775808)(h2:t.outs.length<9223372036854775808)(hx:∀y∈x,RI y)(hxl:x.length<9223372036854775808):
 Fn 3 G0 [.agg (tpC t),.sl .iv x,.int .i64 m,.int .i64 p] (.bool true) G0:=by
 have c6:=q6 t h1 h2;have c7:=q7 x hxl hx;have c8:=q8 t x m p h1 h2 hx hxl;have c9:=q9 t x p h1 h2 hx hxl;have c10:=f44 t h1 h2;by_cases hg:gtB t x m p=true
 rotate_left
 .have e1:gtV t x m p= []:=by unfold gtV;rw[Z7 hg]
  have e2:gtD t x m p= []:=by unfold gtD;rw[Z7 hg]
  rw[e1,e2]at c8;unfold gtB at hg;by_cases hf:fiB t x p=true
  rotate_left
  .rw[show fiB t x p=false by simpa using hf]at c9;refine fnT hTV hmx Tryz.func3 rfl rfl (ex:= []) ?_;conv=>whnf
   refine gYc q5 ?_;refine cbI [] _ c6 (fun _=>?_) (fun _=>?_)
   rotate_left
   .conv=>whnf
    exact⟨lr rfl,leG⟩
   conv=>whnf
   refine cbI [] _ c7 (fun _=>?_) (fun _=>?_)
   rotate_left
   .conv=>whnf
    exact⟨lr rfl,leG⟩
   conv=>whnf
   refine brI (fun _=>?_) (fun _=>?_)
   .conv=>whnf
    exact⟨lr rfl,leG⟩
   conv=>whnf
   refine gYc c8 ?_;refine gYn c9 ?_;exact⟨lr rfl,leG⟩
  .rw[hf]at c9 hg;have hm:m<0\/t.ins<m:=by
    simp only[q3,q2,Z4]at hg;omega
   refine fnT hTV hmx Tryz.func3 rfl rfl (ex:= []) ?_;conv=>whnf
   refine gYc q5 ?_;refine cbI [] _ c6 (fun _=>?_) (fun _=>?_)
   rotate_left
   .conv=>whnf
    exact⟨lr rfl,leG⟩
   conv=>whnf
   refine cbI [] _ c7 (fun _=>?_) (fun _=>?_)
   rotate_left
   .conv=>whnf
    exact⟨lr rfl,leG⟩
   conv=>whnf
   refine brI (fun _=>?_) (fun _=>?_)
   .conv=>whnf
    exact⟨lr rfl,leG⟩
   conv=>whnf
   refine gYc c8 ?_;refine gYn c9 ?_;refine brI (fun _=>?_) (fun c=>?_)
   .conv=>whnf
    exact⟨lr rfl,leG⟩
   have c:¬m<0:=Z3 c;conv=>whnf
   refine brI (fun _=>?_) (fun c=>absurd (show ¬m>t.ins from Z3 c) O);conv=>whnf
   exact⟨lr rfl,leG⟩
 have hg2:=hg;unfold gtB at hg2;simp only[q2,Z4]at hg2;obtain⟨hf,m0,m1⟩:=hg2;rw[hf]at c9;unfold fiB at hf;simp only[q2,Z4]at hf;obtain⟨ht,hl,hp,_⟩:=hf;obtain⟨⟨a1,a2,a3,a4⟩,hob,_⟩:=wo ht;obtain⟨M,rfl⟩:∃M:Nat,m=M:=⟨m.toNat,O⟩;have e1:gtV t x M p=t.outs.map (gI (yw p t.ops x)):=by unfold gtV;rw[Z6 hg]
 have e2:gtD t x M p=t.outs.map (gtC t (yw p t.ops x) M p):=by unfold gtD;rw[Z6 hg,Int.toNat_natCast]
 have l1:(gtV t x M p).length =t.outs.length:=by rw[e1];simp
 have l2:(gtD t x M p).length =t.outs.length:=by rw[e2];simp
 have rv:=zyt (t:=t) (m:=M) (p:=p) hx;have rd:=zyu (t:=t) (m:=M) (p:=p) hx;have c14:=q14s (gtV t x M p) O rv;have c15:=q15s (gtD t x M p) O fun r hr=>⟨by have:=(rd r hr).1;omega,(rd r hr).2⟩
 have c11:=q11 M (gtD t x M p) O fun r hr=>by have:=(rd r hr).1;omega
 by_cases htr:trB t=true
 .rw[htr]at c10;have c13:=q13 t ht (tr_le htr) x M p hp hx hl m1;rw[<-e1,<-e2]at c13;clear e1 e2 rv rd c11;generalize gtV t x M p=v at*;generalize gtD t x M p=d at*;refine fnT hTV hmx Tryz.func3 rfl rfl (ex:= []) ?_;conv=>whnf
  refine gYc q5 ?_;refine cbI [] _ c6 (fun _=>?_) (fun _=>?_)
  rotate_left
  .conv=>whnf
   exact⟨lr rfl,leG⟩
  conv=>whnf
  refine cbI [] _ c7 (fun _=>?_) (fun _=>?_)
  rotate_left
  .conv=>whnf
   exact⟨lr rfl,leG⟩
  conv=>whnf
  refine brI (fun _=>?_) (fun _=>?_)
  .conv=>whnf
   exact⟨lr rfl,leG⟩
  conv=>whnf
  refine gYc c8 ?_;refine gYn c9 ?_;refine brI (fun c=>absurd (show(M:Int)>t.ins from Z0 c) O) (fun _=>?_);conv=>whnf
  refine gYn c10 ?_;refine gYc c13 ?_;refine gYn c14 ?_;refine gYn c15 ?_;exact⟨lr rfl,leG⟩
 .rw[show trB t=false by simpa using htr]at c10;clear e1 e2 rv rd c14 c15;generalize gtV t x M p=v at*;generalize gtD t x M p=d at*;refine fnT hTV hmx Tryz.func3 rfl rfl (ex:= []) ?_;conv=>whnf
  refine gYc q5 ?_;refine cbI [] _ c6 (fun _=>?_) (fun _=>?_)
  rotate_left
  .conv=>whnf
   exact⟨lr rfl,leG⟩
  conv=>whnf
  refine cbI [] _ c7 (fun _=>?_) (fun _=>?_)
  rotate_left
  .conv=>whnf
   exact⟨lr rfl,leG⟩
  conv=>whnf
  refine brI (fun _=>?_) (fun _=>?_)
  .conv=>whnf
   exact⟨lr rfl,leG⟩
  conv=>whnf
  refine gYc c8 ?_;refine gYn c9 ?_;refine brI (fun c=>absurd (show(M:Int)>t.ins from Z0 c) O) (fun _=>?_);conv=>whnf
  refine gYn c10 ?_;refine brI (fun _=>?_) (fun c=>absurd (by rw[l1]:(v.length:Int)=t.outs.length) (by simpa using(show((v.length:Int)==(t.outs.length:Int))=false from c)));conv=>whnf
  refine brI (fun _=>?_) (fun c=>absurd (by rw[l2]:(d.length:Int)=t.outs.length) (by simpa using(show((d.length:Int)==(t.outs.length:Int))=false from c)));conv=>whnf
  refine⟨[.cells [.int .i64 M]],_,c11.sw [(6,1000006)] rfl,?_⟩;conv=>whnf
  exact⟨lr rfl,leG⟩
