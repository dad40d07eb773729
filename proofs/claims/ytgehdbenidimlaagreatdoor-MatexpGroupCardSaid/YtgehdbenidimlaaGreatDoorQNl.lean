/-
  Seat of round r6: matrix.Inside.
-/
import Derived.Test.YtgehdbenidimlaaGreatDoorQNk
import Derived.Test.YtgehdbenidimlaaGreatDoorQNg
import Derived.Test.YtgehdbenidimlaaGreatDoorQXa
import Derived.Test.YtgehdbenidimlaaGreatDoorQNc
import Derived.Test.YtgehdbenidimlaaGreatDoorQNi
set_option linter.unusedVariables false
set_option linter.unusedSimpArgs false
namespace Go.Proofs.YtgehdbenidimlaaGreatDoor
open Go Go.Sx
set_option maxRecDepth 100000
set_option maxHeartbeats 8000000
theorem n79 {x y:Iv} (vx:VI x) (vy:VI y) {b:Bool} (h:zu3 x y=b):Fn 79 [] [.agg (ivC x),.agg (ivC y)] (.bool b) []:=by
 rw[←h];exact x15 x y vx.ri vy.ri vx vy
theorem n52i {l m:List Iv} (hl:l.length=m.length) (hb:l.length<1000000) (h: ∀(i:Nat) (x y:Iv),l[i]? =some x->m[i]? =some y->VI x/\VI y/\zu3 x y=true):Fn 52 [] [.sl .iv l,.sl .iv m,.fn 79 []] (.bool true) []:=by
 have e:((l.length:Int) != (m.length:Int))=false:=by simp;omega
 refine fnT hTM hmx Tryz.func52 rfl rfl (ex:= []) ?_;conv=>whnf
 rw[e];conv=>whnf
 refine⟨Nat,fun i=>i<=l.length,fun i=> [(17,.int .i64 i)],fun i=> [(8,.free),(9,.free)],fun i=>l.length-i,0,Nat.zero_le _,?_,fun i hi=>?_⟩
 ·((conv=>whnf);refine And.intro ?_ ?_;repeat' first|refine lc ?_ ?_|exact la0|exact lr rfl|exact ln0|refine lh1 ?_ ?_|exact lh0|exact bf0|exact bd0|refine bc0 ?_|exact bm0 rfl|exact bb0 rfl|exact bg0 rfl|exact li0 rfl|refine lg0 ?_|refine lt0 ?_|fail)
 (refine⟨by kernel_rfl,?_⟩;(conv=>whnf))
 refine brI (fun c=>?_) (fun c=>?_)
 ·have c:i<l.length:=by have:=of_decide_eq_true c;omega
  conv=>whnf
  refine⟨⟨by omega,by omega⟩,fun(x:Iv) hx=>?_⟩;have hx:l[i]? =some x:=by simpa using hx
  conv=>whnf
  refine⟨⟨by omega,by omega⟩,fun(y:Iv) hy=>?_⟩;have hy:m[i]? =some y:=by simpa using hy
  obtain⟨a1,a2,a3⟩:=h i x y hx hy;conv=>whnf
  refine gZn (n79 a1 a2 a3) ?_;conv=>whnf
  refine⟨i+1,c,by show l.length-(i+1)<l.length-i;omega,?_⟩
  ((conv=>whnf);refine And.intro ?_ ?_;repeat' first|refine lc ?_ ?_|exact la0|exact lr rfl|exact ln0|refine lh1 ?_ ?_|exact lh0|exact bf0|exact bd0|refine bc0 ?_|exact bm0 rfl|exact bb0 rfl|exact bg0 rfl|exact li0 rfl|refine lg0 ?_|refine lt0 ?_|fail)
  exact ai0 (by rw[wI (by omega)];omega)
 ·conv=>whnf
  exact⟨lr rfl,lh0⟩
theorem n78 {l m:List Iv} (hl:l.length=m.length) (hb:l.length<1000000) (h: ∀(i:Nat) (x y:Iv),l[i]? =some x->m[i]? =some y->VI x/\VI y/\zu3 x y=true):Fn 78 [] [.sl .iv l,.sl .iv m] (.bool true) []:=by
 refine fnT hTM hmx Tryz.func78 rfl rfl (ex:= []) ?_;conv=>whnf
 refine gZn (n52i hl hb h) ?_;conv=>whnf
 exact⟨lr rfl,lh0⟩
theorem n69i {l m:Mx} (hl:l.length=m.length) (hb:l.length<1000000) (h: ∀(i:Nat) (x y:List Iv),l[i]? =some x->m[i]? =some y->x.length<1000000/\x.length=y.length/\ ∀(j:Nat) (u v:Iv),x[j]? =some u->y[j]? =some v->VI u/\VI v/\zu3 u v=true):Fn 69 [] [.sl .vs l,.sl .vs m,.fn 78 []] (.bool true) []:=by
 have e:((l.length:Int) != (m.length:Int))=false:=by simp;omega
 refine fnT hTM hmx Tryz.func69 rfl rfl (ex:= []) ?_;conv=>whnf
 rw[e];conv=>whnf
 refine⟨Nat,fun i=>i<=l.length,fun i=> [(17,.int .i64 i)],fun i=> [],fun i=>l.length-i,0,Nat.zero_le _,?_,fun i hi=>?_⟩
 ·((conv=>whnf);refine And.intro ?_ ?_;repeat' first|refine lc ?_ ?_|exact la0|exact lr rfl|exact ln0|refine lh1 ?_ ?_|exact lh0|exact bf0|exact bd0|refine bc0 ?_|exact bm0 rfl|exact bb0 rfl|exact bg0 rfl|exact li0 rfl|refine lg0 ?_|refine lt0 ?_|fail)
 (refine⟨by kernel_rfl,?_⟩;(conv=>whnf))
 refine brI (fun c=>?_) (fun c=>?_)
 ·have c:i<l.length:=by have:=of_decide_eq_true c;omega
  conv=>whnf
  refine⟨⟨by omega,by omega⟩,fun(x:List Iv) hx=>?_⟩;have hx:l[i]? =some x:=by simpa using hx
  conv=>whnf
  refine⟨⟨by omega,by omega⟩,fun(y:List Iv) hy=>?_⟩;have hy:m[i]? =some y:=by simpa using hy
  obtain⟨a1,a2,a3⟩:=h i x y hx hy;conv=>whnf
  refine gZn (n78 a2 a1 a3) ?_;conv=>whnf
  refine⟨i+1,c,by show l.length-(i+1)<l.length-i;omega,?_⟩
  ((conv=>whnf);refine And.intro ?_ ?_;repeat' first|refine lc ?_ ?_|exact la0|exact lr rfl|exact ln0|refine lh1 ?_ ?_|exact lh0|exact bf0|exact bd0|refine bc0 ?_|exact bm0 rfl|exact bb0 rfl|exact bg0 rfl|exact li0 rfl|refine lg0 ?_|refine lt0 ?_|fail)
  exact ai0 (by rw[wI (by omega)];omega)
 ·conv=>whnf
  exact⟨lr rfl,lh0⟩
theorem n36 {l m:Mx} (rl:RX l) (rm:RX m) (h8:l.length<=8/\ ∀r∈l,r.length<=8) (h:IsM l m):Fn 36 [] [.sl .vs l,.sl .vs m] (.bool true) []:=by
 have c1:=zeu rl h.vl;have c2:=zeu rm h.vm;have c3:=n69i h.len (by omega) (fun i x y hx hy=>⟨by have:=h8.2 x (List.mem_of_getElem? hx);omega,h.el i x y hx hy⟩);refine fnT hTM hmx Tryz.func36 rfl rfl (ex:= []) ?_;conv=>whnf
 refine gZn c1 ?_;conv=>whnf
 refine gZn c2 ?_;conv=>whnf
 refine gZn c3 ?_;conv=>whnf
 exact⟨lr rfl,lh0⟩
theorem n20z (l:List Iv) (hl:l.length<=100):Fn 20 [] [.sl .iv l,.int .u16 0] (.sl .iv (loL l)) []:=by
 refine fnT hTM hmx Tryz.func20 rfl rfl (ex:= []) ?_;conv=>whnf
 refine⟨Nat,fun i=>i<=l.length,fun i=> [(10,.int .i64 i),(5,.own 31)],fun i=> [(7,.free),(31,.buf 28 .iv ((loL l).take i))],fun i=>l.length-i,0,Nat.zero_le _,?_,fun i hi=>?_⟩
 ·((conv=>whnf);refine And.intro ?_ ?_;repeat' first|refine lc ?_ ?_|exact la0|exact lr rfl|exact ln0|refine lh1 ?_ ?_|exact lh0|exact bf0|exact bd0|refine bc0 ?_|exact bm0 rfl|exact bb0 rfl|exact bg0 rfl|exact li0 rfl|refine lg0 ?_|refine lt0 ?_|fail)
  ·exact trivial
  ·exact⟨rfl,rfl⟩
 (refine⟨by kernel_rfl,?_⟩;(conv=>whnf))
 refine brI (fun c=>?_) (fun c=>?_)
 ·have c:i<l.length:=by have:=of_decide_eq_true c;omega
  conv=>whnf
  refine⟨⟨by omega,by omega⟩,fun(x:Iv) hx=>?_⟩;have hx:l[i]? =some x:=by simpa using hx
  conv=>whnf
  refine⟨by omega,?_⟩;conv=>whnf
  have hxt:=zal (f:=fun x:Iv=>zk x.lo) hx;refine brI (fun h=>?_) (fun h=>?_)
  ·rw[Int.zero_fdiv]at h;exact absurd h (by decide)
  conv=>whnf
  refine gZn (n31 x.lo) ?_;conv=>whnf
  refine⟨by simp;omega,?_⟩;conv=>whnf
  refine⟨i+1,c,by show l.length-(i+1)<l.length-i;omega,?_⟩
  ((conv=>whnf);refine And.intro ?_ ?_;repeat' first|refine lc ?_ ?_|exact la0|exact lr rfl|exact ln0|refine lh1 ?_ ?_|exact lh0|exact bf0|exact bd0|refine bc0 ?_|exact bm0 rfl|exact bb0 rfl|exact bg0 rfl|exact li0 rfl|refine lg0 ?_|refine lt0 ?_|fail)
  ·exact ai0 (by rw[wI (by omega)];omega)
  ·exact bb0 hxt.symm
 ·have c:=of_decide_eq_false c;conv=>whnf
  exact⟨kq (by rw[List.take_of_length_le (by unfold loL;rw[List.length_map];omega)]),lh0⟩
theorem n23z (a:Mx) (hl:a.length<=100) (h8: ∀r∈a,r.length<=100):Fn 23 [] [.sl .vs a,.int .u16 0] (.sl .vs (loM a)) []:=by
 obtain⟨G,hG⟩: ∃G,loM a=G:=⟨_,rfl⟩;have hGl:G.length=a.length:=by rw[←hG];unfold loM;simp
 rw[hG];refine fnT hTM hmx Tryz.func23 rfl rfl (ex:= []) ?_;conv=>whnf
 refine⟨Nat,fun i=>i<=a.length,fun i=> [(10,.int .i64 i),(5,.own 19),(1,.int .u16 0)],fun i=> [(19,.buf 23 .vs (G.take i))],fun i=>a.length-i,0,Nat.zero_le _,?_,fun i hi=>?_⟩
 ·((conv=>whnf);refine And.intro ?_ ?_;repeat' first|refine lc ?_ ?_|exact la0|exact lr rfl|exact ln0|refine lh1 ?_ ?_|exact lh0|exact bf0|exact bd0|refine bc0 ?_|exact bm0 rfl|exact bb0 rfl|exact bg0 rfl|exact li0 rfl|refine lg0 ?_|refine lt0 ?_|fail)
  ·exact trivial
  ·exact⟨rfl,rfl⟩
 (refine⟨by kernel_rfl,?_⟩;(conv=>whnf))
 refine brI (fun c=>?_) (fun c=>?_)
 ·have c:i<a.length:=by have:=of_decide_eq_true c;omega
  conv=>whnf
  refine⟨⟨by omega,by omega⟩,fun(row:List Iv) hr=>?_⟩;have hr:a[i]? =some row:=by simpa using hr
  have hrl:=h8 row (List.mem_of_getElem? hr);have hGi:=zal (f:=loL) hr;have hGe:a.map loL=G:=hG;rw[hGe]at hGi;conv=>whnf
  refine gZn (n20z row hrl) ?_;conv=>whnf
  refine⟨by simp;omega,?_⟩;conv=>whnf
  refine⟨by decide,?_⟩;conv=>whnf
  refine⟨by decide,?_⟩;conv=>whnf
  refine⟨i+1,c,by show a.length-(i+1)<a.length-i;omega,?_⟩
  ((conv=>whnf);refine And.intro ?_ ?_;repeat' first|refine lc ?_ ?_|exact la0|exact lr rfl|exact ln0|refine lh1 ?_ ?_|exact lh0|exact bf0|exact bd0|refine bc0 ?_|exact bm0 rfl|exact bb0 rfl|exact bg0 rfl|exact li0 rfl|refine lg0 ?_|refine lt0 ?_|fail)
  ·exact ai0 (by rw[wI (by omega)];omega)
  ·exact bb0 hGi.symm
 ·have c:=of_decide_eq_false c;conv=>whnf
  exact⟨kq (by rw[List.take_of_length_le (by omega)]),lh0⟩
theorem n136 (e:Int) (he: -32768<=e/\e<=32768):Fn 136 [] [.int .i64 e] (.bool true) []:=by
 refine fnT hTM hmx Tryz.func136 rfl rfl (ex:= []) ?_;conv=>whnf
 refine brI (fun c=>?_) (fun c=>?_)
 ·conv=>whnf
  exact⟨ab0 (decide_eq_true he.2),lh0⟩
 ·exact absurd (of_decide_eq_false c) (by omega)
theorem n137 {d:Dy} (v:VD d):Fn 137 [] [.agg (dyC d)] (.tup [.agg (dyC d),.int .i64 0]) []:=by
 have h:=r174 d v.lb (by have:=v.len;omega);rw[(xg v.lb).2 v]at h;refine fnT hTM hmx Tryz.func137 rfl rfl (ex:= []) ?_;conv=>whnf
 refine gZn h ?_;conv=>whnf
 exact⟨lr rfl,lh0⟩
theorem n94 {neg:Bool} {m:List Int} {e:Int} (hb:LB m) (hl:m.length<=256) (he: -32768<=e/\e<=32768) (v:VD (cnN neg (val m) e)):Fn 94 [] [.bool neg,.sl .u32 m,.int .i64 e] (.tup [.agg (dyC (cnN neg (val m) e)),.int .i64 0]) []:=by
 have h1:=n136 e he;have h2:=qcf neg hb (by omega) e (by omega);have h3:=n137 v;generalize cnN neg (val m) e=D at*;refine fnT hTM hmx Tryz.func94 rfl rfl (ex:= []) ?_;conv=>whnf
 refine brI (fun c=>absurd (of_decide_eq_true c) (by omega)) (fun c=>?_);conv=>whnf
 refine gZn h1 ?_;conv=>whnf
 refine gZn h2 ?_;conv=>whnf
 refine gZn h3 ?_;conv=>whnf
 exact⟨lr rfl,lh0⟩
theorem n47 {x:Iv} (k:KI x):Fn 47 [] [.agg (ivC x),.int .i64 20] (.bool (nrB x)) []:=by
 have h1:=n94 (neg:=false) (m:= [1]) (e:=20) (fun y hy=>by simp at hy;subst hy;decide) (by decide) (by decide) (VD_c (n:=1) (by decide) (by decide));have h2:=r307 k;have v1:VD (cnN false (val [1]) 20):=VD_c (n:=1) (by decide) (by decide);have h3:=zvv (zuw k) v1;have e:nrB x=decide (qa (zcn x) (cnN false (val [1]) 20)<=0):=rfl;rw[e];generalize qa (zcn x) (cnN false (val [1]) 20)=c at*;generalize zcn x=M at*;generalize cnN false (val [1]) 20=D at*;clear v1 e k;refine fnT hTM hmx Tryz.func47 rfl rfl (ex:= []) ?_;conv=>whnf
 refine gZn h1 ?_;conv=>whnf
 refine gZn h2 ?_;conv=>whnf
 refine gZn h3 ?_
 (refine⟨by kernel_rfl,by kernel_rfl,?_⟩;(conv=>whnf))
 exact⟨lr rfl,lh0⟩
theorem n46 {x:Iv} (k:KI x):Fn 46 [] [.agg (ivC x)] (.bool (zba x)) []:=by
 have h1:=n47 k;have e:zba x=(decide (3<x.lo.m.length)||decide (3<x.hi.m.length)||decide (x.lo.e< -80)||decide (x.hi.e< -80)|| !nrB x):=rfl;rw[e];generalize nrB x=b at*;clear k e;obtain⟨⟨s,l,f⟩,⟨u,m,g⟩,al⟩:=x;simp only;refine fnT hTM hmx Tryz.func46 rfl rfl (ex:= []) ?_;conv=>whnf
 refine brI (fun c1=>?_) (fun c1=>?_)
 ·have c1:(l.length:Int)>3:=of_decide_eq_true c1;conv=>whnf
  exact⟨ab0 (by rw[decide_eq_true (show 3<l.length by omega)];rfl),lh0⟩
 have c1: ¬(l.length:Int)>3:=of_decide_eq_false c1;rw[decide_eq_false (show ¬3<l.length by omega)];conv=>whnf
 refine brI (fun c2=>?_) (fun c2=>?_)
 ·have c2:(m.length:Int)>3:=of_decide_eq_true c2;conv=>whnf
  exact⟨ab0 (by rw[decide_eq_true (show 3<m.length by omega)];rfl),lh0⟩
 have c2: ¬(m.length:Int)>3:=of_decide_eq_false c2;rw[decide_eq_false (show ¬3<m.length by omega)];conv=>whnf
 refine brI (fun c3=>?_) (fun c3=>?_)
 ·have c3:f< -80:=of_decide_eq_true c3;conv=>whnf
  exact⟨ab0 (by rw[decide_eq_true c3];rfl),lh0⟩
 have c3: ¬f< -80:=of_decide_eq_false c3;rw[decide_eq_false c3];conv=>whnf
 refine brI (fun c4=>?_) (fun c4=>?_)
 ·have c4:g< -80:=of_decide_eq_true c4;conv=>whnf
  exact⟨ab0 (by rw[decide_eq_true c4];rfl),lh0⟩
 have c4: ¬g< -80:=of_decide_eq_false c4;rw[decide_eq_false c4];conv=>whnf
 refine gZn h1 ?_;conv=>whnf
 exact⟨ab0 (by cases b<;>rfl),lh0⟩
abbrev Hsm:Hp:= [(1000003,.cells [.fn 46 []])]
theorem zwi {h h':Hp}:leH h h' Hsm Hsm:=lh1 (bc0 (lc (lr rfl) ln0)) lh0
theorem nsi (l:List Iv) (hl: ∀x∈l,KI x) (hlen:l.length<9223372036854775808):Fn 39 [] [.sl .iv l,.fn 46 []] (.int .i64 (ixP zba l 0)) []:=by
 refine fnT hTN hmx Tryz.func39 rfl rfl (ex:= []) ?_;conv=>whnf
 refine⟨Nat,fun i=>i<=l.length/\ixP zba (l.drop i) i=ixP zba l 0,fun i=> [(8,.int .i64 i)],fun _=> [],fun i=>l.length-i,0,⟨by simp,rfl⟩,?_,fun i hi=>?_⟩
 ·((conv=>whnf);refine And.intro ?_ ?_;repeat' first|refine lc ?_ ?_|exact la0|exact lr rfl|exact ln0|refine lh1 ?_ ?_|exact lh0|exact bf0|exact bd0|refine bc0 ?_|exact bm0 rfl|exact bg0 rfl|exact li0 rfl|refine lg0 ?_|refine lt0 ?_|fail)
 (refine⟨by kernel_rfl,?_⟩;(conv=>whnf))
 obtain⟨hi1,hi2⟩:=hi;refine brI (fun h1=>?_) (fun h1=>?_)
 ·conv=>whnf
  have hi:i<l.length:=by simp only[decide_eq_true_eq]at h1;omega
  refine⟨⟨by omega,by omega⟩,fun(x:Iv) hx=>?_⟩;have hx:l[i]? =some x:=by simpa using hx
  have hm:=List.mem_of_getElem? hx;rw[zq hx]at hi2;simp only[ixP]at hi2;conv=>whnf
  refine cbI [] (zba x) (n46 (hl x hm)) (fun h2=>?_) (fun h2=>?_)
  ·conv=>whnf
   rw[if_pos h2]at hi2;exact⟨ai0 hi2,lh0⟩
  ·conv=>whnf
   rw[if_neg (by rw[h2];simp)]at hi2;refine⟨i+1,⟨by omega,hi2⟩,by show l.length-(i+1)<l.length-i;omega,?_⟩
   ((conv=>whnf);refine And.intro ?_ ?_;repeat' first|refine lc ?_ ?_|exact la0|exact lr rfl|exact ln0|refine lh1 ?_ ?_|exact lh0|exact bf0|exact bd0|refine bc0 ?_|exact bm0 rfl|exact bg0 rfl|exact li0 rfl|refine lg0 ?_|refine lt0 ?_|fail)
   exact ai0 (by rw[wI (by omega)];omega)
 ·conv=>whnf
  have hi: ¬i<l.length:=by simp only[decide_eq_false_iff_not]at h1;omega
  rw[List.drop_of_length_le (by omega)]at hi2;exact⟨ai0 hi2,lh0⟩
theorem ns (l:List Iv) (hl: ∀x∈l,KI x) (hlen:l.length<9223372036854775808):Fn 11 [] [.sl .iv l,.fn 46 []] (.bool (l.any zba)) []:=by
 refine fnT hTN hmx Tryz.func11 rfl rfl (ex:= []) ?_;conv=>whnf
 refine gZn (nsi l hl hlen) ?_;conv=>whnf
 exact⟨ab0 (by rw[Bool.eq_iff_iff,decide_eq_true_eq];exact zbc zba l 0),lh0⟩
def rwL (r:List Iv):Bool:=r.any zba
theorem n48 (r:List Iv) (hr: ∀x∈r,KI x) (hl:r.length<9223372036854775808):Fn 48 Hsm [.sl .iv r,.ptr 1000003 0] (.bool (rwL r)) Hsm:=by
 have h:=ns r hr hl;unfold rwL;generalize r.any zba=b at*;refine fnT hTM hmx Tryz.func48 rfl rfl (ex:= []) ?_;conv=>whnf
 refine gZn h ?_;conv=>whnf
 exact⟨lr rfl,zwi⟩
theorem nti (l:List (List Iv)) (hl: ∀x∈l,(∀y∈x,KI y)/\x.length<9223372036854775808) (hlen:l.length<9223372036854775808):Fn 38 Hsm [.sl .vs l,.fn 48 [.ptr 1000003 0]] (.int .i64 (ixP rwL l 0)) Hsm:=by
 refine fnT hTN hmx Tryz.func38 rfl rfl (ex:= []) ?_;conv=>whnf
 refine⟨Nat,fun i=>i<=l.length/\ixP rwL (l.drop i) i=ixP rwL l 0,fun i=> [(8,.int .i64 i)],fun _=> [],fun i=>l.length-i,0,⟨by simp,rfl⟩,?_,fun i hi=>?_⟩
 ·((conv=>whnf);refine And.intro ?_ ?_;repeat' first|refine lc ?_ ?_|exact la0|exact lr rfl|exact ln0|refine lh1 ?_ ?_|exact lh0|exact bf0|exact bd0|refine bc0 ?_|exact bm0 rfl|exact bg0 rfl|exact li0 rfl|refine lg0 ?_|refine lt0 ?_|fail)
 (refine⟨by kernel_rfl,?_⟩;(conv=>whnf))
 obtain⟨hi1,hi2⟩:=hi;refine brI (fun h1=>?_) (fun h1=>?_)
 ·conv=>whnf
  have hi:i<l.length:=by simp only[decide_eq_true_eq]at h1;omega
  refine⟨⟨by omega,by omega⟩,fun(x:(List Iv)) hx=>?_⟩;have hx:l[i]? =some x:=by simpa using hx
  have hm:=List.mem_of_getElem? hx;rw[zq hx]at hi2;simp only[ixP]at hi2;conv=>whnf
  refine cbI [.cells [.fn 46 []]] (rwL x) (n48 x (hl x hm).1 (hl x hm).2) (fun h2=>?_) (fun h2=>?_)
  ·conv=>whnf
   rw[if_pos h2]at hi2;exact⟨ai0 hi2,zwi⟩
  ·conv=>whnf
   rw[if_neg (by rw[h2];simp)]at hi2;refine⟨i+1,⟨by omega,hi2⟩,by show l.length-(i+1)<l.length-i;omega,?_⟩
   ((conv=>whnf);refine And.intro ?_ ?_;repeat' first|refine lc ?_ ?_|exact la0|exact lr rfl|exact ln0|refine lh1 ?_ ?_|exact lh0|exact bf0|exact bd0|refine bc0 ?_|exact bm0 rfl|exact bg0 rfl|exact li0 rfl|refine lg0 ?_|refine lt0 ?_|fail)
   exact ai0 (by rw[wI (by omega)];omega)
 ·conv=>whnf
  have hi: ¬i<l.length:=by simp only[decide_eq_false_iff_not]at h1;omega
  rw[List.drop_of_length_le (by omega)]at hi2;exact⟨ai0 hi2,zwi⟩
theorem nt (l:List (List Iv)) (hl: ∀x∈l,(∀y∈x,KI y)/\x.length<9223372036854775808) (hlen:l.length<9223372036854775808):Fn 9 Hsm [.sl .vs l,.fn 48 [.ptr 1000003 0]] (.bool (l.any rwL)) Hsm:=by
 refine fnT hTN hmx Tryz.func9 rfl rfl (ex:= []) ?_;conv=>whnf
 refine⟨[.cells [.fn 46 []]],_,nti l hl hlen,?_⟩;conv=>whnf
 exact⟨ab0 (by rw[Bool.eq_iff_iff,decide_eq_true_eq];exact zbc rwL l 0),zwi⟩
theorem n50 {a:Mx} {n:Nat} (hn:n<=3) (va:VM n n a) (hk: ∀r∈a,∀x∈r,KI x/\zba x=false) {t:Iv} (kt:KI t) (ht:zba t=false):Fn 50 [] [.sl .vs a,.agg (ivC t)] (.agg (dyC (cnN false (szM a a.length*ze4 t) (-160)))) []:=by
 have hal:=va.len;have hm: ∀r∈a,r.length<=3/\ ∀x∈r,ze4 x<=2^100:=fun r hr=>⟨by rw[va.row r hr];exact hn,fun x hx=>(zdj (hk r hr x hx).1 (hk r hr x hx).2).2⟩
 have hsz: ∀i,szM a i<2^110:=fun i=>by have:=zq7 hm i;omega
 have hrs: ∀r∈a,∀j,j<=3->rwS r j<2^110:=fun r hr j hj=>by
  have h1:=zrv (hm r hr).2 j;have:j*2^100<=3*2^100:=Nat.mul_le_mul_right _ hj;omega
 have hv: ∀N:Nat,N<2^110->VD (cnN false N (-80)):=fun N h=>VD_c (by omega) (by decide)
 have htm:=(zdj kt ht).1;have htl:=(zdj kt ht).2;have cT:=r307 kt;rw[htm]at cT;have cP:=r301 (hv (szM a a.length) (hsz _)) (hv (ze4 t) (by omega));rw[prd_c]at cP;have cP:Fn 100 [] [.agg (dyC (cnN false (szM a a.length) (-80))),.agg (dyC (cnN false (ze4 t) (-80)))] (.agg (dyC (cnN false (szM a a.length*ze4 t) (-160)))) []:=cP;generalize cnN false (szM a a.length*ze4 t) (-160)=P at*;generalize cnN false (ze4 t) (-80)=T at*;clear htm htl kt ht;refine fnT hTM hmx Tryz.func50 rfl rfl (ex:= []) ?_;conv=>whnf
 refine⟨Nat,fun i=>i<=a.length,fun i=> [(6,.int .i64 i)],fun i=> [(5,.cells (dyC (cnN false (szM a i) (-80)))),(7,.free)],fun i=>a.length-i,0,Nat.zero_le _,?_,fun i hi=>?_⟩
 ·((conv=>whnf);refine And.intro ?_ ?_;repeat' first|refine lc ?_ ?_|exact la0|exact lr rfl|exact ln0|refine lh1 ?_ ?_|exact lh0|exact bf0|exact bd0|refine bc0 ?_|exact bm0 rfl|exact bb0 rfl|exact bg0 rfl|exact li0 rfl|refine lg0 ?_|refine lt0 ?_|fail)
 (refine⟨by kernel_rfl,?_⟩;(conv=>whnf))
 refine brI (fun c=>?_) (fun c=>?_)
 ·have c:i<a.length:=by have:=of_decide_eq_true c;omega
  obtain⟨row,hr⟩: ∃r,a[i]? =some r:=⟨_,List.getElem?_eq_getElem c⟩;have hrm:=List.mem_of_getElem? hr;have hrl:=va.row row hrm;have hS:=zzo hr;conv=>whnf
  refine⟨Nat,fun j=>j<=row.length,fun j=> [(8,.int .i64 j)],fun j=> [(7,.cells (dyC (cnN false (rwS row j) (-80))))],fun j=>row.length-j,0,Nat.zero_le _,?_,fun j hj=>?_⟩
  ·((conv=>whnf);refine And.intro ?_ ?_;repeat' first|refine lc ?_ ?_|exact la0|exact lr rfl|exact ln0|refine lh1 ?_ ?_|exact lh0|exact bf0|exact bd0|refine bc0 ?_|exact bm0 rfl|exact bb0 rfl|exact bg0 rfl|exact li0 rfl|refine lg0 ?_|refine lt0 ?_|fail)
  (refine⟨by kernel_rfl,?_⟩;(conv=>whnf))
  refine brI (fun c2=>?_) (fun c2=>?_)
  ·have c2:j<row.length:=by have:=of_decide_eq_true c2;omega
   conv=>whnf
   refine⟨⟨by omega,by omega⟩,fun(x:List Iv) hx=>?_⟩;obtain rfl:row=x:=by
    have hx:a[i]? =some x:=by simpa using hx
    rw[hr]at hx;exact Option.some.inj hx
   conv=>whnf
   refine⟨⟨by omega,by omega⟩,fun(y:Iv) hy=>?_⟩;have hy:row[j]? =some y:=by simpa using hy
   have hyk:=hk row hrm y (List.mem_of_getElem? hy);have c95:=r307 hyk.1;rw[(zdj hyk.1 hyk.2).1]at c95;have c98:=r253 (hv (rwS row j) (hrs row hrm j (by omega))) (hv (ze4 y) (by have:=(zdj hyk.1 hyk.2).2;omega));rw[sum_c,←qaa hy]at c98;conv=>whnf
   refine gZn c95 ?_;conv=>whnf
   refine gZn c98 ?_
   (refine⟨by kernel_rfl,by kernel_rfl,?_⟩;(conv=>whnf))
   refine⟨j+1,c2,by show row.length-(j+1)<row.length-j;omega,?_⟩
   ((conv=>whnf);refine And.intro ?_ ?_;repeat' first|refine lc ?_ ?_|exact la0|exact lr rfl|exact ln0|refine lh1 ?_ ?_|exact lh0|exact bf0|exact bd0|refine bc0 ?_|exact bm0 rfl|exact bb0 rfl|exact bg0 rfl|exact li0 rfl|refine lg0 ?_|refine lt0 ?_|fail)
   exact ai0 (by rw[wI (by omega)];omega)
  ·have c2:j=row.length:=by have:=of_decide_eq_false c2;omega
   subst c2;have c49:=zvv (hv (rwS row row.length) (hrs row hrm _ (by omega))) (hv (szM a i) (hsz i));have hcm:=cmp_c (n:=rwS row row.length) (m:=szM a i) (e:= -80);conv=>whnf
   refine gZn c49 ?_;conv=>whnf
   refine brI (fun c3=>?_) (fun c3=>?_)
   ·have c3:=hcm.1 (of_decide_eq_true c3);rw[show max (szM a i) (rwS row row.length)=rwS row row.length by omega]at hS;conv=>whnf
    rw[←hS];refine⟨i+1,c,by show a.length-(i+1)<a.length-i;omega,?_⟩
    ((conv=>whnf);refine And.intro ?_ ?_;repeat' first|refine lc ?_ ?_|exact la0|exact lr rfl|exact ln0|refine lh1 ?_ ?_|exact lh0|exact bf0|exact bd0|refine bc0 ?_|exact bm0 rfl|exact bb0 rfl|exact bg0 rfl|exact li0 rfl|refine lg0 ?_|refine lt0 ?_|fail)
    exact ai0 (by rw[wI (by omega)];omega)
   ·have c3: ¬szM a i<rwS row row.length:=fun h=>(of_decide_eq_false c3) (hcm.2 h)
    rw[show max (szM a i) (rwS row row.length)=szM a i by omega]at hS;conv=>whnf
    rw[←hS];refine⟨i+1,c,by show a.length-(i+1)<a.length-i;omega,?_⟩
    ((conv=>whnf);refine And.intro ?_ ?_;repeat' first|refine lc ?_ ?_|exact la0|exact lr rfl|exact ln0|refine lh1 ?_ ?_|exact lh0|exact bf0|exact bd0|refine bc0 ?_|exact bm0 rfl|exact bb0 rfl|exact bg0 rfl|exact li0 rfl|refine lg0 ?_|refine lt0 ?_|fail)
    exact ai0 (by rw[wI (by omega)];omega)
 ·have c:i=a.length:=by
   have hi:i<=a.length:=hi;have:=of_decide_eq_false c;omega
  subst c;conv=>whnf
  refine gZn cT ?_;conv=>whnf
  refine gZn cP ?_
  (refine⟨by kernel_rfl,by kernel_rfl,?_⟩;(conv=>whnf))
  exact⟨lr rfl,lh0⟩
theorem zy3 {a:Mx} (ha:RX a) {t:Iv} (ht:RI t) {p:Int} (h:zhh a t p=true): ∀r∈a,∀x∈r,KI x:=fun r hr x hx=>by
 obtain⟨n,va,_,_⟩:=zex ha ht h;refine(un (va.el r hr x hx)).1 ?_;unfold zhh at h;simp only[Bool.and_eq_true]at h;have h5:=h.2
 cases hb:x.all with
 |false=>rfl
 |true=>
  have:(a.any fun r=>r.any fun x=>x.all)=true:=List.any_eq_true.2 ⟨r,hr,List.any_eq_true.2 ⟨x,hx,hb⟩⟩;rw[this]at h5;cases h5
theorem bv_KI {l:List Iv} (hr: ∀x∈l,RI x) (h:bvB l=true):(l.length<=8)/\ ∀x∈l,KI x:=by
 unfold bvB at h;simp only[Bool.and_eq_true,decide_eq_true_eq]at h;obtain⟨h1,h2⟩:=h;refine⟨h1.2,fun x hx=>?_⟩;have hb:(x.all|| !viB x)=false:=by
  cases hb:(x.all|| !viB x)with
  |false=>rfl
  |true=>
   have:(l.any fun x=>x.all|| !viB x)=true:=List.any_eq_true.2 ⟨x,hx,hb⟩;rw[this]at h2;cases h2
 rw[Bool.or_eq_false_iff]at hb;exact(un ((wl (hr x hx)).1 (by simpa using hb.2))).1 hb.1
theorem n18 (a:Mx) (ha:RX a) (t:Iv) (ht:RI t) (ls:List (List Iv)) (hls: ∀l∈ls,(∀x∈l,RI x)/\l.length<1000000) (hlen:ls.length<9223372036854775808):Fn 18 [] [.sl .vs a,.agg (ivC t),.sl .vs ls] (.bool (zj9 a t ls)) []:=by
 have hal:=ha.len;by_cases h1:a.length<=3
 ·have c12:=n12 a ha t ht 24
  cases h2:zhh a t 24 with
  |false=>
   rw[h2]at c12;have e:zj9 a t ls=false:=by unfold zj9;rw[h2];simp
   rw[e];refine fnT hTM hmx Tryz.func18 rfl rfl (ex:= []) ?_;conv=>whnf
   refine brI (fun c=>absurd (of_decide_eq_true c) (by omega)) (fun c=>?_);conv=>whnf
   refine gZn c12 ?_;conv=>whnf
   exact⟨lr rfl,lh0⟩
  |true=>
  rw[h2]at c12;obtain⟨n,va,kt,_⟩:=zex ha ht h2;have hel:=zy3 ha ht h2;have c46:=n46 kt
  cases h3:zba t with
  |true=>
   rw[h3]at c46;have e:zj9 a t ls=false:=by unfold zj9;rw[h3];simp
   rw[e];refine fnT hTM hmx Tryz.func18 rfl rfl (ex:= []) ?_;conv=>whnf
   refine brI (fun c=>absurd (of_decide_eq_true c) (by omega)) (fun c=>?_);conv=>whnf
   refine gZn c12 ?_;conv=>whnf
   refine gZn c46 ?_;conv=>whnf
   exact⟨lr rfl,lh0⟩
  |false=>
  rw[h3]at c46;have c9:Fn 9 Hsm [.sl .vs a,.fn 48 [.ptr 1000003 0]] (.bool (a.any fun r=>r.any zba)) Hsm:=nt a (fun r hr=>⟨hel r hr,by rw[va.row r hr,←va.len];omega⟩) hal
  cases h4:a.any fun r=>r.any zba with
  |true=>
   rw[h4]at c9;have e:zj9 a t ls=false:=by unfold zj9;rw[h4];simp
   rw[e];refine fnT hTM hmx Tryz.func18 rfl rfl (ex:= []) ?_;conv=>whnf
   refine brI (fun c=>absurd (of_decide_eq_true c) (by omega)) (fun c=>?_);conv=>whnf
   refine gZn c12 ?_;conv=>whnf
   refine gZn c46 ?_;conv=>whnf
   refine⟨[.cells [.fn 46 []]],_,c9.sw [(7,1000003)] rfl,?_⟩;conv=>whnf
   exact⟨lr rfl,lh0⟩
  |false=>
  rw[h4]at c9;have hla: ∀r∈a,∀x∈r,zba x=false:=fun r hr x hx=>by
   cases hb:zba x with
   |false=>rfl
   |true=>
    have:(a.any fun r=>r.any zba)=true:=List.any_eq_true.2 ⟨r,hr,List.any_eq_true.2 ⟨x,hx,hb⟩⟩;rw[h4]at this;cases this
  have c50:=n50 (n:=n) (by rw[←va.len];exact h1) va (fun r hr x hx=>⟨hel r hr x hx,hla r hr x hx⟩) kt h3;have hm: ∀r∈a,r.length<=3/\ ∀x∈r,ze4 x<=2^100:=fun r hr=>⟨by rw[va.row r hr,←va.len];exact h1,fun x hx=>(zdj (hel r hr x hx) (hla r hr x hx)).2⟩
  have vP:VD (cnN false (szM a a.length*ze4 t) (-160)):=VD_c (by
   have h5:=zq7 hm a.length;have h6:=(zdj kt h3).2;have h7:=Nat.mul_le_mul h5 h6;omega) (by decide)
  have c51:=r262 16 (by decide);have c49:=zvv vP (zis 16 (by decide));have e:zj9 a t ls=(ls.all (fun l=>bvB l&&(decide (l.length=a.length)&& !(l.any zba)))&&decide (qa (cnN false (szM a a.length*ze4 t) (-160)) (zb4 16)<=0)):=by
   unfold zj9;rw[h2,h3,h4,decide_eq_true h1];rfl
  rw[e];generalize qa (cnN false (szM a a.length*ze4 t) (-160)) (zb4 16)=C at*;generalize cnN false (szM a a.length*ze4 t) (-160)=Q at*;generalize zb4 16=D at*;generalize hP:(fun l:List Iv=>bvB l&&(decide (l.length=a.length)&& !(l.any zba)))=P at*;have hP': ∀l,P l=(bvB l&&(decide (l.length=a.length)&& !(l.any zba))):=fun l=>by rw[←hP]
  clear hP e vP hm hla;refine fnT hTM hmx Tryz.func18 rfl rfl (ex:= []) ?_;conv=>whnf
  refine brI (fun c=>absurd (of_decide_eq_true c) (by omega)) (fun c=>?_);conv=>whnf
  refine gZn c12 ?_;conv=>whnf
  refine gZn c46 ?_;conv=>whnf
  refine⟨[.cells [.fn 46 []]],_,c9.sw [(7,1000003)] rfl,?_⟩;conv=>whnf
  refine⟨Nat,fun i=>i<=ls.length/\ls.all P=(ls.drop i).all P,fun i=> [(29,.int .i64 i)],fun i=> [],fun i=>ls.length-i,0,⟨Nat.zero_le _,rfl⟩,?_,fun i hi=>?_⟩
  ·((conv=>whnf);refine And.intro ?_ ?_;repeat' first|refine lc ?_ ?_|exact la0|exact lr rfl|exact ln0|refine lh1 ?_ ?_|exact lh0|exact bf0|exact bd0|refine bc0 ?_|exact bm0 rfl|exact bb0 rfl|exact bg0 rfl|exact li0 rfl|refine lg0 ?_|refine lt0 ?_|fail)
  obtain⟨hi,he⟩:=hi
  (refine⟨by kernel_rfl,?_⟩;(conv=>whnf))
  refine brI (fun d=>?_) (fun d=>?_)
  ·have d:i<ls.length:=by have:=of_decide_eq_true d;omega
   conv=>whnf
   refine⟨⟨by omega,by omega⟩,fun(l:List Iv) hl=>?_⟩;have hl:ls[i]? =some l:=by simpa using hl
   obtain⟨g1,g2⟩:=hls l (List.mem_of_getElem? hl);have c17:=n17 l g1 g2;rw[zq hl,List.all_cons,hP']at he;conv=>whnf
   cases k1:bvB l with
   |false=>
    rw[k1]at c17 he;refine gZn c17 ?_;conv=>whnf
    exact⟨ab0 (by rw[he];rfl),lh0⟩
   |true=>
   rw[k1]at c17 he;refine gZn c17 ?_;conv=>whnf
   obtain⟨g3,g4⟩:=bv_KI g1 k1;have c11:=ns l g4 (by omega);refine brI (fun k2=>?_) (fun k2=>?_)
   ·have k2:l.length≠a.length:=by
     have k2:((l.length:Int) != (a.length:Int))=true:=k2;simp at k2;omega
    rw[decide_eq_false k2]at he;conv=>whnf
    exact⟨ab0 (by rw[he];rfl),lh0⟩
   have k2:l.length=a.length:=by
    have k2:((l.length:Int) != (a.length:Int))=false:=k2;simp at k2;omega
   rw[decide_eq_true k2]at he;conv=>whnf
   cases k3:l.any zba with
   |true=>
    rw[k3]at c11 he;refine gZn c11 ?_;conv=>whnf
    exact⟨ab0 (by rw[he];rfl),lh0⟩
   |false=>
   rw[k3]at c11 he;refine gZn c11 ?_;conv=>whnf
   refine⟨i+1,⟨d,by rw[he];rfl⟩,by show ls.length-(i+1)<ls.length-i;omega,?_⟩
   ((conv=>whnf);refine And.intro ?_ ?_;repeat' first|refine lc ?_ ?_|exact la0|exact lr rfl|exact ln0|refine lh1 ?_ ?_|exact lh0|exact bf0|exact bd0|refine bc0 ?_|exact bm0 rfl|exact bb0 rfl|exact bg0 rfl|exact li0 rfl|refine lg0 ?_|refine lt0 ?_|fail)
   exact ai0 (by rw[wI (by omega)];omega)
  ·have d:=of_decide_eq_false d;rw[List.drop_of_length_le (by omega)]at he;conv=>whnf
   refine gZn c50 ?_;conv=>whnf
   refine gZn c51 ?_;conv=>whnf
   refine gZn c49 ?_;conv=>whnf
   exact⟨ab0 (by rw[he];rfl),lh0⟩
 ·have e:zj9 a t ls=false:=by unfold zj9;rw[decide_eq_false h1];rfl
  rw[e];refine fnT hTM hmx Tryz.func18 rfl rfl (ex:= []) ?_;conv=>whnf
  refine brI (fun c=>?_) (fun c=>absurd (of_decide_eq_false c) (by omega));conv=>whnf
  exact⟨lr rfl,lh0⟩
theorem qf4 {ρ:Env} {k:Elt} {v:Value} (h:R ρ .nilsl v):R ρ (.sl k []) v:=by
 obtain rfl:v= .slice none 0 0:=h;exact .sl k [] none 0 0 0 0 rfl (Nat.le_refl _) (by decide) (fun h=>absurd rfl h) (fun i x h=>by simp at h)
theorem qd2 {a:Mx} (ha:RX a) {t:Iv} (ht:RI t) {b:Bool} (h:zj9 a t []=b):Fn 18 [] [.sl .vs a,.agg (ivC t),.nilsl] (.bool b) []:=by
 rw[←h];have c:=n18 a ha t ht [] (by simp) (by decide);exact⟨c.1,fun w M pt ow S vs hc hk hv=>c.2 w M pt ow S vs hc hk (match vs,hv with
  | _::_::_::_,⟨h1,h2,h3,h4⟩=>⟨h1,h2,qf4 h3,h4⟩)⟩
theorem lo_cr {k:Nat} {a:Mx} (va:VM (k+1) (k+1) a):crM k a (loM a):=by
 refine⟨zsx va (f:=fun x=>zk x.lo) (fun x hx=> .inl (zbn ?_)),fun i j hi hj=>⟨(atM a i j).lo,.inl rfl,zun va (f:=fun x=>zk x.lo) (by omega) (by omega)⟩⟩;rcases hx with h|rfl
 ·exact h.lo
 ·exact qc
theorem qfo {k:Nat} {a m:Mx} (h:crM k a m) {t:Iv} (kt:KI t) {p:Int} (hp:pcB p=true):zhh m t p=true:=by
 unfold zhh;rw[h.v.ok,(qn kt.ri).2 kt,hp,h.v.hd,h.v.len];have:(m.any fun r=>r.any fun x=>x.all)=false:=by
  cases hb:m.any fun r=>r.any fun x=>x.all with
  |false=>rfl
  |true=>
   obtain⟨r,hr,h1⟩:=List.any_eq_true.1 hb;obtain⟨x,hx,h2⟩:=List.any_eq_true.1 h1;obtain⟨i,j,hi,hj,e⟩:=zy6 h.v hr hx;obtain⟨d,_,e2⟩:=h.c i j (by omega) (by omega);rw[←e,e2]at h2;cases h2
 rw[this];simp
theorem zlu {k:Nat} {a m:Mx} (h:crM k a m) {t:Iv} (kt:KI t) {p:Int} (hp:pcB p=true):zqp m t p=(zcs m t p).elim ([],13) (fun x=>(x.exp,0))/\zye m t p=(zcs m t p).elim ([],13) (fun x=>(x.phi,0)):=by
 have hc:=qfo h kt hp;refine⟨?_,?_⟩
 ·unfold zqp;rw[if_pos hc];cases zcs m t p<;>rfl
 ·unfold zye;rw[if_pos hc];cases zcs m t p<;>rfl
theorem qdz {d:Dy} (v:VD d):zcl (zk d)=zk (uk d):=by
 unfold zcl;rw[if_pos ((qn (zbn v).ri).2 (zbn v))];rfl
theorem neg_e {d:Dy} {c:Int} (h:c<=d.e) (h0:c<=0):c<=(uk d).e :=by
 unfold uk;split
 ·exact h0
 ·exact h
theorem zsf (d:Dy):inI (dv d) (zk d):= .inr ⟨Rat.le_refl,Rat.le_refl⟩
theorem n6s (a:Mx) (ha:RX a) (s t:Iv) (hs:RI s) (ht:RI t) {P:Int} (hP:0<=P/\P<=255) (e1:zj9 a s []=true) (e2:zj9 a t []=true):
 Fn 6 G0 [.sl .vs a,.agg (ivC s),.agg (ivC t),.int .u8 P] (.bool true) G0:=by
 obtain⟨sm1,_⟩:=qdh e1;obtain⟨sm2,_⟩:=qdh e2;obtain⟨n,va,ks,_⟩:=zex ha hs sm1.cas;obtain⟨_,_,kt,_⟩:=zex ha ht sm2.cas;have hel:=zy3 ha hs sm1.cas;have hn:n<=3:=by rw[←va.len];exact sm1.n3
 obtain⟨k,rfl⟩: ∃k,n=k+1:=⟨n-1,by have:=va.n1;omega⟩;have hk:k<=2:=by omega
 have hp:pcB (24+P % 41)=true:=by unfold pcB;simp;omega
 have c18s:=qd2 ha hs e1;have c18t:=qd2 ha ht e2;have c19:=n19 P hP;have hal:=va.len;have c23:=n23z a (by omega) (fun r hr=>by rw[va.row r hr];omega);have hcr:=lo_cr va;generalize 24+P % 41=p at*;have gs:=zjl ks;have gt:=zjl kt;have ls:=zs3 sm1.lt;have lt:=zs3 sm2.lt;have KS:=zbn ks.lo;have KT:=zbn kt.lo;have KB:=zbn (zcd kt.lo);have ms:=zso ls.2.2.2.2;have mt:=zso lt.2.2.2.2;obtain⟨x,hx⟩:=zrm hk va sm1 ks hel hcr ks.lo ⟨gs.2.1,gs.2.2.1⟩ ls.2.2.1 hp;obtain⟨y,hy⟩:=zrm hk va sm2 kt hel hcr kt.lo ⟨gt.2.1,gt.2.2.1⟩ lt.2.2.1 hp;obtain⟨b,hb⟩:=zrm hk va sm2 kt hel hcr (zcd kt.lo) (by rw[zbh];exact⟨by have:=gt.2.2.1;grind,by have:=gt.2.1;grind⟩) (neg_e lt.2.2.1 (by decide)) hp;have kU:kI (pw 21) (yy (zk s.lo) (zk t.lo) 400):=by
  refine zla (B:=pw 20) (C:=pw 20) ⟨KS,?_,?_⟩ ⟨KT,?_,?_⟩ (by rw[zks];exact Rat.le_refl) (by decide) (pwF (by decide) (by decide))
  ·show-pw 20<=dv s.lo;have:=gs.2.1;grind
  ·show dv s.lo<=pw 20;have:=gs.2.2.1;grind
  ·show-pw 20<=dv t.lo;have:=gt.2.1;grind
  ·show dv t.lo<=pw 20;have:=gt.2.2.1;grind
 have iU:inI (dv s.lo+dv t.lo) (yy (zk s.lo) (zk t.lo) 400):=zmb (.inl KS) (.inl KT) (by decide) (zsf _) (zsf _);have hG:=ztn hk (qfi hcr) KS KT kU.k KB (zsf s.lo) (zsf t.lo) iU (by rw[←zbh];exact zsf _) hp hx hy hb;obtain⟨v1,v2⟩:=zl7 hcr.v KS hp hx;obtain⟨v3,v4⟩:=zl7 hcr.v KT hp hy;obtain⟨v5,v6⟩:=zl7 hcr.v KB hp hb;have c31s:=n31 s.lo;have c31t:=n31 t.lo;have c29:Fn 29 G0 [.agg (ivC (zk s.lo)),.agg (ivC (zk t.lo)),.int .i64 400] (.agg (ivC (yy (zk s.lo) (zk t.lo) 400))) G0:=i82 _ _ KS.ri KT.ri 400;have c32:Fn 32 [] [.agg (ivC (zk t.lo))] (.agg (ivC (zcl (zk t.lo)))) []:=i86 _ KT.ri;rw[qdz kt.lo]at c32;have c14s:=n14 (loM a) hcr.v.rx (zk s.lo) KS.ri p;have c14t:=n14 (loM a) hcr.v.rx (zk t.lo) KT.ri p;have c14u:=n14 (loM a) hcr.v.rx (yy (zk s.lo) (zk t.lo) 400) kU.k.ri p;have c14b:=n14 (loM a) hcr.v.rx (zk (uk t.lo)) KB.ri p;have c15t:=n15 (loM a) hcr.v.rx (zk t.lo) KT.ri p;rw[(zlu hcr KS hp).1,hx]at c14s;rw[(zlu hcr KT hp).1,hy]at c14t;rw[(zlu hcr kU.k hp).1]at c14u;rw[(zlu hcr KB hp).1,hb]at c14b;rw[(zlu hcr KT hp).2,hy]at c15t;have c14s:Fn 14 G0 [.sl .vs (loM a),.agg (ivC (zk s.lo)),.int .i64 p] (.tup [.sl .vs x.exp,.int .i64 0]) G0:=c14s;have c14t:Fn 14 G0 [.sl .vs (loM a),.agg (ivC (zk t.lo)),.int .i64 p] (.tup [.sl .vs y.exp,.int .i64 0]) G0:=c14t;have c14b:Fn 14 G0 [.sl .vs (loM a),.agg (ivC (zk (uk t.lo))),.int .i64 p] (.tup [.sl .vs b.exp,.int .i64 0]) G0:=c14b;have c15t:Fn 15 G0 [.sl .vs (loM a),.agg (ivC (zk t.lo)),.int .i64 p] (.tup [.sl .vs y.phi,.int .i64 0]) G0:=c15t;obtain⟨q1,w1⟩:=zea v1 v3 hp;obtain⟨q2,w2⟩:=zea v3 v5 hp;obtain⟨q3,w3⟩:=zea hcr.v v4 hp;have c33p:=n33 x.exp y.exp v1.rx v3.rx p;have c33u:=n33 y.exp b.exp v3.rx v5.rx p;have c33r:=n33 (loM a) y.phi hcr.v.rx v4.rx p;rw[q1]at c33p;rw[q2]at c33u;rw[q3]at c33r;have vi:=zle (n:=k+1) (by omega);have c35:=n35 (k+1) (by omega);rw[show(((k+1:Nat)):Int)=(a.length:Int) by omega]at c35;have c34:=n34 w3 vi hp;obtain⟨g1,g2,g3⟩:=hG
 have c36:=n36 vi.rx w2.rx ⟨by rw[vi.len];omega,fun r hr=>by rw[vi.row r hr];omega⟩ g2;have c30r:=n30 g3;have c30p:=fun z hz=>n30 (g1 z hz)
 generalize (muM x.exp y.exp p).1=M1 at*;generalize (muM y.exp b.exp p).1=M2 at*;generalize (muM (loM a) y.phi p).1=M3 at*;generalize (adM M3 (idM (k+1)) p).1=M4 at*;generalize idM (k+1)=I at*;generalize yy (zk s.lo) (zk t.lo) 400=U at*;generalize zk (uk t.lo)=B at*;generalize zk s.lo=S at*;generalize zk t.lo=T at*;generalize zcs (loM a) U p=Z at*;generalize loM a=m at*;clear hx hy hb v1 v2 v3 v4 v5 v6 w1 w2 w3 vi g1 g2 g3 q1 q2 q3 kU iU hcr KS KT KB gs gt ls lt ms mt sm1 sm2 hel;obtain⟨xe,xp⟩:=x;obtain⟨ye,yp⟩:=y;obtain⟨be,bp⟩:=b;simp only at*
 cases Z with
 |none=>
  have c14u:Fn 14 G0 [.sl .vs m,.agg (ivC U),.int .i64 p] (.tup [.sl .vs [],.int .i64 13]) G0:=c14u;refine fnT hTM hmx Tryz.func6 rfl rfl (ex:= []) ?_;conv=>whnf
  refine gZc n8 ?_;conv=>whnf
  refine gZn c18s ?_;conv=>whnf
  refine gZn c18t ?_;conv=>whnf
  refine gZn c19 ?_;conv=>whnf
  refine gZn c23 ?_;conv=>whnf
  refine gZn c31s ?_;conv=>whnf
  refine gZn c31t ?_;conv=>whnf
  refine gZc c29 ?_
  (refine⟨by kernel_rfl,by kernel_rfl,?_⟩;(conv=>whnf))
  refine gZn c31s ?_;conv=>whnf
  refine gZc c14s ?_;conv=>whnf
  refine gZn c31t ?_;conv=>whnf
  refine gZc c14t ?_;conv=>whnf
  refine gZc c14u ?_;conv=>whnf
  refine gZn c31t ?_;conv=>whnf
  refine gZn c32 ?_;conv=>whnf
  refine gZc c14b ?_;conv=>whnf
  refine gZn c31t ?_;conv=>whnf
  refine gZc c15t ?_;conv=>whnf
  refine gZc c33p ?_;conv=>whnf
  refine gZc c33u ?_;conv=>whnf
  refine gZc c33r ?_;conv=>whnf
  refine gZc c35 ?_;conv=>whnf
  refine gZc c34 ?_;conv=>whnf
  refine gZc c35 ?_;conv=>whnf
  refine gZn c36 ?_;conv=>whnf
  refine gZn c30r ?_;conv=>whnf
  exact⟨lr rfl,xo⟩
 |some z=>
  have c14u:Fn 14 G0 [.sl .vs m,.agg (ivC U),.int .i64 p] (.tup [.sl .vs z.exp,.int .i64 0]) G0:=c14u;have c30:=c30p z rfl;generalize z.exp=ze at*;refine fnT hTM hmx Tryz.func6 rfl rfl (ex:= []) ?_;conv=>whnf
  refine gZc n8 ?_;conv=>whnf
  refine gZn c18s ?_;conv=>whnf
  refine gZn c18t ?_;conv=>whnf
  refine gZn c19 ?_;conv=>whnf
  refine gZn c23 ?_;conv=>whnf
  refine gZn c31s ?_;conv=>whnf
  refine gZn c31t ?_;conv=>whnf
  refine gZc c29 ?_
  (refine⟨by kernel_rfl,by kernel_rfl,?_⟩;(conv=>whnf))
  refine gZn c31s ?_;conv=>whnf
  refine gZc c14s ?_;conv=>whnf
  refine gZn c31t ?_;conv=>whnf
  refine gZc c14t ?_;conv=>whnf
  refine gZc c14u ?_;conv=>whnf
  refine gZn c31t ?_;conv=>whnf
  refine gZn c32 ?_;conv=>whnf
  refine gZc c14b ?_;conv=>whnf
  refine gZn c31t ?_;conv=>whnf
  refine gZc c15t ?_;conv=>whnf
  refine gZc c33p ?_;conv=>whnf
  refine gZc c33u ?_;conv=>whnf
  refine gZc c33r ?_;conv=>whnf
  refine gZc c35 ?_;conv=>whnf
  refine gZc c34 ?_;conv=>whnf
  refine gZn c30 ?_;conv=>whnf
  refine gZc c35 ?_;conv=>whnf
  refine gZn c36 ?_;conv=>whnf
  refine gZn c30r ?_;conv=>whnf
  exact⟨lr rfl,xo⟩
theorem n6 (a:Mx) (ha:RX a) (s t:Iv) (hs:RI s) (ht:RI t) {P:Int} (hP:0<=P/\P<=255):
 Fn 6 G0 [.sl .vs a,.agg (ivC s),.agg (ivC t),.int .u8 P] (.bool true) G0:=by
 cases e1:zj9 a s []with
 |false=>
  have c1:=qd2 ha hs e1;refine fnT hTM hmx Tryz.func6 rfl rfl (ex:= []) ?_;conv=>whnf
  refine gZc n8 ?_;conv=>whnf
  refine gZn c1 ?_;conv=>whnf
  refine gZc n8 ?_;conv=>whnf
  exact⟨lr rfl,xo⟩
 |true=>
 cases e2:zj9 a t []with
 |false=>
  have c1:=qd2 ha hs e1;have c2:=qd2 ha ht e2;refine fnT hTM hmx Tryz.func6 rfl rfl (ex:= []) ?_;conv=>whnf
  refine gZc n8 ?_;conv=>whnf
  refine gZn c1 ?_;conv=>whnf
  refine gZn c2 ?_;conv=>whnf
  refine gZc n8 ?_;conv=>whnf
  exact⟨lr rfl,xo⟩
 |true=>exact n6s a ha s t hs ht hP e1 e2
end Go.Proofs.YtgehdbenidimlaaGreatDoor
