/-
  Intervals of small numbers: interval.Valid, known, Neg, Add, Sub, Mul.
-/
import Derived.Test.YtbolipecnhlnnaaGreatDoorRYa
import Derived.Test.YtbolipecnhlnnaaGreatDoorRUb
import Derived.Test.YtbolipecnhlnnaaGreatDoorRVa
import Derived.Test.YtbolipecnhlnnaaGreatDoorRZz
import Derived.Test.YtbolipecnhlnnaaGreatDoorRUa
set_option linter.unusedVariables false
set_option linter.unusedSimpArgs false
open And renaming intro->q2
open BitVec renaming ofInt->q3
namespace Go.Proofs.YtbolipecnhlnnaaGreatDoor
open Go Go.Sx
set_option maxRecDepth 100000
set_option maxHeartbeats 8000000
theorem zrr {α:Type} {P:α->Prop} {a:α} {l:List α} (h:P a):((0:Int)<=0/\(0:Int)<((a::l).length :Int))/\ ∀x,(a::l)[(0:Int).toNat]? =some x->P x:=
 ⟨⟨Int.le_refl _,by simp only[List.length_cons];omega⟩,fun x hx=>by simp at hx;subst hx;exact h⟩
def GI (x:Iv):Prop:=x.all=false/\LB x.lo.m/\LB x.hi.m/\x.lo.m.length<=1000000/\x.hi.m.length<=1000000/\(sgD x.lo=sgD x.hi->sgD x.lo=0)/\vB x.lo=true/\vB x.hi=true/\cmS x.lo x.hi<=0
def i01:Iv:=⟨d0,d1,false⟩
def im0:Iv:=⟨dm,d0,false⟩
def im1:Iv:=⟨dm,d1,false⟩
theorem g01:GI i01:=⟨rfl,LB0,LB1,by decide,by decide,by decide+kernel,by decide+kernel,by decide+kernel,by decide+kernel⟩
theorem gm0:GI im0:=⟨rfl,LB1,LB0,by decide,by decide,by decide+kernel,by decide+kernel,by decide+kernel,by decide+kernel⟩
theorem y51 (x:Iv) (h:GI x):Fn 35 [] [.agg (ivC x)] (.bool true) []:=by
 obtain⟨ha,h1,h2,h3,h4,h5,h6,h7,h8⟩:=h;have a80:=y80 x.lo h1 (by omega);have b80:=y80 x.hi h2 (by omega);have h81:=y81 x.lo x.hi h1 h2 h3 h4 h5;rw[h6]at a80;rw[h7]at b80;generalize cmS x.lo x.hi=c at h81 h8;obtain⟨⟨a1,a2,a3⟩,⟨b1,b2,b3⟩,al⟩:=x;obtain rfl:al=false:=ha;refine fnT hT4 hmx Tryz.func35 rfl rfl (ex:= []) ?_;conv=>whnf
 refine gZn a80 ?_;conv=>whnf
 refine gZn b80 ?_;conv=>whnf
 refine gZn h81 ?_;conv=>whnf
 exact⟨ab0 (by simp[h8]),lh0⟩
theorem y126 (l:List Iv) (hl:l.length<=1000000) (h: ∀x∈l,GI x):Fn 69 [] [.sl .iv l] (.bool true) []:=by
 refine fnT hT4 hmx Tryz.func69 rfl rfl (ex:= []) ?_;conv=>whnf
 refine⟨Nat,fun i=>i<=l.length,fun i=> [(7,.int .i64 i)],fun _=> [],fun i=>l.length-i,0,by simp,?_,fun i hi=>?_⟩
 ·((conv=>whnf);refine q2 ?_ ?_;repeat' first|refine lc ?_ ?_|exact la0|exact lr rfl|exact ln0|refine lh1 ?_ ?_|exact lh0|exact bf0|exact bd0|refine bc0 ?_|exact bm0 rfl|exact bg0 rfl|exact li0 rfl|refine lg0 ?_|refine lt0 ?_|fail)
 (refine⟨by kernel_rfl,?_⟩;(conv=>whnf))
 refine brI (fun h1=>?_) (fun h1=>?_)
 ·conv=>whnf
  have hi:i<l.length:=by simp only[decide_eq_true_eq]at h1;omega
  refine⟨⟨by omega,by omega⟩,fun(x:Iv) hx=>?_⟩;have hx:l[i]? =some x:=by simpa using hx
  have hg:=h x (List.mem_of_getElem? hx);have h51:=y51 x hg;obtain⟨ha,_⟩:=hg;obtain⟨lo,hi',al⟩:=x;obtain rfl:al=false:=ha;conv=>whnf
  refine gZn h51 ?_;conv=>whnf
  refine⟨i+1,by show i+1<=l.length;omega,by show l.length-(i+1)<l.length-i;omega,?_⟩
  ((conv=>whnf);refine q2 ?_ ?_;repeat' first|refine lc ?_ ?_|exact la0|exact lr rfl|exact ln0|refine lh1 ?_ ?_|exact lh0|exact bf0|exact bd0|refine bc0 ?_|exact bm0 rfl|exact bg0 rfl|exact li0 rfl|refine lg0 ?_|refine lt0 ?_|fail)
  exact ai0 (by rw[wI (by omega)];omega)
 ·conv=>whnf
  exact⟨lr rfl,lh0⟩
theorem y127:Fn 70 [] [.int .i64 24] (.bool true) []:=by
 refine fnT hT4 hmx Tryz.func70 rfl rfl (ex:= []) ?_;conv=>whnf
 exact⟨lr rfl,lh0⟩
theorem y86 (x:Iv) (h:GI x):Fn 26 [] [.agg (ivC x)] (.agg (ivC ⟨ngD x.hi,ngD x.lo,false⟩)) []:=by
 have h126:=y126 [x] (by simp) (by simpa using h);obtain⟨ha,h1,h2,h3,h4,_⟩:=h;have a135:=y135 x.hi h2 h4;have b135:=y135 x.lo h1 h3;generalize ngD x.hi=A at a135;generalize ngD x.lo=B at b135;obtain⟨A1,A2,A3⟩:=A;obtain⟨B1,B2,B3⟩:=B;obtain⟨⟨a1,a2,a3⟩,⟨b1,b2,b3⟩,al⟩:=x;refine fnT hT4 hmx Tryz.func26 rfl rfl (ex:= []) ?_;conv=>whnf
 refine gZn h126 ?_;conv=>whnf
 refine gZn a135 ?_;conv=>whnf
 refine gZn b135 ?_;conv=>whnf
 (refine⟨by kernel_rfl,by kernel_rfl,?_⟩;(conv=>whnf))
 exact⟨lr rfl,lh0⟩
theorem y130 (a b:Dy):Fn 79 [] [.agg (dyC a),.int .i64 0,.agg (dyC b),.int .i64 0] (.agg (ivC ⟨a,b,false⟩)) []:=by
 obtain⟨a1,a2,a3⟩:=a;obtain⟨b1,b2,b3⟩:=b;refine fnT hT4 hmx Tryz.func79 rfl rfl (ex:= []) ?_;conv=>whnf
 exact⟨lr rfl,lh0⟩
theorem y82:Fn 23 G0 [.agg (ivC i01),.agg (ivC im0),.int .i64 24] (.agg (ivC im1)) G0:=by
 have h126:=y126 [i01,im0] (by simp) (by simpa using⟨g01,gm0⟩);have h128:=y128 d0 dm dm (y179a true false);have h129:=y129 d1 d0 d1 (y179b false true);have h130:=y130 dm d1;refine fnT hT4 hmx Tryz.func23 rfl rfl (ex:= []) ?_;conv=>whnf
 refine gZn h126 ?_;conv=>whnf
 refine gZn y127 ?_;conv=>whnf
 refine gZc h128 ?_;conv=>whnf
 refine gZc h129 ?_;conv=>whnf
 refine gZn h130 ?_;conv=>whnf
 exact⟨lr rfl,leG⟩
theorem ng0:ngD d0=d0:=by decide+kernel
theorem y83:Fn 267 G0 [.agg (ivC i01),.agg (ivC i01),.int .i64 24] (.agg (ivC im1)) G0:=by
 have h86:=y86 i01 g01;rw[show(⟨ngD i01.hi,ngD i01.lo,false⟩:Iv)=im0 by simp only[i01,ng1,ng0];rfl]at h86;refine fnT hT4 hmx Tryz.func267 rfl rfl (ex:= []) ?_;conv=>whnf
 refine gZn h86 ?_;conv=>whnf
 refine gZc y82 ?_;conv=>whnf
 (refine⟨by kernel_rfl,by kernel_rfl,?_⟩;(conv=>whnf))
 exact⟨lr rfl,leG⟩
def pq (i:Nat):Dy:=if i=3 then d1 else d0
def pa (i:Nat):Dy:=if i<2 then d0 else d1
def pb (i:Nat):Dy:=if i=1\/i=3 then d1 else d0
theorem y132p (i:Nat) (hi:i<4):Fn 72 G0 [.agg (dyC (pa i)),.agg (dyC (pb i)),.int .i64 24] (dyV (pq i,0)) G0:=by
 have hp:LB d1.m/\d1.m.length<=1000000:=zqv false;obtain rfl|rfl|rfl|rfl:i=0\/i=1\/i=2\/i=3:=by omega
 ·exact y132 d0 d0 d0 (zqd d0 d0 false zwc zwc (by decide+kernel) (.inl rfl))
 ·exact y132 d0 d1 d0 (zqd d0 d1 false zwc hp (by decide+kernel) (.inl rfl))
 ·exact y132 d1 d0 d0 (zqd d1 d0 false hp zwc (by decide+kernel) (.inr rfl))
 ·exact y132 d1 d1 d1 (y180 false)
theorem y133p (i:Nat) (hi:i<4):Fn 73 G0 [.agg (dyC (pa i)),.agg (dyC (pb i)),.int .i64 24] (dyV (pq i,0)) G0:=by
 have hp:LB d1.m/\d1.m.length<=1000000:=zqv false;obtain rfl|rfl|rfl|rfl:i=0\/i=1\/i=2\/i=3:=by omega
 ·exact y133 d0 d0 d0 (zqd d0 d0 true zwc zwc (by decide+kernel) (.inl rfl))
 ·exact y133 d0 d1 d0 (zqd d0 d1 true zwc hp (by decide+kernel) (.inl rfl))
 ·exact y133 d1 d0 d0 (zqd d1 d0 true hp zwc (by decide+kernel) (.inr rfl))
 ·exact y133 d1 d1 d1 (y180 true)
def oI (i:Nat):Iv:=⟨d0,if i=4 then d1 else d0,false⟩
theorem y131:Fn 71 G0 [.agg (ivC i01),.agg (ivC i01),.int .i64 24,.fn 72 [],.fn 73 []] (.agg (ivC i01)) G0:=by
 have h00:=y81 d0 d0 LB0 LB0 (by decide) (by decide) (by decide+kernel);rw[show cmS d0 d0=0 by decide+kernel]at h00;have h10:=y81 d1 d0 LB1 LB0 (by decide) (by decide) (by decide+kernel);rw[show cmS d1 d0=1 by decide+kernel]at h10;refine fnT hT4 hmx Tryz.func71 rfl rfl (ex:= []) ?_;conv=>whnf
 refine⟨Nat,fun i=>i<=4,fun i=> [(41,.int .i64 i)],fun i=> [(12,.cells (ivC (oI i)))],fun i=>4-i,0,by simp,?_,fun i hi=>?_⟩
 ·((conv=>whnf);refine q2 ?_ ?_;repeat' first|refine lc ?_ ?_|exact la0|exact lr rfl|exact ln0|refine lh1 ?_ ?_|exact lh0|exact bf0|exact bd0|refine bc0 ?_|exact bm0 rfl|exact bg0 rfl|exact li0 rfl|refine lg0 ?_|refine lt0 ?_|fail)
 have hd:=y132p i;have hu:=y133p i;obtain rfl|rfl|rfl|rfl|rfl:i=0\/i=1\/i=2\/i=3\/i=4:=by omega
 ·(refine⟨by kernel_rfl,?_⟩;(conv=>whnf))
  refine⟨⟨by decide,by decide⟩,?_⟩;conv=>whnf
  refine⟨⟨by decide,by decide⟩,?_⟩;conv=>whnf
  refine⟨⟨by decide,by decide⟩,?_⟩;conv=>whnf
  refine gZc (hd (by decide)) ?_;conv=>whnf
  refine⟨⟨by decide,by decide⟩,?_⟩;conv=>whnf
  refine⟨⟨by decide,by decide⟩,?_⟩;conv=>whnf
  refine gZc (hu (by decide)) ?_;conv=>whnf
  refine⟨1,by decide,by decide,?_⟩
  ((conv=>whnf);refine q2 ?_ ?_;repeat' first|refine lc ?_ ?_|exact la0|exact lr rfl|exact ln0|refine lh1 ?_ ?_|exact lh0|exact bf0|exact bd0|refine bc0 ?_|exact bm0 rfl|exact bg0 rfl|exact li0 rfl|refine lg0 ?_|refine lt0 ?_|fail)
 ·(refine⟨by kernel_rfl,?_⟩;(conv=>whnf))
  refine⟨⟨by decide,by decide⟩,?_⟩;conv=>whnf
  refine⟨⟨by decide,by decide⟩,?_⟩;conv=>whnf
  refine⟨⟨by decide,by decide⟩,?_⟩;conv=>whnf
  refine gZc (hd (by decide)) ?_;conv=>whnf
  refine⟨⟨by decide,by decide⟩,?_⟩;conv=>whnf
  refine⟨⟨by decide,by decide⟩,?_⟩;conv=>whnf
  refine gZc (hu (by decide)) ?_;conv=>whnf
  refine gZn h00 ?_;conv=>whnf
  refine gZn h00 ?_;conv=>whnf
  refine⟨2,by decide,by decide,?_⟩
  ((conv=>whnf);refine q2 ?_ ?_;repeat' first|refine lc ?_ ?_|exact la0|exact lr rfl|exact ln0|refine lh1 ?_ ?_|exact lh0|exact bf0|exact bd0|refine bc0 ?_|exact bm0 rfl|exact bg0 rfl|exact li0 rfl|refine lg0 ?_|refine lt0 ?_|fail)
 ·(refine⟨by kernel_rfl,?_⟩;(conv=>whnf))
  refine⟨⟨by decide,by decide⟩,?_⟩;conv=>whnf
  refine⟨⟨by decide,by decide⟩,?_⟩;conv=>whnf
  refine⟨⟨by decide,by decide⟩,?_⟩;conv=>whnf
  refine gZc (hd (by decide)) ?_;conv=>whnf
  refine⟨⟨by decide,by decide⟩,?_⟩;conv=>whnf
  refine⟨⟨by decide,by decide⟩,?_⟩;conv=>whnf
  refine gZc (hu (by decide)) ?_;conv=>whnf
  refine gZn h00 ?_;conv=>whnf
  refine gZn h00 ?_;conv=>whnf
  refine⟨3,by decide,by decide,?_⟩
  ((conv=>whnf);refine q2 ?_ ?_;repeat' first|refine lc ?_ ?_|exact la0|exact lr rfl|exact ln0|refine lh1 ?_ ?_|exact lh0|exact bf0|exact bd0|refine bc0 ?_|exact bm0 rfl|exact bg0 rfl|exact li0 rfl|refine lg0 ?_|refine lt0 ?_|fail)
 ·(refine⟨by kernel_rfl,?_⟩;(conv=>whnf))
  refine⟨⟨by decide,by decide⟩,?_⟩;conv=>whnf
  refine⟨⟨by decide,by decide⟩,?_⟩;conv=>whnf
  refine⟨⟨by decide,by decide⟩,?_⟩;conv=>whnf
  refine gZc (hd (by decide)) ?_;conv=>whnf
  refine⟨⟨by decide,by decide⟩,?_⟩;conv=>whnf
  refine⟨⟨by decide,by decide⟩,?_⟩;conv=>whnf
  refine gZc (hu (by decide)) ?_;conv=>whnf
  refine gZn h10 ?_;conv=>whnf
  refine gZn h10 ?_;conv=>whnf
  refine⟨4,by decide,by decide,?_⟩
  ((conv=>whnf);refine q2 ?_ ?_;repeat' first|refine lc ?_ ?_|exact la0|exact lr rfl|exact ln0|refine lh1 ?_ ?_|exact lh0|exact bf0|exact bd0|refine bc0 ?_|exact bm0 rfl|exact bg0 rfl|exact li0 rfl|refine lg0 ?_|refine lt0 ?_|fail)
 ·(refine⟨by kernel_rfl,?_⟩;(conv=>whnf))
  exact⟨lr rfl,leG⟩
theorem y84:Fn 21 G0 [.agg (ivC i01),.agg (ivC i01),.int .i64 24] (.agg (ivC i01)) G0:=by
 have h126:=y126 [i01,i01] (by simp) (by simpa using g01);refine fnT hT4 hmx Tryz.func21 rfl rfl (ex:= []) ?_;conv=>whnf
 refine gZn h126 ?_;conv=>whnf
 refine gZn y127 ?_;conv=>whnf
 refine gZc y131 ?_;conv=>whnf
 exact⟨lr rfl,leG⟩
theorem y52m:Fn 177 G0 [.int .i64 5,.int .i64 0,.agg (ivC i01),.agg (ivC i01),.int .i64 24] (.agg (ivC i01)) G0:=by
 refine fnT hT4 hmx Tryz.func177 rfl rfl (ex:= []) ?_;conv=>whnf
 refine gZc y84 ?_;conv=>whnf
 exact⟨lr rfl,leG⟩
theorem y52s:Fn 177 G0 [.int .i64 4,.int .i64 0,.agg (ivC i01),.agg (ivC i01),.int .i64 24] (.agg (ivC im1)) G0:=by
 refine fnT hT4 hmx Tryz.func177 rfl rfl (ex:= []) ?_;conv=>whnf
 refine gZc y83 ?_;conv=>whnf
 exact⟨lr rfl,leG⟩
abbrev esI:List (ze×Iv):= [([120],i01)]
theorem y23:Fn 94 [] [.sl .str [[120]],.sl .iv [i01]] (.tup [.mp 2000000,.bool true]) [(2000000,.map .str .iv esI)]:=by
 refine fnT hT4 hmx Tryz.func94 rfl rfl (ex:= [21]) ?_;conv=>whnf
 refine⟨Nat,fun i=>i<=1,fun i=> [(24,.int .i64 i)],fun i=> [(21,.map .str .iv (if i=0 then []else esI))],fun i=>1-i,0,by simp,?_,fun i hi=>?_⟩
 ·((conv=>whnf);refine q2 ?_ ?_;repeat' first|refine lc ?_ ?_|exact la0|exact lr rfl|exact ln0|refine lh1 ?_ ?_|exact lh0|exact bf0|exact bd0|refine bc0 ?_|exact bm0 rfl|exact bg0 rfl|exact li0 rfl|refine lg0 ?_|refine lt0 ?_|fail)
 obtain rfl|rfl:i=0\/i=1:=by omega
 ·(refine⟨by kernel_rfl,?_⟩;(conv=>whnf))
  refine zrr ?_;conv=>whnf
  refine zrr ?_;conv=>whnf
  refine⟨1,by decide,by decide,?_⟩
  ((conv=>whnf);refine q2 ?_ ?_;repeat' first|refine lc ?_ ?_|exact la0|exact lr rfl|exact ln0|refine lh1 ?_ ?_|exact lh0|exact bf0|exact bd0|refine bc0 ?_|exact bm0 rfl|exact bg0 rfl|exact li0 rfl|refine lg0 ?_|refine lt0 ?_|fail)
 ·(refine⟨by kernel_rfl,?_⟩;(conv=>whnf))
  exact⟨lr rfl,lh1 (bm0 rfl) lh0⟩
abbrev Hv:Hp:= [(qu,.gst JT),(1000001,.map .str .iv esI)]
theorem leHv {h h':Hp}:leH h h' Hv Hv:=lh1 (bg0 rfl) (lh1 (bm0 rfl) lh0)
def xE:Ex:=zi5 [120]
theorem y26v:Fn 96 Hv [.agg (exC xE),.mp 1000001,.int .i64 24] (.tup [.agg (ivC i01),.bool true]) Hv:=by
 have h51:=y51 i01 g01;refine fnT hT4 hmx Tryz.func96 rfl rfl (ex:= []) ?_;conv=>whnf
 refine gZn h51 ?_;conv=>whnf
 exact⟨lr rfl,leHv⟩
theorem y26b (k:Int) (hk:k=4\/k=5) (a b:Ex) (A B C:Iv) (ha:Fn 96 Hv [.agg (exC a),.mp 1000001,.int .i64 24] (.tup [.agg (ivC A),.bool true]) Hv)
 (hb:Fn 96 Hv [.agg (exC b),.mp 1000001,.int .i64 24] (.tup [.agg (ivC B),.bool true]) Hv) (hc:Fn 177 G0 [.int .i64 k,.int .i64 0,.agg (ivC A),.agg (ivC B),.int .i64 24] (.agg (ivC C)) G0):
 Fn 96 Hv [.agg (exC (opE k 0 [a,b])),.mp 1000001,.int .i64 24] (.tup [.agg (ivC C),.bool true]) Hv:=by
 obtain⟨⟨A1,A2,A3⟩,⟨A4,A5,A6⟩,A7⟩:=A;obtain⟨⟨B1,B2,B3⟩,⟨B4,B5,B6⟩,B7⟩:=B;obtain⟨⟨C1,C2,C3⟩,⟨C4,C5,C6⟩,C7⟩:=C;obtain rfl|rfl:=hk
 all_goals
  refine fnT hT4 hmx Tryz.func96 rfl rfl (ex:= []) ?_;conv=>whnf
  refine⟨Nat,fun i=>i<=2,fun i=> [(41,.int .i64 i)],fun i=> [(10,.cells (match i with
   |0=> [.bool false,.nilsl,.int .i64 0,.bool false,.nilsl,.int .i64 0,.bool false,.bool false,.nilsl,.int .i64 0,.bool false,.nilsl,.int .i64 0,.bool false]
   |1=> [.bool A1,.sl .u32 A2,.int .i64 A3,.bool A4,.sl .u32 A5,.int .i64 A6,.bool A7,.bool false,.nilsl,.int .i64 0,.bool false,.nilsl,.int .i64 0,.bool false]
   | _=> [.bool A1,.sl .u32 A2,.int .i64 A3,.bool A4,.sl .u32 A5,.int .i64 A6,.bool A7,.bool B1,.sl .u32 B2,.int .i64 B3,.bool B4,.sl .u32 B5,.int .i64 B6,.bool B7]))],fun i=>2-i,0,by simp,?_,fun i hi=>?_⟩
  ·((conv=>whnf);refine q2 ?_ ?_;repeat' first|refine lc ?_ ?_|exact la0|exact lr rfl|exact ln0|refine lh1 ?_ ?_|exact lh0|exact bf0|exact bd0|refine bc0 ?_|exact bm0 rfl|exact bg0 rfl|exact li0 rfl|refine lg0 ?_|refine lt0 ?_|fail)
  obtain rfl|rfl|rfl:i=0\/i=1\/i=2:=by omega
  ·(refine⟨by kernel_rfl,?_⟩;(conv=>whnf))
   refine ix0 ?_;conv=>whnf
   refine⟨[.gst JT,.map .str .iv esI],_,ha,?_⟩;conv=>whnf
   refine⟨⟨by omega,by omega⟩,?_⟩;conv=>whnf
   refine⟨1,by decide,by decide,?_⟩
   ((conv=>whnf);refine q2 ?_ ?_;repeat' first|refine lc ?_ ?_|exact la0|exact lr rfl|exact ln0|refine lh1 ?_ ?_|exact lh0|exact bf0|exact bd0|refine bc0 ?_|exact bm0 rfl|exact bg0 rfl|exact li0 rfl|refine lg0 ?_|refine lt0 ?_|fail)
  ·(refine⟨by kernel_rfl,?_⟩;(conv=>whnf))
   refine ix1 ?_;conv=>whnf
   refine⟨[.gst JT,.map .str .iv esI],_,hb,?_⟩;conv=>whnf
   refine⟨⟨by omega,by omega⟩,?_⟩;conv=>whnf
   refine⟨2,by decide,by decide,?_⟩
   ((conv=>whnf);refine q2 ?_ ?_;repeat' first|refine lc ?_ ?_|exact la0|exact lr rfl|exact ln0|refine lh1 ?_ ?_|exact lh0|exact bf0|exact bd0|refine bc0 ?_|exact bm0 rfl|exact bg0 rfl|exact li0 rfl|refine lg0 ?_|refine lt0 ?_|fail)
  ·(refine⟨by kernel_rfl,?_⟩;(conv=>whnf))
   refine⟨⟨by omega,by omega⟩,?_⟩;conv=>whnf
   refine⟨⟨by omega,by omega⟩,?_⟩;conv=>whnf
   refine gZc hc ?_;conv=>whnf
   exact⟨lr rfl,leHv⟩
def eA:Ex:=opE 4 0 [opE 5 0 [xE,xE],xE]
theorem y26:Fn 96 Hv [.agg (exC eA),.mp 1000001,.int .i64 24] (.tup [.agg (ivC im1),.bool true]) Hv:=
 y26b 4 (.inl rfl) (opE 5 0 [xE,xE]) xE i01 i01 im1 (y26b 5 (.inr rfl) xE xE i01 i01 i01 y26v y26v y52m) y26v y52s
theorem okA:okT eA=true:=by decide+kernel
theorem y8:Fn 32 G0 [.agg (exC eA),.sl .str [[120]],.sl .iv [i01],.int .i64 24] (.agg (ivC im1)) G0:=by
 have h24:=f17 eA (by simp[eA,xE,opE,zi5,Sm,SmL]);rw[okA]at h24;refine fnT hT4 hmx Tryz.func32 rfl rfl (ex:= []) ?_;conv=>whnf
 refine⟨[],[.map .str .iv esI],_,y23,?_⟩;conv=>whnf
 refine gZn h24 ?_;conv=>whnf
 refine⟨[.gst JT,.map .str .iv esI],_,y26.sw [(15,1000001)] rfl,?_⟩;conv=>whnf
 exact⟨lr rfl,leG⟩
theorem y247 (l:List Int) (hl:l.length<=1000000):Fn 199 [] [.sl .u32 l] (.sl .u32 (trL l)) []:=by
 refine fnT hT4 hmx Tryz.func199 rfl rfl (ex:= []) ?_;conv=>whnf
 refine⟨Nat,fun n=>n<=l.length/\trN l n=trN l l.length,fun n=> [(3,.int .i64 n)],fun _=> [],fun n=>n,l.length,⟨Nat.le_refl _,rfl⟩,?_,fun n hn=>?_⟩
 ·((conv=>whnf);refine q2 ?_ ?_;repeat' first|refine lc ?_ ?_|exact la0|exact lr rfl|exact ln0|refine lh1 ?_ ?_|exact lh0|exact bf0|exact bd0|refine bc0 ?_|exact bm0 rfl|exact bg0 rfl|exact li0 rfl|refine lg0 ?_|refine lt0 ?_|fail)
 (refine⟨by kernel_rfl,?_⟩;(conv=>whnf))
 obtain⟨hn1,hn2⟩:=hn;refine brI (fun h1=>?_) (fun h1=>?_)
 ·have h1:0<n:=by simp only[decide_eq_true_eq]at h1;omega
  obtain⟨m,rfl⟩: ∃m,n=m+1:=⟨n-1,by omega⟩;have hw:IntKind.i64.wrap (((m+1:Nat):Int)-1)=(m:Int):=by rw[wI (by omega)];omega
  conv=>whnf
  rw[hw];refine⟨⟨by omega,by omega⟩,fun x hx=>?_⟩;have hx:l[m]? =some x:=by simpa using hx
  simp only[trN,hx,Option.getD_some]at hn2;conv=>whnf
  refine brI (fun h2=>?_) (fun h2=>?_)
  ·have h2:x=0:=by simpa using h2
   rw[if_pos h2]at hn2;conv=>whnf
   refine⟨m,⟨by omega,hn2⟩,by show m<m+1;omega,?_⟩
   ((conv=>whnf);refine q2 ?_ ?_;repeat' first|refine lc ?_ ?_|exact la0|exact lr rfl|exact ln0|refine lh1 ?_ ?_|exact lh0|exact bf0|exact bd0|refine bc0 ?_|exact bm0 rfl|exact bg0 rfl|exact li0 rfl|refine lg0 ?_|refine lt0 ?_|fail)
   exact ai0 hw
  ·have h2: ¬x=0:=by simpa using h2
   rw[if_neg h2]at hn2;conv=>whnf
   refine⟨⟨by omega,by omega,by omega⟩,?_⟩;conv=>whnf
   refine⟨by simp;omega,?_⟩;conv=>whnf
   exact⟨xi (by rw[trL,←hn2];try simp),lh0⟩
 ·have h1:n=0:=by simp only[decide_eq_false_iff_not]at h1;omega
  subst h1;simp only[trN]at hn2;conv=>whnf
  refine⟨⟨by omega,by omega,by omega⟩,?_⟩;conv=>whnf
  refine⟨by simp,?_⟩;conv=>whnf
  exact⟨xi (by rw[trL,←hn2];try simp),lh0⟩
theorem y205:Fn 84 [] [.sl .u32 [1]] (.int .i64 1) []:=by
 refine fnT hT4 hmx Tryz.func84 rfl rfl (ex:= []) ?_;conv=>whnf
 refine zrr ?_;conv=>whnf
 refine⟨Nat,fun i=>i<=1,fun i=> [(3,.int .i64 i),(4,.int .u32 (if i=0 then 1 else 0))],fun _=> [],fun i=>1-i,0,by simp,?_,fun i hi=>?_⟩
 ·((conv=>whnf);refine q2 ?_ ?_;repeat' first|refine lc ?_ ?_|exact la0|exact lr rfl|exact ln0|refine lh1 ?_ ?_|exact lh0|exact bf0|exact bd0|refine bc0 ?_|exact bm0 rfl|exact bg0 rfl|exact li0 rfl|refine lg0 ?_|refine lt0 ?_|fail)
 obtain rfl|rfl:i=0\/i=1:=by omega
 ·(refine⟨by kernel_rfl,?_⟩;(conv=>whnf))
  refine⟨by decide,?_⟩;conv=>whnf
  refine⟨1,by decide,by decide,?_⟩
  ((conv=>whnf);refine q2 ?_ ?_;repeat' first|refine lc ?_ ?_|exact la0|exact lr rfl|exact ln0|refine lh1 ?_ ?_|exact lh0|exact bf0|exact bd0|refine bc0 ?_|exact bm0 rfl|exact bg0 rfl|exact li0 rfl|refine lg0 ?_|refine lt0 ?_|fail)
 ·(refine⟨by kernel_rfl,?_⟩;(conv=>whnf))
  exact⟨lr rfl,lh0⟩
theorem y59 (a:List Int) (ha:a.length<9223372036854775808):Fn 196 [] [.sl .u32 a,.sl .u32 a] (.int .i64 0) []:=by
 refine fnT hT4 hmx Tryz.func196 rfl rfl (ex:= []) ?_;conv=>whnf
 refine brI (fun h1=>?_) (fun _=>?_)
 ·have h1:((a.length:Int) != (a.length:Int))=true:=h1;simp at h1
 conv=>whnf
 refine⟨Nat,fun n=>n<=a.length,fun n=> [(5,.int .i64 (n-1))],fun _=> [],fun n=>n,a.length,Nat.le_refl _,?_,fun n hn=>?_⟩
 ·((conv=>whnf);refine q2 ?_ ?_;repeat' first|refine lc ?_ ?_|exact la0|exact lr rfl|exact ln0|refine lh1 ?_ ?_|exact lh0|exact bf0|exact bd0|refine bc0 ?_|exact bm0 rfl|exact bg0 rfl|exact li0 rfl|refine lg0 ?_|refine lt0 ?_|fail)
  exact ai0 (by rw[wI (by omega)])
 (refine⟨by kernel_rfl,?_⟩;(conv=>whnf))
 refine brI (fun h1=>?_) (fun h1=>?_)
 ·have h1:0<n:=by simp only[decide_eq_true_eq]at h1;omega
  obtain⟨m,rfl⟩: ∃m,n=m+1:=⟨n-1,by omega⟩;have hm:(((m+1:Nat):Int)-1)=m:=by omega
  conv=>whnf
  rw[hm];refine⟨⟨by omega,by omega⟩,fun x hx=>?_⟩;have hx:a[m]? =some x:=by simpa using hx
  conv=>whnf
  refine⟨⟨by omega,by omega⟩,fun y hy=>?_⟩;have hy:a[m]? =some y:=by simpa using hy
  obtain rfl:x=y:=by rw[hx]at hy;exact Option.some.inj hy
  conv=>whnf
  (refine⟨by kernel_rfl,by kernel_rfl,?_⟩;(conv=>whnf))
  refine brI (fun h2=>by simp at h2) (fun _=>?_);conv=>whnf
  refine⟨⟨by omega,by omega⟩,fun x' hx'=>?_⟩;have hx':a[m]? =some x':=by simpa using hx'
  conv=>whnf
  refine⟨⟨by omega,by omega⟩,fun y' hy'=>?_⟩;have hy':a[m]? =some y':=by simpa using hy'
  obtain rfl:x'=y':=by rw[hx']at hy';exact Option.some.inj hy'
  conv=>whnf
  (refine⟨by kernel_rfl,by kernel_rfl,?_⟩;(conv=>whnf))
  refine brI (fun h2=>by simp at h2) (fun _=>?_);conv=>whnf
  refine⟨m,by show m<=a.length;omega,by show m<m+1;omega,?_⟩
  ((conv=>whnf);refine q2 ?_ ?_;repeat' first|refine lc ?_ ?_|exact la0|exact lr rfl|exact ln0|refine lh1 ?_ ?_|exact lh0|exact bf0|exact bd0|refine bc0 ?_|exact bm0 rfl|exact bg0 rfl|exact li0 rfl|refine lg0 ?_|refine lt0 ?_|fail)
  exact ai0 (by rw[wI (by omega)])
 ·conv=>whnf
  exact⟨lr rfl,lh0⟩
noncomputable def qc0:Code:=Tryz.f194.body.getD .skip
theorem tr10:trL [1,0]= [1]:=by decide+kernel
theorem tr0:trL [0]= []:=by decide+kernel
theorem trn:trL []= []:=by decide+kernel
theorem y206:Fn 194 [] [.sl .u32 [1],.int .i64 0] (.sl .u32 [1]) []:=by
 have h247:=y247 [1,0] (by decide);rw[tr10]at h247;refine jc (code:=qc0) hT4 hmx Tryz.func194 rfl rfl (ex:= []) ?_;conv=>whnf
 refine yd hT4 hmx 3 (fun _:Unit=>⟨[.sl .u32 [1],.int .i64 0,.any,.any,.any,.own 11,.int .u64 0]++zf1 36,[(11,.buf 108 .u32 []),(34,.dead),(100034,.free),(1500034,.free),(41,.free),(100041,.free),(1500041,.free)]⟩) (fun _=>by kernel_rfl) ?_ (fun _=>?_)
 ·conv=>whnf
  refine⟨by decide,?_⟩;conv=>whnf
  refine⟨⟨by decide,by decide,by decide⟩,?_⟩;conv=>whnf
  refine⟨(),?_⟩
  ((conv=>whnf);refine q2 ?_ ?_;repeat' first|refine lc ?_ ?_|exact la0|exact lr rfl|exact ln0|refine lh1 ?_ ?_|exact lh0|exact bf0|exact bd0|refine bc0 ?_|exact bm0 rfl|exact bb0 rfl|exact bg0 rfl|exact li0 rfl|refine lg0 ?_|refine lt0 ?_|fail)
 ·refine zjg 34 11 (by kernel_rfl) ?_;conv=>whnf
  refine yc hT4 hmx ?_;conv=>whnf
  refine⟨Nat,fun i=>i<=1,fun i=> [(7,.int .i64 i),(5,.own 34),(6,.int .u64 0)],fun i=> [(34,.buf 108 .u32 (if i=0 then []else [1]))],fun i=>1-i,0,by simp,?_,fun i hi=>?_⟩
  ·((conv=>whnf);refine q2 ?_ ?_;repeat' first|refine lc ?_ ?_|exact la0|exact lr rfl|exact ln0|refine lh1 ?_ ?_|exact lh0|exact bf0|exact bd0|refine bc0 ?_|exact bm0 rfl|exact bb0 rfl|exact bg0 rfl|exact li0 rfl|refine lg0 ?_|refine lt0 ?_|fail)
  obtain rfl|rfl:i=0\/i=1:=by omega
  ·(refine⟨by kernel_rfl,?_⟩;(conv=>whnf))
   refine zrr ?_;conv=>whnf
   refine⟨by decide,?_⟩;conv=>whnf
   refine⟨by decide,?_⟩;conv=>whnf
   refine⟨by decide,?_⟩;conv=>whnf
   refine⟨by decide,?_⟩;conv=>whnf
   refine⟨1,by decide,by decide,?_⟩
   ((conv=>whnf);refine q2 ?_ ?_;repeat' first|refine lc ?_ ?_|exact la0|exact lr rfl|exact ln0|refine lh1 ?_ ?_|exact lh0|exact bf0|exact bd0|refine bc0 ?_|exact bm0 rfl|exact bb0 rfl|exact bg0 rfl|exact li0 rfl|refine lg0 ?_|refine lt0 ?_|fail)
  ·(refine⟨by kernel_rfl,?_⟩;(conv=>whnf))
   refine⟨by decide,?_⟩;conv=>whnf
   refine gZn h247 ?_;conv=>whnf
   exact⟨lr rfl,lh0⟩
theorem y209:Fn 197 [] [.sl .u32 [1],.sl .u32 [1]] (.sl .u32 []) []:=by
 have h247:=y247 [0] (by decide);rw[tr0]at h247;refine fnT hT4 hmx Tryz.func197 rfl rfl (ex:= []) ?_;conv=>whnf
 refine⟨Nat,fun i=>i<=1,fun i=> [(7,.int .i64 i),(5,.own 41),(6,.int .u64 0)],fun i=> [(41,.buf 108 .u32 (if i=0 then []else [0]))],fun i=>1-i,0,by simp,?_,fun i hi=>?_⟩
 ·((conv=>whnf);refine q2 ?_ ?_;repeat' first|refine lc ?_ ?_|exact la0|exact lr rfl|exact ln0|refine lh1 ?_ ?_|exact lh0|exact bf0|exact bd0|refine bc0 ?_|exact bm0 rfl|exact bb0 rfl|exact bg0 rfl|exact li0 rfl|refine lg0 ?_|refine lt0 ?_|fail)
  all_goals first|exact trivial|exact⟨rfl,rfl⟩
 obtain rfl|rfl:i=0\/i=1:=by omega
 ·(refine⟨by kernel_rfl,?_⟩;(conv=>whnf))
  refine zrr ?_;conv=>whnf
  refine zrr ?_;conv=>whnf
  refine⟨by decide,?_⟩;conv=>whnf
  refine⟨by decide,?_⟩;conv=>whnf
  refine⟨1,by decide,by decide,?_⟩
  ((conv=>whnf);refine q2 ?_ ?_;repeat' first|refine lc ?_ ?_|exact la0|exact lr rfl|exact ln0|refine lh1 ?_ ?_|exact lh0|exact bf0|exact bd0|refine bc0 ?_|exact bm0 rfl|exact bb0 rfl|exact bg0 rfl|exact li0 rfl|refine lg0 ?_|refine lt0 ?_|fail)
 ·(refine⟨by kernel_rfl,?_⟩;(conv=>whnf))
  refine gZn h247 ?_;conv=>whnf
  exact⟨lr rfl,lh0⟩
theorem y207 (neg:Bool):Fn 124 [] [.bool neg,.sl .u32 [],.int .i64 0] (.agg (dyC d0)) []:=by
 have h247:=y247 [] (by decide);rw[trn]at h247;refine fnT hT4 hmx Tryz.func124 rfl rfl (ex:= []) ?_;conv=>whnf
 refine gZn h247 ?_;conv=>whnf
 exact⟨qb2,lh0⟩
theorem y152 (neg:Bool):Fn 122 [] [.agg (dyC (pm neg))] (.agg (dyC (pm !neg))) []:=by
 cases neg
 all_goals
  refine fnT hT4 hmx Tryz.func122 rfl rfl (ex:= []) ?_;conv=>whnf
  exact⟨lr rfl,lh0⟩
theorem y151 (neg:Bool):Fn 121 [] [.agg (dyC (pm neg)),.agg (dyC (pm !neg))] (.agg (dyC d0)) []:=by
 have h206:=y206;have h209:=y209;have h59:=y59 [1] (by decide);cases neg
 all_goals
  refine fnT hT4 hmx Tryz.func121 rfl rfl (ex:= []) ?_;conv=>whnf
  refine gZn h206 ?_;conv=>whnf
  refine gZn h206 ?_;conv=>whnf
  (refine⟨by kernel_rfl,by kernel_rfl,?_⟩;(conv=>whnf))
  refine gZn h59 ?_;conv=>whnf
  refine gZn h209 ?_;conv=>whnf
  refine gZn (y207 _) ?_;conv=>whnf
  (refine⟨by kernel_rfl,by kernel_rfl,?_⟩;(conv=>whnf))
  exact⟨lr rfl,lh0⟩
theorem y150 (neg:Bool):Fn 120 [] [.agg (dyC (pm neg))] (.int .i64 1) []:=by
 have h205:=y205;refine fnT hT4 hmx Tryz.func120 rfl rfl (ex:= []) ?_;conv=>whnf
 refine gZn h205 ?_;conv=>whnf
 (refine⟨by kernel_rfl,by kernel_rfl,?_⟩;(conv=>whnf))
 exact⟨lr rfl,lh0⟩
def sgR (d:Dy):Int:=if d.m.length=0 then 0 else if d.neg=true then-1 else 1
theorem y149 (d:Dy) (hd:d=d0\/d=d1\/d=dm):Fn 119 [] [.agg (dyC d)] (.int .i64 (sgR d)) []:=by
 obtain rfl|rfl|rfl:=hd
 all_goals
  refine fnT hT4 hmx Tryz.func119 rfl rfl (ex:= []) ?_;conv=>whnf
  exact⟨lr rfl,lh0⟩
def cmR (a b:Dy):Int:=if sgR a<sgR b then-1 else if sgR b<sgR a then 1 else 0
theorem y94 (a b:Dy) (ha:a=d0\/a=d1\/a=dm) (hb:b=d0\/b=d1\/b=dm):Fn 52 [] [.agg (dyC a),.agg (dyC b)] (.int .i64 (cmR a b)) []:=by
 have h1:=y149 a ha;have h2:=y149 b hb;have h0:=y149 d0 (.inl rfl);have h150: ∀n,Fn 120 [] [.agg (dyC (pm n))] (.int .i64 1) []:=y150;have h152:=y152;have h151:=y151;obtain rfl|rfl|rfl:=ha<;>obtain rfl|rfl|rfl:=hb
 all_goals
  refine fnT hT4 hmx Tryz.func52 rfl rfl (ex:= []) ?_;conv=>whnf
  refine gZn h1 ?_;conv=>whnf
  refine gZn h2 ?_;conv=>whnf
  (refine⟨by kernel_rfl,by kernel_rfl,?_⟩;(conv=>whnf))
  first
   |exact⟨lr rfl,lh0⟩
   |(refine gZn (h150 _) ?_
     conv=>whnf
     refine gZn (h150 _) ?_;conv=>whnf
     (refine⟨by kernel_rfl,by kernel_rfl,?_⟩;(conv=>whnf))
     refine gZn (h152 _) ?_;conv=>whnf
     refine gZn (h151 _) ?_;conv=>whnf
     refine gZn h0 ?_;conv=>whnf
     (refine⟨by kernel_rfl,by kernel_rfl,?_⟩;(conv=>whnf))
     exact⟨lr rfl,lh0⟩)
def D3 (d:Dy):Prop:=d=d0\/d=d1\/d=dm
theorem D30:D3 d0:= .inl rfl
theorem D31:D3 d1:= .inr (.inl rfl)
theorem D3m:D3 dm:= .inr (.inr rfl)
theorem y148 (d:Dy) (hd:D3 d):Fn 25 [] [.agg (dyC d)] (.bool true) []:=by
 have h205:=y205;obtain rfl|rfl|rfl:=hd
 ·refine fnT hT4 hmx Tryz.func25 rfl rfl (ex:= []) ?_;conv=>whnf
  exact⟨lr rfl,lh0⟩
 all_goals
  refine fnT hT4 hmx Tryz.func25 rfl rfl (ex:= []) ?_;conv=>whnf
  refine zrr ?_;conv=>whnf
  refine zrr ?_;conv=>whnf
  refine gZn h205 ?_;conv=>whnf
  exact⟨lr rfl,lh0⟩
theorem y93 (a b:Dy) (ha:D3 a) (hb:D3 b) (hc:cmR a b<=0):Fn 74 [] [.agg (ivC ⟨a,b,false⟩)] (.bool true) []:=by
 have h1:=y148 a ha;have h2:=y148 b hb;have h3:=y94 a b ha hb;generalize cmR a b=c at hc h3;obtain⟨a1,a2,a3⟩:=a;obtain⟨b1,b2,b3⟩:=b;refine fnT hT4 hmx Tryz.func74 rfl rfl (ex:= []) ?_;conv=>whnf
 refine gZn h1 ?_;conv=>whnf
 refine gZn h2 ?_;conv=>whnf
 refine gZn h3 ?_;conv=>whnf
 exact⟨ab0 (by simp[hc]),lh0⟩
theorem y53 (a b:Dy) (ha:D3 a) (hb:D3 b) (hc:cmR a b<=0):Fn 147 [] [.agg (ivC ⟨a,b,false⟩)] (.bool true) []:=by
 have h1:=y93 a b ha hb hc;obtain⟨a1,a2,a3⟩:=a;obtain⟨b1,b2,b3⟩:=b;refine fnT hT4 hmx Tryz.func147 rfl rfl (ex:= []) ?_;conv=>whnf
 refine gZn h1 ?_;conv=>whnf
 exact⟨lr rfl,lh0⟩
theorem y55 (a b:Dy) (ha:D3 a) (hb:D3 b) (hc:cmR a b<=0):Fn 76 [] [.agg (dyC a),.agg (dyC b)] (.agg (dyC a)) []:=by
 have h3:=y94 a b ha hb;generalize cmR a b=c at hc h3;obtain⟨a1,a2,a3⟩:=a;obtain⟨b1,b2,b3⟩:=b;refine fnT hT4 hmx Tryz.func76 rfl rfl (ex:= []) ?_;conv=>whnf
 refine gZn h3 ?_;conv=>whnf
 refine brI (fun h=>?_) (fun h=>by simp only[decide_eq_false_iff_not]at h;omega);conv=>whnf
 exact⟨lr rfl,lh0⟩
theorem y56 (a b:Dy) (ha:D3 a) (hb:D3 b) (hc:cmR a b<0):Fn 75 [] [.agg (dyC a),.agg (dyC b)] (.agg (dyC b)) []:=by
 have h3:=y94 a b ha hb;generalize cmR a b=c at hc h3;obtain⟨a1,a2,a3⟩:=a;obtain⟨b1,b2,b3⟩:=b;refine fnT hT4 hmx Tryz.func75 rfl rfl (ex:= []) ?_;conv=>whnf
 refine gZn h3 ?_;conv=>whnf
 refine brI (fun h=>by simp only[decide_eq_true_eq]at h;omega) (fun h=>?_);conv=>whnf
 exact⟨lr rfl,lh0⟩
theorem y27 (a b:Dy) (ha:D3 a) (hb:D3 b) (hc:cmR a b<0):Fn 168 [] [.agg (ivC ⟨a,a,false⟩),.agg (ivC ⟨b,b,false⟩)] (.agg (ivC ⟨a,b,false⟩)) []:=by
 have haa:cmR a a<=0:=by obtain rfl|rfl|rfl:=ha<;>decide+kernel
 have hbb:cmR b b<=0:=by obtain rfl|rfl|rfl:=hb<;>decide+kernel
 have h1:=y53 a a ha ha haa;have h2:=y53 b b hb hb hbb;have h3:=y55 a b ha hb (by omega);have h4:=y56 a b ha hb hc;obtain⟨a1,a2,a3⟩:=a;obtain⟨b1,b2,b3⟩:=b;refine fnT hT4 hmx Tryz.func168 rfl rfl (ex:= []) ?_;conv=>whnf
 refine gZn h1 ?_;conv=>whnf
 refine gZn h2 ?_;conv=>whnf
 refine gZn h3 ?_;conv=>whnf
 refine gZn h4 ?_;conv=>whnf
 (refine⟨by kernel_rfl,by kernel_rfl,?_⟩;(conv=>whnf))
 exact⟨lr rfl,lh0⟩
theorem y29 (a:Dy) (ha:D3 a):Fn 174 [] [.agg (dyC a),.agg (dyC a)] (.bool true) []:=by
 have h:=y59 a.m (by obtain rfl|rfl|rfl:=ha<;>decide);obtain rfl|rfl|rfl:=ha
 all_goals
  refine fnT hT4 hmx Tryz.func174 rfl rfl (ex:= []) ?_;conv=>whnf
  refine gZn h ?_;conv=>whnf
  exact⟨lr rfl,lh0⟩
theorem y12 (a b:Dy) (ha:D3 a) (hb:D3 b):Fn 92 [] [.agg (ivC ⟨a,b,false⟩),.agg (ivC ⟨a,b,false⟩)] (.bool true) []:=by
 have h1:=y29 a ha;have h2:=y29 b hb;obtain⟨a1,a2,a3⟩:=a;obtain⟨b1,b2,b3⟩:=b;refine fnT hT4 hmx Tryz.func92 rfl rfl (ex:= []) ?_;conv=>whnf
 refine gZn h1 ?_;conv=>whnf
 refine gZn h2 ?_;conv=>whnf
 exact⟨lr rfl,lh0⟩
theorem y58:Fn 255 [] [.agg (dyC d1)] (.agg (dyC dm)) []:=by
 refine fnT hT4 hmx Tryz.func255 rfl rfl (ex:= []) ?_;conv=>whnf
 exact⟨lr rfl,lh0⟩
abbrev p2 (s:Nat):Int:=((2^s:Nat):Int)
theorem qhd: ∀s k:Fin 32,IntKind.u32.wrap ((q3 IntKind.u32.bits ((p2 s.val).fdiv (2^min ((k.val:Nat):Int).toNat IntKind.u32.bits))&&& q3 IntKind.u32.bits 1).toNat :Int)=if k.val=s.val then 1 else 0:=by decide+kernel
theorem y97 (s:Nat) (hs:s<32):Fn 332 [] [.sl .u32 [p2 s]] (.int .i64 (s+1)) []:=by
 refine fnT hT4 hmx Tryz.func332 rfl rfl (ex:= []) ?_;conv=>whnf
 refine⟨Unit,fun _=>True,fun _=> [(3,.int .i64 0)],fun _=> [],fun _=>0,(),trivial,?_,fun _ _=>?_⟩
 ·((conv=>whnf);refine q2 ?_ ?_;repeat' first|refine lc ?_ ?_|exact la0|exact lr rfl|exact ln0|refine lh1 ?_ ?_|exact lh0|exact bf0|exact bd0|refine bc0 ?_|exact bm0 rfl|exact bg0 rfl|exact li0 rfl|refine lg0 ?_|refine lt0 ?_|fail)
 (refine⟨by kernel_rfl,?_⟩;(conv=>whnf))
 refine⟨Nat,fun j=>s<j/\j<=32,fun j=> [(4,.int .i64 (j-1))],fun _=> [],fun j=>j,32,⟨hs,Nat.le_refl _⟩,?_,fun j hj=>?_⟩
 ·((conv=>whnf);refine q2 ?_ ?_;repeat' first|refine lc ?_ ?_|exact la0|exact lr rfl|exact ln0|refine lh1 ?_ ?_|exact lh0|exact bf0|exact bd0|refine bc0 ?_|exact bm0 rfl|exact bg0 rfl|exact li0 rfl|refine lg0 ?_|refine lt0 ?_|fail)
 obtain⟨hj1,hj2⟩:=hj;obtain⟨k,rfl⟩: ∃k,j=k+1:=⟨j-1,by omega⟩
 (refine⟨by kernel_rfl,?_⟩;(conv=>whnf))
 refine brI (fun h1=>?_) (fun h1=>by simp only[decide_eq_false_iff_not]at h1;omega);conv=>whnf
 refine zrr ?_;conv=>whnf
 refine⟨by omega,?_⟩;conv=>whnf
 have hk:(((k+1:Nat):Int)-1)=(k:Int):=by omega
 rw[hk,qhd ⟨s,hs⟩ ⟨k,by omega⟩];by_cases h:k=s
 ·subst h;rw[if_pos rfl];conv=>whnf
  exact⟨ai0 (by
   show IntKind.i64.wrap (IntKind.i64.wrap (0+(k:Int))+1)=k+1;rw[wI (x:=0+(k:Int)) (by omega),wI (by omega)];omega),lh0⟩
 ·rw[if_neg h];conv=>whnf
  refine⟨k,⟨by omega,by omega⟩,by show k<k+1;omega,?_⟩
  ((conv=>whnf);refine q2 ?_ ?_;repeat' first|refine lc ?_ ?_|exact la0|exact lr rfl|exact ln0|refine lh1 ?_ ?_|exact lh0|exact bf0|exact bd0|refine bc0 ?_|exact bm0 rfl|exact bg0 rfl|exact li0 rfl|refine lg0 ?_|refine lt0 ?_|fail)
  exact ai0 (by rw[wI (by omega)])
theorem y98 (s:Nat) (hs:s<32) (j:Nat) (hj:j<=1000):Fn 333 [] [.sl .u32 [p2 s],.int .i64 j] (.int .i64 (if j=s then 1 else 0)) []:=by
 refine fnT hT4 hmx Tryz.func333 rfl rfl (ex:= []) ?_;conv=>whnf
 refine brI (fun h1=>?_) (fun h1=>?_)
 ·have h1:32<=(j:Int):=of_decide_eq_true h1;conv=>whnf
  exact⟨ai0 (by rw[if_neg (by omega)]),lh0⟩
 ·have h1: ¬32<=(j:Int):=of_decide_eq_false h1;conv=>whnf
  refine⟨by decide,?_⟩;conv=>whnf
  have hq:IntKind.i64.wrap ((j:Int).tdiv 32)=0:=by
   rw[show(j:Int).tdiv 32=((j/32:Nat):Int)from Int.ofNat_tdiv j 32,Nat.div_eq_of_lt (by omega)];rfl
  have hr:(j:Int).tmod 32=j:=by
   rw[show(j:Int).tmod 32=((j % 32:Nat):Int)from Int.ofNat_tmod j 32,Nat.mod_eq_of_lt (by omega)]
  rw[hq];refine zrr ?_;conv=>whnf
  refine⟨by decide,?_⟩;conv=>whnf
  rw[hr];refine⟨by omega,?_⟩;conv=>whnf
  refine⟨ai0 ?_,lh0⟩;rw[qhd ⟨s,hs⟩ ⟨j,by omega⟩];by_cases h:j=s
  ·subst h;simp only[if_pos];rfl
  ·rw[if_neg h];rfl
theorem fd31: ∀s:Fin 31,(p2 s.val).fdiv (2^min (Int.toNat 31) IntKind.u32.bits)=0:=by decide+kernel
theorem or31: ∀s:Fin 31,IntKind.u32.wrap ((q3 IntKind.u32.bits (IntKind.u32.wrap (p2 s.val*2^min (Int.toNat 1) IntKind.u32.bits))|||q3 IntKind.u32.bits 0).toNat :Int)=p2 (s.val+1):=by decide+kernel
theorem y95n:Fn 330 [] [.sl .u32 [],.int .u64 0] (.sl .u32 []) []:=by
 refine fnT hT4 hmx Tryz.func330 rfl rfl (ex:= []) ?_;conv=>whnf
 refine⟨Unit,fun _=>True,fun _=> [(7,.int .i64 0),(5,.own 25),(6,.int .u32 0)],fun _=> [(25,.buf 108 .u32 [])],fun _=>0,(),trivial,?_,fun _ _=>?_⟩
 ·((conv=>whnf);refine q2 ?_ ?_;repeat' first|refine lc ?_ ?_|exact la0|exact lr rfl|exact ln0|refine lh1 ?_ ?_|exact lh0|exact bf0|exact bd0|refine bc0 ?_|exact bm0 rfl|exact bb0 rfl|exact bg0 rfl|exact li0 rfl|refine lg0 ?_|refine lt0 ?_|fail)
  all_goals first|exact trivial|exact⟨rfl,rfl⟩
 (refine⟨by kernel_rfl,?_⟩;(conv=>whnf))
 exact⟨lr rfl,lh0⟩
theorem y95 (s:Nat) (hs:s<31):Fn 330 [] [.sl .u32 [p2 s],.int .u64 0] (.sl .u32 [p2 (s+1)]) []:=by
 refine fnT hT4 hmx Tryz.func330 rfl rfl (ex:= []) ?_;conv=>whnf
 refine⟨Nat,fun i=>i<=1,fun i=> [(7,.int .i64 i),(5,.own 25),(6,.int .u32 0)],fun i=> [(25,.buf 108 .u32 (if i=0 then []else [p2 (s+1)]))],fun i=>1-i,0,by simp,?_,fun i hi=>?_⟩
 ·((conv=>whnf);refine q2 ?_ ?_;repeat' first|refine lc ?_ ?_|exact la0|exact lr rfl|exact ln0|refine lh1 ?_ ?_|exact lh0|exact bf0|exact bd0|refine bc0 ?_|exact bm0 rfl|exact bb0 rfl|exact bg0 rfl|exact li0 rfl|refine lg0 ?_|refine lt0 ?_|fail)
  all_goals first|exact trivial|exact⟨rfl,rfl⟩
 obtain rfl|rfl:i=0\/i=1:=by omega
 ·(refine⟨by kernel_rfl,?_⟩;(conv=>whnf))
  refine zrr ?_;conv=>whnf
  refine⟨by decide,?_⟩;conv=>whnf
  refine⟨by show(0+1)*4<=140737488355328;decide,?_⟩;conv=>whnf
  refine zrr ?_;conv=>whnf
  refine⟨by decide,?_⟩;conv=>whnf
  refine⟨1,by decide,by decide,?_⟩
  ((conv=>whnf);refine q2 ?_ ?_;repeat' first|refine lc ?_ ?_|exact la0|exact lr rfl|exact ln0|refine lh1 ?_ ?_|exact lh0|exact bf0|exact bd0|refine bc0 ?_|exact bm0 rfl|exact bb0 rfl|exact bg0 rfl|exact li0 rfl|refine lg0 ?_|refine lt0 ?_|fail)
  ·exact ai0 (fd31 ⟨s,hs⟩)
  ·exact bb0 (congrArg (fun x=> [x]) (or31 ⟨s,hs⟩))
 ·(refine⟨by kernel_rfl,?_⟩;(conv=>whnf))
  exact⟨lr rfl,lh0⟩
theorem y96:Fn 331 [] [.sl .u32 []] (.sl .u32 [1]) []:=by
 refine fnT hT4 hmx Tryz.func331 rfl rfl (ex:= []) ?_;conv=>whnf
 exact⟨lr rfl,lh0⟩
theorem or23: ∀k:Fin 24,IntKind.u32.wrap ((q3 IntKind.u32.bits 0|||q3 IntKind.u32.bits (IntKind.u32.wrap (IntKind.u32.wrap (if k.val=23 then 1 else 0)*2^min ((k.val:Nat):Int).toNat IntKind.u32.bits))).toNat :Int)=if k.val=23 then 8388608 else 0:=by decide+kernel
theorem or0: ∀k:Fin 32,IntKind.u32.wrap ((q3 IntKind.u32.bits (if k.val=0 then 0 else 1)|||q3 IntKind.u32.bits (IntKind.u32.wrap (IntKind.u32.wrap (if 23+k.val=23 then 1 else 0)*2^min ((k.val:Nat):Int).toNat IntKind.u32.bits))).toNat :Int)=1:=by decide+kernel
theorem y99:Fn 334 [] [.bool false,.sl .u32 [p2 23],.int .i64 (-23)] (.agg (dyC d1)) []:=by
 have h97:=y97 23 (by decide);have h98:=y98 23 (by decide);refine fnT hT4 hmx Tryz.func334 rfl rfl (ex:= []) ?_;conv=>whnf
 refine gZn h97 ?_;conv=>whnf
 refine⟨Nat,fun j=>j<=23,fun j=> [(8,.int .i64 j)],fun _=> [],fun j=>23-j,0,by simp,?_,fun j hj=>?_⟩
 ·((conv=>whnf);refine q2 ?_ ?_;repeat' first|refine lc ?_ ?_|exact la0|exact lr rfl|exact ln0|refine lh1 ?_ ?_|exact lh0|exact bf0|exact bd0|refine bc0 ?_|exact bm0 rfl|exact bg0 rfl|exact li0 rfl|refine lg0 ?_|refine lt0 ?_|fail)
 (refine⟨by kernel_rfl,?_⟩;(conv=>whnf))
 refine gZn (h98 j (by omega)) ?_;by_cases h:j=23
 rotate_left
 ·rw[if_neg h];conv=>whnf
  refine⟨j+1,by show j+1<=23;omega,by show 23-(j+1)<23-j;omega,?_⟩
  ((conv=>whnf);refine q2 ?_ ?_;repeat' first|refine lc ?_ ?_|exact la0|exact lr rfl|exact ln0|refine lh1 ?_ ?_|exact lh0|exact bf0|exact bd0|refine bc0 ?_|exact bm0 rfl|exact bg0 rfl|exact li0 rfl|refine lg0 ?_|refine lt0 ?_|fail)
  exact ai0 (by rw[wI (by omega)];omega)
 subst h;rw[if_pos rfl];conv=>whnf
 refine⟨Nat,fun i=>i<=1,fun i=> [(10,.int .i64 (23+32*i))],fun i=> [(9,.cells (if i=0 then [.bool false,.nilsl,.int .i64 0]else [.bool false,.own 53,.int .i64 0])),(53,if i=0 then .free else .buf 108 .u32 [1])],fun i=>1-i,0,by simp,?_,fun i hi=>?_⟩
 ·((conv=>whnf);refine q2 ?_ ?_;repeat' first|refine lc ?_ ?_|exact la0|exact lr rfl|exact ln0|refine lh1 ?_ ?_|exact lh0|exact bf0|exact bd0|refine bc0 ?_|exact bm0 rfl|exact bb0 rfl|exact bg0 rfl|exact li0 rfl|refine lg0 ?_|refine lt0 ?_|fail)
 obtain rfl|rfl:i=0\/i=1:=by omega
 ·(refine⟨by kernel_rfl,?_⟩;(conv=>whnf))
  refine⟨Nat,fun k=>k<=32,fun k=> [(12,.int .i64 k),(11,.int .u32 (if k=0 then 0 else 1))],fun _=> [],fun k=>32-k,0,by simp,?_,fun k hk=>?_⟩
  ·((conv=>whnf);refine q2 ?_ ?_;repeat' first|refine lc ?_ ?_|exact la0|exact lr rfl|exact ln0|refine lh1 ?_ ?_|exact lh0|exact bf0|exact bd0|refine bc0 ?_|exact bm0 rfl|exact bb0 rfl|exact bg0 rfl|exact li0 rfl|refine lg0 ?_|refine lt0 ?_|fail)
  (refine⟨by kernel_rfl,?_⟩;(conv=>whnf))
  refine brI (fun h1=>?_) (fun h1=>?_)
  ·have h1:k<32:=by simp only[decide_eq_true_eq]at h1;omega
   have hw:IntKind.i64.wrap (23+32*((0:Nat):Int)+(k:Int))=((23+k:Nat):Int):=by rw[wI (by omega)];omega
   conv=>whnf
   rw[hw];refine gZn (h98 (23+k) (by omega)) ?_;conv=>whnf
   refine⟨by omega,?_⟩;conv=>whnf
   refine⟨k+1,by show k+1<=32;omega,by show 32-(k+1)<32-k;omega,?_⟩
   ((conv=>whnf);refine q2 ?_ ?_;repeat' first|refine lc ?_ ?_|exact la0|exact lr rfl|exact ln0|refine lh1 ?_ ?_|exact lh0|exact bf0|exact bd0|refine bc0 ?_|exact bm0 rfl|exact bb0 rfl|exact bg0 rfl|exact li0 rfl|refine lg0 ?_|refine lt0 ?_|fail)
   ·exact ai0 ((or0 ⟨k,h1⟩).trans (by simp))
   ·exact ai0 (by rw[wI (by omega)];omega)
  ·have h1: ¬k<32:=by simp only[decide_eq_false_iff_not]at h1;omega
   have hk:k<=32:=hk;obtain rfl:k=32:=by omega
   conv=>whnf
   refine⟨by decide,?_⟩;conv=>whnf
   refine⟨1,by decide,by decide,?_⟩
   ((conv=>whnf);refine q2 ?_ ?_;repeat' first|refine lc ?_ ?_|exact la0|exact lr rfl|exact ln0|refine lh1 ?_ ?_|exact lh0|exact bf0|exact bd0|refine bc0 ?_|exact bm0 rfl|exact bb0 rfl|exact bg0 rfl|exact li0 rfl|refine lg0 ?_|refine lt0 ?_|fail)
 ·(refine⟨by kernel_rfl,?_⟩;(conv=>whnf))
  exact⟨lr rfl,lh0⟩
theorem bit64: ∀n:Fin 64,IntKind.u64.wrap ((q3 IntKind.u64.bits ((1:Int).fdiv (2^min ((n.val:Nat):Int).toNat IntKind.u64.bits))&&& q3 IntKind.u64.bits 1).toNat :Int)=if n.val=0 then 1 else 0:=by decide+kernel
theorem y57:Fn 253 [] [.int .u64 1,.int .u64 1,.int .i64 24] (.tup [.agg (dyC d1),.agg (dyC d1)]) []:=by
 have h98:=y98 23 (by decide);refine fnT hT4 hmx Tryz.func253 rfl rfl (ex:= []) ?_;conv=>whnf
 refine⟨Nat×AV×Blk,fun x=>(x.1=64/\x.2=(.own 21,.buf 108 .u32 []))\/(1<=x.1/\x.1<64/\x.2=(.sl .u32 [],.dead))\/(x.1=0/\x.2=(.sl .u32 [p2 0],.dead)),fun x=> [(11,.int .i64 (x.1-1)),(8,x.2.1),(9,.int .u64 0),(21,.any)],fun x=> [(21,x.2.2)],fun x=>x.1,(64,.own 21,.buf 108 .u32 []),.inl ⟨rfl,rfl⟩,?_,fun x hx=>?_⟩
 ·((conv=>whnf);refine q2 ?_ ?_;repeat' first|refine lc ?_ ?_|exact la0|exact lr rfl|exact ln0|refine lh1 ?_ ?_|exact lh0|exact bf0|exact bd0|refine bc0 ?_|exact bm0 rfl|exact bb0 rfl|exact bg0 rfl|exact li0 rfl|refine lg0 ?_|refine lt0 ?_|fail)
 obtain⟨r,m,b⟩:=x;simp only at hx;obtain⟨rfl,hx⟩|⟨hr1,hr2,hx⟩|⟨rfl,hx⟩:=hx
 ·obtain⟨rfl,rfl⟩:=Prod.mk.inj hx
  (refine⟨by kernel_rfl,?_⟩;(conv=>whnf))
  refine⟨by decide,?_⟩;conv=>whnf
  refine⟨by decide,?_⟩;conv=>whnf
  refine⟨by decide,?_⟩;conv=>whnf
  refine⟨by decide,?_⟩;conv=>whnf
  refine gZn y95n ?_;conv=>whnf
  refine⟨(63,.sl .u32 [],.dead),.inr (.inl ⟨by decide,by decide,rfl⟩),by decide,?_⟩
  ((conv=>whnf);refine q2 ?_ ?_;repeat' first|refine lc ?_ ?_|exact la0|exact lr rfl|exact ln0|refine lh1 ?_ ?_|exact lh0|exact bf0|exact bd0|refine bc0 ?_|exact bm0 rfl|exact bb0 rfl|exact bg0 rfl|exact li0 rfl|refine lg0 ?_|refine lt0 ?_|fail)
 ·obtain⟨rfl,rfl⟩:=Prod.mk.inj hx;obtain⟨k,rfl⟩: ∃k,r=k+1:=⟨r-1,by omega⟩;have hn:((k+1:Nat):Int)-1=(k:Int):=by omega
  (refine⟨by kernel_rfl,?_⟩;(conv=>whnf))
  refine brI (fun h1=>?_) (fun h1=>by simp only[decide_eq_false_iff_not]at h1;omega);conv=>whnf
  rw[hn];refine⟨by omega,?_⟩;conv=>whnf
  rw[bit64 ⟨k,by omega⟩];by_cases hk:k=0
  ·subst hk;rw[if_pos rfl];refine⟨by decide,?_⟩;conv=>whnf
   refine⟨by decide,?_⟩;conv=>whnf
   refine⟨by decide,?_⟩;conv=>whnf
   refine gZn y95n ?_;conv=>whnf
   refine gZn y96 ?_;conv=>whnf
   refine⟨(0,.sl .u32 [p2 0],.dead),.inr (.inr ⟨rfl,rfl⟩),by show 0<0+1;omega,?_⟩
   ((conv=>whnf);refine q2 ?_ ?_;repeat' first|refine lc ?_ ?_|exact la0|exact lr rfl|exact ln0|refine lh1 ?_ ?_|exact lh0|exact bf0|exact bd0|refine bc0 ?_|exact bm0 rfl|exact bb0 rfl|exact bg0 rfl|exact li0 rfl|refine lg0 ?_|refine lt0 ?_|fail)
  ·rw[if_neg hk];refine⟨by decide,?_⟩;conv=>whnf
   refine⟨by decide,?_⟩;conv=>whnf
   refine⟨by decide,?_⟩;conv=>whnf
   refine gZn y95n ?_;conv=>whnf
   refine⟨(k,.sl .u32 [],.dead),.inr (.inl ⟨by show 1<=k;omega,by show k<64;omega,rfl⟩),by show k<k+1;omega,?_⟩
   ((conv=>whnf);refine q2 ?_ ?_;repeat' first|refine lc ?_ ?_|exact la0|exact lr rfl|exact ln0|refine lh1 ?_ ?_|exact lh0|exact bf0|exact bd0|refine bc0 ?_|exact bm0 rfl|exact bb0 rfl|exact bg0 rfl|exact li0 rfl|refine lg0 ?_|refine lt0 ?_|fail)
   exact ai0 (by show IntKind.i64.wrap ((k:Int)-1)=(k:Int)-1;rw[wI (by omega)])
 ·obtain⟨rfl,rfl⟩:=Prod.mk.inj hx
  (refine⟨by kernel_rfl,?_⟩;(conv=>whnf))
  refine⟨Nat,fun k=>k<=23,fun k=> [(8,.sl .u32 [p2 k]),(9,.int .u64 0),(10,.int .i64 (-k))],fun _=> [],fun k=>23-k,0,by simp,?_,fun k hk=>?_⟩
  ·((conv=>whnf);refine q2 ?_ ?_;repeat' first|refine lc ?_ ?_|exact la0|exact lr rfl|exact ln0|refine lh1 ?_ ?_|exact lh0|exact bf0|exact bd0|refine bc0 ?_|exact bm0 rfl|exact bb0 rfl|exact bg0 rfl|exact li0 rfl|refine lg0 ?_|refine lt0 ?_|fail)
  have h97:=y97 k (by omega)
  (refine⟨by kernel_rfl,?_⟩;(conv=>whnf))
  refine gZn h97 ?_;conv=>whnf
  refine brI (fun h1=>?_) (fun h1=>?_)
  ·have h1:k<23:=by simp only[decide_eq_true_eq]at h1;omega
   conv=>whnf
   refine gZn (y95 k (by omega)) ?_;conv=>whnf
   refine⟨k+1,by show k+1<=23;omega,by show 23-(k+1)<23-k;omega,?_⟩
   ((conv=>whnf);refine q2 ?_ ?_;repeat' first|refine lc ?_ ?_|exact la0|exact lr rfl|exact ln0|refine lh1 ?_ ?_|exact lh0|exact bf0|exact bd0|refine bc0 ?_|exact bm0 rfl|exact bb0 rfl|exact bg0 rfl|exact li0 rfl|refine lg0 ?_|refine lt0 ?_|fail)
   exact ai0 (by rw[wI (by omega)];omega)
  ·have h1: ¬k<23:=by simp only[decide_eq_false_iff_not]at h1;omega
   obtain rfl:k=23:=by omega
   conv=>whnf
   refine gZn h97 ?_;conv=>whnf
   refine⟨Nat,fun i=>i<=1,fun i=> [(16,.int .i64 (32*i)),(15,if i=0 then .nilsl else .own 102)],fun i=> [(102,if i=0 then .free else .buf 108 .u32 [8388608])],fun i=>1-i,0,by simp,?_,fun i hi=>?_⟩
   ·((conv=>whnf);refine q2 ?_ ?_;repeat' first|refine lc ?_ ?_|exact la0|exact lr rfl|exact ln0|refine lh1 ?_ ?_|exact lh0|exact bf0|exact bd0|refine bc0 ?_|exact bm0 rfl|exact bb0 rfl|exact bg0 rfl|exact li0 rfl|refine lg0 ?_|refine lt0 ?_|fail)
   obtain rfl|rfl:i=0\/i=1:=by omega
   ·(refine⟨by kernel_rfl,?_⟩;(conv=>whnf))
    refine⟨Nat,fun k=>k<=24,fun k=> [(18,.int .i64 k),(17,.int .u32 (if k=24 then 8388608 else 0))],fun _=> [],fun k=>24-k,0,by simp,?_,fun k hk=>?_⟩
    ·((conv=>whnf);refine q2 ?_ ?_;repeat' first|refine lc ?_ ?_|exact la0|exact lr rfl|exact ln0|refine lh1 ?_ ?_|exact lh0|exact bf0|exact bd0|refine bc0 ?_|exact bm0 rfl|exact bb0 rfl|exact bg0 rfl|exact li0 rfl|refine lg0 ?_|refine lt0 ?_|fail)
    have hk:k<=24:=hk
    (refine⟨by kernel_rfl,?_⟩;(conv=>whnf))
    refine brI (fun _=>?_) (fun h1=>by simp only[decide_eq_false_iff_not]at h1;omega);conv=>whnf
    refine brI (fun h2=>?_) (fun h2=>?_)
    ·have h2:IntKind.i64.wrap (32*((0:Nat):Int)+(k:Int))<24:=of_decide_eq_true h2;rw[wI (by omega)]at h2;have hw:IntKind.i64.wrap (IntKind.i64.wrap (IntKind.i64.wrap (((23:Nat):Int)+1-24)+32*((0:Nat):Int))+(k:Int))=(k:Int):=by
      rw[show IntKind.i64.wrap (IntKind.i64.wrap (((23:Nat):Int)+1-24)+32*((0:Nat):Int))=0 from rfl,wI (by omega)];omega
     conv=>whnf
     rw[hw];refine gZn (h98 k (by omega)) ?_;conv=>whnf
     refine⟨by omega,?_⟩;conv=>whnf
     refine⟨k+1,by show k+1<=24;omega,by show 24-(k+1)<24-k;omega,?_⟩
     ((conv=>whnf);refine q2 ?_ ?_;repeat' first|refine lc ?_ ?_|exact la0|exact lr rfl|exact ln0|refine lh1 ?_ ?_|exact lh0|exact bf0|exact bd0|refine bc0 ?_|exact bm0 rfl|exact bb0 rfl|exact bg0 rfl|exact li0 rfl|refine lg0 ?_|refine lt0 ?_|fail)
     ·refine ai0 ?_;rw[if_neg (show ¬k=24 by omega)];refine(or23 ⟨k,by omega⟩).trans ?_;by_cases h:k=23
      ·subst h;rfl
      ·rw[if_neg h,if_neg (by omega)]
     ·exact ai0 (by rw[wI (by omega)];omega)
    ·have h2: ¬IntKind.i64.wrap (32*((0:Nat):Int)+(k:Int))<24:=of_decide_eq_false h2;rw[wI (by omega)]at h2;obtain rfl:k=24:=by omega
     conv=>whnf
     refine⟨by decide,?_⟩;conv=>whnf
     refine⟨1,by decide,by decide,?_⟩
     ((conv=>whnf);refine q2 ?_ ?_;repeat' first|refine lc ?_ ?_|exact la0|exact lr rfl|exact ln0|refine lh1 ?_ ?_|exact lh0|exact bf0|exact bd0|refine bc0 ?_|exact bm0 rfl|exact bb0 rfl|exact bg0 rfl|exact li0 rfl|refine lg0 ?_|refine lt0 ?_|fail)
   ·(refine⟨by kernel_rfl,?_⟩;(conv=>whnf))
    refine⟨Unit,fun _=>True,fun _=> [(19,.int .i64 0),(14,.bool true)],fun _=> [],fun _=>0,(),trivial,?_,fun _ _=>?_⟩
    ·((conv=>whnf);refine q2 ?_ ?_;repeat' first|refine lc ?_ ?_|exact la0|exact lr rfl|exact ln0|refine lh1 ?_ ?_|exact lh0|exact bf0|exact bd0|refine bc0 ?_|exact bm0 rfl|exact bb0 rfl|exact bg0 rfl|exact li0 rfl|refine lg0 ?_|refine lt0 ?_|fail)
    (refine⟨by kernel_rfl,?_⟩;(conv=>whnf))
    refine gZn y99 ?_;conv=>whnf
    (refine⟨by kernel_rfl,by kernel_rfl,?_⟩;(conv=>whnf))
    exact⟨lr rfl,lh0⟩
theorem leZ {h h':Hp}:leA h h' (.agg [.bool false,.nilsl,.int .i64 0,.bool false,.nilsl,.int .i64 0,.bool false]) (.agg (ivC ⟨d0,d0,false⟩)):=
 lg0 (lc (lr rfl) (lc (li0 rfl) (lc (lr rfl) (lc (lr rfl) (lc (li0 rfl) (lc (lr rfl) (lc (lr rfl) ln0)))))))
theorem y28z:Fn 169 [] [.agg [.int .i64 0,.int .i64 1],.int .i64 24] (.agg (ivC ⟨d0,d0,false⟩)) []:=by
 have h21:=f131 0 1;rw[show rOk ⟨0,1⟩=true by decide+kernel]at h21;refine fnT hT4 hmx Tryz.func169 rfl rfl (ex:= []) ?_;conv=>whnf
 refine gZn h21 ?_;conv=>whnf
 exact⟨leZ,lh0⟩
theorem y28p:Fn 169 [] [.agg [.int .i64 1,.int .i64 1],.int .i64 24] (.agg (ivC ⟨d1,d1,false⟩)) []:=by
 have h21:=f131 1 1;rw[show rOk ⟨1,1⟩=true by decide+kernel]at h21;refine fnT hT4 hmx Tryz.func169 rfl rfl (ex:= []) ?_;conv=>whnf
 refine gZn h21 ?_;conv=>whnf
 refine gZn (f156 1 (by decide)) ?_;conv=>whnf
 refine gZn y57 ?_;conv=>whnf
 (refine⟨by kernel_rfl,by kernel_rfl,?_⟩;(conv=>whnf))
 exact⟨lr rfl,lh0⟩
theorem y28m:Fn 169 [] [.agg [.int .i64 (-1),.int .i64 1],.int .i64 24] (.agg (ivC ⟨dm,dm,false⟩)) []:=by
 have h21:=f131 (-1) 1;rw[show rOk ⟨-1,1⟩=true by decide+kernel]at h21;refine fnT hT4 hmx Tryz.func169 rfl rfl (ex:= []) ?_;conv=>whnf
 refine gZn h21 ?_;conv=>whnf
 refine gZn (f156 (-1) (by decide)) ?_;conv=>whnf
 refine gZn y57 ?_;conv=>whnf
 (refine⟨by kernel_rfl,by kernel_rfl,?_⟩;(conv=>whnf))
 refine gZn y58 ?_;conv=>whnf
 refine gZn y58 ?_;conv=>whnf
 (refine⟨by kernel_rfl,by kernel_rfl,?_⟩;(conv=>whnf))
 exact⟨lr rfl,lh0⟩
theorem y10 (n:Int) (a:Dy) (ha:D3 a) (hc:cmR a d1<0) (h:Fn 169 [] [.agg [.int .i64 n,.int .i64 1],.int .i64 24] (.agg (ivC ⟨a,a,false⟩)) []):Fn 90 [] [.int .i64 n,.int .i64 1] (.agg (ivC ⟨a,d1,false⟩)) []:=by
 have h27:=y27 a d1 ha D31 hc;obtain⟨a1,a2,a3⟩:=a;refine fnT hT4 hmx Tryz.func90 rfl rfl (ex:= []) ?_;conv=>whnf
 refine gZn h ?_;conv=>whnf
 refine gZn y28p ?_;conv=>whnf
 refine gZn h27 ?_;conv=>whnf
 exact⟨lr rfl,lh0⟩
theorem y10z:Fn 90 [] [.int .i64 0,.int .i64 1] (.agg (ivC i01)) []:=y10 0 d0 D30 (by decide+kernel) y28z
theorem y10m:Fn 90 [] [.int .i64 (-1),.int .i64 1] (.agg (ivC im1)) []:=y10 (-1) dm D3m (by decide+kernel) y28m
theorem y7 (s:ze):Fn 88 [] [.str s] (.agg (exC (zi5 s))) []:=by
 refine fnT hT4 hmx Tryz.func88 rfl rfl (ex:= []) ?_;conv=>whnf
 exact⟨lg0 (lc (lr rfl) (lc (lr rfl) (lc (lr rfl) (lc (lr rfl) (lc (lr rfl) (lc (li0 rfl) ln0)))))),lh0⟩
theorem y9 (k:Int) (l:List Ex):Fn 89 [] [.int .i64 k,.sl .ex l] (.agg (exC (opE k 0 l))) []:=by
 refine fnT hT4 hmx Tryz.func89 rfl rfl (ex:= []) ?_;conv=>whnf
 exact⟨lr rfl,lh0⟩
theorem y11 (n:Int):Fn 37 [] [.int .i64 n] (.agg (exC (zhs ⟨n,1⟩))) []:=by
 refine fnT hT4 hmx Tryz.func37 rfl rfl (ex:= []) ?_;conv=>whnf
 exact⟨lg0 (lc (lr rfl) (lc (lr rfl) (lc (lr rfl) (lc (lr rfl) (lc (lr rfl) (lc (li0 rfl) ln0)))))),lh0⟩
def eB:Ex:=opE 6 0 [zhs ⟨1,1⟩,opE 4 0 [zi5 [120],zhs ⟨1,1⟩]]
theorem exBv:exF eB [[120]] [⟨1,1⟩]=(⟨0,0⟩,10):=by
 have h1:xcE (zl1 [[120]] [⟨1,1⟩] []) eB=(⟨0,0⟩,10):=by decide+kernel
 have h2:(nmE eB).all (zv8 (zl1 [[120]] [⟨1,1⟩] []))=true:=by
  rw[List.all_eq_true];intro n hn;rw[zm6 (by decide+kernel)]at hn;obtain⟨y,hy,hk,rfl⟩:=hn;have h: ∀y∈zfe eB,y.k=2->zv8 (zl1 [[120]] [⟨1,1⟩] []) y.s=true:=by decide+kernel
  exact h y hy hk
 unfold exF;rw[if_pos ⟨by decide,by decide+kernel,by decide+kernel,by decide+kernel,h2⟩,h1];rfl
theorem y4:Fn 30 G0 [] (.bool true) G0:=by
 have h5:=f51 eB [[120]] [⟨1,1⟩] (by simp[eB,opE,zhs,zi5,Sm,SmL]) (by decide) (by decide);rw[exBv]at h5;refine fnT hT4 hmx Tryz.func30 rfl rfl (ex:= []) ?_;conv=>whnf
 refine gZn (y7 [120]) ?_;conv=>whnf
 refine gZn (y9 5 [xE,xE]) ?_;conv=>whnf
 refine gZn (y9 4 [opE 5 0 [xE,xE],xE]) ?_;conv=>whnf
 refine gZn y10z ?_;conv=>whnf
 refine gZc y8 ?_;conv=>whnf
 (refine⟨by kernel_rfl,by kernel_rfl,?_⟩;(conv=>whnf))
 refine gZn (y11 1) ?_;conv=>whnf
 refine gZn (y11 1) ?_;conv=>whnf
 refine gZn (y9 4 [xE,zhs ⟨1,1⟩]) ?_;conv=>whnf
 refine gZn (y9 6 [zhs ⟨1,1⟩,opE 4 0 [xE,zhs ⟨1,1⟩]]) ?_;conv=>whnf
 refine gZn h5 ?_;conv=>whnf
 (refine⟨by kernel_rfl,by kernel_rfl,?_⟩;(conv=>whnf))
 refine gZn y10m ?_;conv=>whnf
 refine gZn (y12 dm d1 D3m D31) ?_;conv=>whnf
 (refine⟨by kernel_rfl,by kernel_rfl,?_⟩;(conv=>whnf))
 exact⟨lr rfl,leG⟩
end Go.Proofs.YtbolipecnhlnnaaGreatDoor
