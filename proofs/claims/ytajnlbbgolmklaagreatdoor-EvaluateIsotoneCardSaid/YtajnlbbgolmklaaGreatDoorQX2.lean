/-
  Law 17, EvaluateIsotone (printed by genx2.py).
-/
import Derived.Test.YtajnlbbgolmklaaGreatDoorQXa
import Derived.Test.YtajnlbbgolmklaaGreatDoorQYc
set_option linter.unusedVariables false
set_option linter.unusedSimpArgs false
namespace Go.Proofs.YtajnlbbgolmklaaGreatDoor
open Go Go.Sx
set_option maxRecDepth 100000
set_option maxHeartbeats 8000000
theorem apK_a (fx:Int→Iv→Int→Iv) (p:Int):ApK fx Ka p:=fun _ n x y hk hx hy=>⟨i52 hk n x y hx hy p,CI_ap hk n y p hx⟩
noncomputable def body3:Code:=Tryz.f3.body.getD .skip
theorem sem_freeze {P:Program} {T:Tab} {res:List ResultVar} {ex:List Nat} {rv:AV} {H':Hp} {c:Code} {σ:St} (is:List Nat) (h:freezeK is σ fun τ=>SemOK P T res ex rv H' c τ):SemOK P T res ex rv H' c σ:=
 ⟨fun c0 a w Q hr hq=>by
  obtain⟨τ,hr',hk⟩:=freezeK_sound hr h
  exact hk.sem c0 a w Q hr' hq⟩
theorem x3 (e:Ex) (ns:List Bytes) (xs ms:List Iv) (p:Int) (he:Sm e) (h1:ns.length<9223372036854775808) (h2:xs.length<9223372036854775808) (h3:ms.length<9223372036854775808)
 (hx: ∀x∈xs,LB x.lo.m∧LB x.hi.m) (hm: ∀x∈ms,LB x.lo.m∧LB x.hi.m):
 Fn 3 G0 [.agg (exC e),.sl .str ns,.sl .iv xs,.sl .iv ms,.int .i64 p] (.bool true) G0:=by
 have hg1:=x10 ns xs p h1 h2
 have hg2:=x10 ns ms p h1 h3
 have hg:=z32 e he
 by_cases g1:grB ns xs p=true
 ·rw[g1]at hg1
  cases e
  refine fnT hT8 hmx Tryz.func3 rfl rfl (ex:= []) ?_
  conv=>whnf
  refine⟨[.gst JT],_,y4,?_⟩
  conv=>whnf
  refine⟨[],_,hg1,?_⟩
  conv=>whnf
  exact⟨lr rfl,leG⟩
 have g1:grB ns xs p=false:=by simpa using g1
 rw[g1]at hg1
 by_cases g2:grB ns ms p=true
 ·rw[g2]at hg2
  cases e
  refine fnT hT8 hmx Tryz.func3 rfl rfl (ex:= []) ?_
  conv=>whnf
  refine⟨[.gst JT],_,y4,?_⟩
  conv=>whnf
  refine⟨[],_,hg1,?_⟩
  conv=>whnf
  refine⟨[],_,hg2,?_⟩
  conv=>whnf
  exact⟨lr rfl,leG⟩
 have g2:grB ns ms p=false:=by simpa using g2
 rw[g2]at hg2
 have l1:=grB_len g1
 have l2:=grB_len g2
 have rx: ∀x∈xs,RI x:=fun x hxx=>⟨(hx x hxx).1,(hx x hxx).2,by have:=l1.2.2 x hxx;omega,by have:=l1.2.2 x hxx;omega⟩
 have rm: ∀x∈ms,RI x:=fun x hxx=>⟨(hm x hxx).1,(hm x hxx).2,by have:=l2.2.2 x hxx;omega,by have:=l2.2.2 x hxx;omega⟩
 by_cases hna:okT e=true∧algB (preE e)=false
 ·have h12:=x12 e (by have:=sz_ok hna.1;omega)
  rw[hna.2]at h12
  rw[hna.1]at hg
  cases e
  refine fnT hT8 hmx Tryz.func3 rfl rfl (ex:= []) ?_
  conv=>whnf
  refine⟨[.gst JT],_,y4,?_⟩
  conv=>whnf
  refine⟨[],_,hg1,?_⟩
  conv=>whnf
  refine⟨[],_,hg2,?_⟩
  conv=>whnf
  refine⟨[],_,hg,?_⟩
  conv=>whnf
  refine⟨[],_,h12,?_⟩
  conv=>whnf
  exact⟨lr rfl,leG⟩
 have hK:okT e=true→ ∀y∈preE e,alg y.k:=fun h y hy=>by
  have ha:algB (preE e)=true:=by
   by_cases c:algB (preE e)=true
   ·exact c
   ·exact absurd ⟨h,by simpa using c⟩ hna
  exact of_decide_eq_true (List.all_eq_true.1 ha y hy)
 have hVK:okT e=true→VK Ka e:=fun h=>VK_of' (okT_VT h) (hK h)
 let fx:Int→Iv→Int→Iv:=fun _ x _=>x
 have hll:=lgI_len xs ms
 have v1:=i8 (fx:=fx) (K:=Ka) (fun p _=>apK_a fx p) e he hVK ns xs rx h1 h2 p
 have v2:=i8 (fx:=fx) (K:=Ka) (fun p _=>apK_a fx p) e he hVK ns (lgI xs ms) (lgI_ri rx rm) h1 (by omega) p
 have hin:=iso_law (fx:=fx) hK (ns:=ns) (p:=p) rx rm
 obtain⟨_,w1,w2⟩:=val_iso (fx:=fx) (e:=e) hVK (ns:=ns) (p:=p) rx (lgI_ri rx rm) (lgI_sub rx rm)
 have h15:=x15 _ _ w1.ri w2.ri w1 w2
 rw[hin]at h15
 generalize valI fx e ns xs p=A at v1 h15
 generalize valI fx e ns (lgI xs ms) p=B at v2 h15
 clear hin w1 w2 hx hm
 obtain⟨⟨a1,a2,a3⟩,⟨a4,a5,a6⟩,a7⟩:=A
 obtain⟨⟨b1,b2,b3⟩,⟨b4,b5,b6⟩,b7⟩:=B
 have v1:Fn 16 G0 [.agg (exC e),.sl .str ns,.sl .iv xs,.int .i64 p] (.agg [.bool a1,.sl .u32 a2,.int .i64 a3,.bool a4,.sl .u32 a5,.int .i64 a6,.bool a7]) G0:=v1
 have v2:Fn 16 G0 [.agg (exC e),.sl .str ns,.sl .iv (lgI xs ms),.int .i64 p] (.agg [.bool b1,.sl .u32 b2,.int .i64 b3,.bool b4,.sl .u32 b5,.int .i64 b6,.bool b7]) G0:=v2
 have h15:Fn 15 [] [.agg [.bool a1,.sl .u32 a2,.int .i64 a3,.bool a4,.sl .u32 a5,.int .i64 a6,.bool a7],.agg [.bool b1,.sl .u32 b2,.int .i64 b3,.bool b4,.sl .u32 b5,.int .i64 b6,.bool b7]] (.bool true) []:=h15
 have hal:okT e=true→Fn 12 [] [.agg (exC e)] (.bool true) []:=fun h=>by
  have h12:=x12 e (by have:=sz_ok h;omega)
  rw[show algB (preE e)=true from List.all_eq_true.2 fun y hy=>decide_eq_true (hK h y hy)]at h12
  exact h12
 clear hK hVK hna
 generalize okT e=V at hg hal
 by_cases h0:xs= []
 ·subst h0
  have e0:lgI [] ms= []:=by cases ms<;>rfl
  rw[e0]at v2
  cases e
  cases V with
  |false=>
   refine fnT hT8a hmx Tryz.func3 rfl rfl (ex:= []) ?_
   conv=>whnf
   refine⟨[.gst JT],_,y4,?_⟩
   conv=>whnf
   refine⟨[],_,hg1,?_⟩
   conv=>whnf
   refine⟨[],_,hg2,?_⟩
   conv=>whnf
   refine⟨[],_,hg,?_⟩
   conv=>whnf
   refine⟨[],_,x13n,?_⟩
   conv=>whnf
   refine⟨Unit,fun _=>True,fun _=> [(38,.int .i64 0),(12,.any)],fun _=> [],fun _=>0,(),trivial,?_,fun x hx=>?_⟩
   ·((conv=>whnf);refine And.intro ?_ ?_;repeat' first|refine lc ?_ ?_|exact la0|exact lr rfl|exact ln0|refine lh1 ?_ ?_|exact lh0|exact bf0|exact bd0|refine bc0 ?_|exact bm0 rfl|exact bg0 rfl|exact li0 rfl|refine lg0 ?_|refine lt0 ?_|fail)
   (refine⟨by kernel_rfl,?_⟩;(conv=>whnf))
   refine⟨[.gst JT],_,v1,?_⟩
   conv=>whnf
   refine⟨[.gst JT],_,v2,?_⟩
   conv=>whnf
   refine⟨[],_,h15,?_⟩
   conv=>whnf
   (refine⟨by kernel_rfl,by kernel_rfl,?_⟩;(conv=>whnf))
   exact⟨lr rfl,leG⟩
  |true=>
   have h12:=hal rfl
   refine fnT hT8a hmx Tryz.func3 rfl rfl (ex:= []) ?_
   conv=>whnf
   refine⟨[.gst JT],_,y4,?_⟩
   conv=>whnf
   refine⟨[],_,hg1,?_⟩
   conv=>whnf
   refine⟨[],_,hg2,?_⟩
   conv=>whnf
   refine⟨[],_,hg,?_⟩
   conv=>whnf
   refine⟨[],_,h12,?_⟩
   conv=>whnf
   refine⟨[],_,x13n,?_⟩
   conv=>whnf
   refine⟨Unit,fun _=>True,fun _=> [(38,.int .i64 0),(12,.any)],fun _=> [],fun _=>0,(),trivial,?_,fun x hx=>?_⟩
   ·((conv=>whnf);refine And.intro ?_ ?_;repeat' first|refine lc ?_ ?_|exact la0|exact lr rfl|exact ln0|refine lh1 ?_ ?_|exact lh0|exact bf0|exact bd0|refine bc0 ?_|exact bm0 rfl|exact bg0 rfl|exact li0 rfl|refine lg0 ?_|refine lt0 ?_|fail)
   (refine⟨by kernel_rfl,?_⟩;(conv=>whnf))
   refine⟨[.gst JT],_,v1,?_⟩
   conv=>whnf
   refine⟨[.gst JT],_,v2,?_⟩
   conv=>whnf
   refine⟨[],_,h15,?_⟩
   conv=>whnf
   (refine⟨by kernel_rfl,by kernel_rfl,?_⟩;(conv=>whnf))
   exact⟨lr rfl,leG⟩
 ·have hc:=x13 xs (by omega) h0
  have hst:=fun i x m=>lgI_step xs ms i (x:=x) (m:=m)
  have hre:=fun i x=>lgI_rest xs ms i (x:=x)
  generalize lgI xs ms=L at*
  have eL:L.take xs.length++xs.drop xs.length=L:=by rw[←hll,List.take_length,List.drop_of_length_le (by omega),List.append_nil]
  have v2':Fn 16 G0 [.agg (exC e),.sl .str ns,.sl .iv (L.take xs.length++xs.drop xs.length),.int .i64 p] (.agg [.bool b1,.sl .u32 b2,.int .i64 b3,.bool b4,.sl .u32 b5,.int .i64 b6,.bool b7]) G0:=by rw[eL];exact v2
  clear v2
  obtain⟨e1,e2,e3,e4,e5⟩:=e
  cases V with
  |false=>
   refine fnC_sound (code:=body3) hT8 hmx Tryz.func3 rfl rfl (ex:= []) ?_
   conv=>whnf
   refine sem_cut hT8 hmx 5 (fun _:Unit=>⟨[.any,.sl .str ns,.sl .iv xs,.any,.int .i64 p,.ptr 5 0,.any,.any,.any,.any,.any,.own 35]++anys 57,[(5,.cells (exC (.mk e1 e2 e3 e4 e5))),(35,.buf 37 .iv (L.take xs.length++xs.drop xs.length)),(CBID,.gst JT)]⟩) (fun _=>by kernel_rfl) ?_ (fun _=>?_)
   ·conv=>whnf
    refine⟨[.gst JT],_,y4,?_⟩
    conv=>whnf
    refine⟨[],_,hg1,?_⟩
    conv=>whnf
    refine⟨[],_,hg2,?_⟩
    conv=>whnf
    refine⟨[],_,hg,?_⟩
    conv=>whnf
    refine⟨[],[.buf 37 .iv xs],.own 2000000,hc,?_⟩
    conv=>whnf
    refine⟨Nat,fun i=>i≤xs.length,fun i=> [(38,.int .i64 i),(12,.any)],fun i=> [(35,.buf 37 .iv (L.take i++xs.drop i))],fun i=>xs.length-i,0,by simp,?_,fun i hi=>?_⟩
    ·((conv=>whnf);refine And.intro ?_ ?_;repeat' first|refine lc ?_ ?_|exact la0|exact lr rfl|exact ln0|refine lh1 ?_ ?_|exact lh0|exact bf0|exact bd0|refine bc0 ?_|exact bm0 rfl|exact bb0 rfl|exact bg0 rfl|exact li0 rfl|refine lg0 ?_|refine lt0 ?_|fail)
    (refine⟨by kernel_rfl,?_⟩;(conv=>whnf))
    refine brI (fun k1=>?_) (fun k1=>?_)
    ·have k1:=of_decide_eq_true k1
     have hi:i<xs.length:=by omega
     obtain⟨x,hxi⟩: ∃x,xs[i]? =some x:=⟨_,List.getElem?_eq_getElem hi⟩
     conv=>whnf
     refine brI (fun k2=>?_) (fun k2=>?_)
     ·have k2:=of_decide_eq_true k2
      have hmi:i<ms.length:=by omega
      obtain⟨m,hmx'⟩: ∃m,ms[i]? =some m:=⟨_,List.getElem?_eq_getElem hmi⟩
      have h201:=i201 x m (rx x (List.mem_of_getElem? hxi)) (rm m (List.mem_of_getElem? hmx'))
      have hs:=hst i x m hxi hmx'
      generalize hullI x m=Q at h201 hs
      conv=>whnf
      refine⟨⟨by omega,by omega⟩,fun(x':Iv) hx'=>?_⟩
      have hx':xs[i]? =some x':=by simpa using hx'
      obtain rfl:x=x':=by rw[hxi]at hx';exact Option.some.inj hx'
      obtain⟨⟨x1,x2,x3⟩,⟨x4,x5,x6⟩,x7⟩:=x
      conv=>whnf
      refine⟨⟨by omega,by omega⟩,fun(m':Iv) hm'=>?_⟩
      have hm':ms[i]? =some m':=by simpa using hm'
      obtain rfl:m=m':=by rw[hmx']at hm';exact Option.some.inj hm'
      obtain⟨⟨m1,m2,m3⟩,⟨m4,m5,m6⟩,m7⟩:=m
      obtain⟨⟨q1,q2,q3⟩,⟨q4,q5,q6⟩,q7⟩:=Q
      have h201:Fn 14 [] [.agg [.bool x1,.sl .u32 x2,.int .i64 x3,.bool x4,.sl .u32 x5,.int .i64 x6,.bool x7],.agg [.bool m1,.sl .u32 m2,.int .i64 m3,.bool m4,.sl .u32 m5,.int .i64 m6,.bool m7]] (.agg [.bool q1,.sl .u32 q2,.int .i64 q3,.bool q4,.sl .u32 q5,.int .i64 q6,.bool q7]) []:=h201
      conv=>whnf
      refine⟨[],_,h201,?_⟩
      conv=>whnf
      refine⟨⟨by omega,by simp;omega⟩,?_⟩
      conv=>whnf
      refine⟨by simp;omega,?_⟩
      conv=>whnf
      (refine⟨by kernel_rfl,by kernel_rfl,?_⟩;(conv=>whnf))
      refine⟨i+1,by omega,by show xs.length-(i+1)<xs.length-i;omega,?_⟩
      ((conv=>whnf);refine And.intro ?_ ?_;repeat' first|refine lc ?_ ?_|exact la0|exact lr rfl|exact ln0|refine lh1 ?_ ?_|exact lh0|exact bf0|exact bd0|refine bc0 ?_|exact bm0 rfl|exact bb0 rfl|exact bg0 rfl|exact li0 rfl|refine lg0 ?_|refine lt0 ?_|fail)
      ·exact ai0 (by rw[wI (by omega)];omega)
      ·exact bb0 hs
     ·have k2:=of_decide_eq_false k2
      conv=>whnf
      refine⟨i+1,by omega,by show xs.length-(i+1)<xs.length-i;omega,?_⟩
      ((conv=>whnf);refine And.intro ?_ ?_;repeat' first|refine lc ?_ ?_|exact la0|exact lr rfl|exact ln0|refine lh1 ?_ ?_|exact lh0|exact bf0|exact bd0|refine bc0 ?_|exact bm0 rfl|exact bb0 rfl|exact bg0 rfl|exact li0 rfl|refine lg0 ?_|refine lt0 ?_|fail)
      ·exact ai0 (by rw[wI (by omega)];omega)
      ·exact bb0 (hre i x hxi (by omega))
    ·have k1:=of_decide_eq_false k1
     obtain rfl:i=xs.length:=by omega
     conv=>whnf
     refine⟨(),?_⟩
     ((conv=>whnf);refine And.intro ?_ ?_;repeat' first|refine lc ?_ ?_|exact la0|exact lr rfl|exact ln0|refine lh1 ?_ ?_|exact lh0|exact bf0|exact bd0|refine bc0 ?_|exact bm0 rfl|exact bb0 rfl|exact bg0 rfl|exact li0 rfl|refine lg0 ?_|refine lt0 ?_|fail)
   ·refine sem_freeze [35] ?_
    conv=>whnf
    refine sem_end hT8 hmx ?_
    conv=>whnf
    refine⟨[.gst JT],_,v1,?_⟩
    conv=>whnf
    refine⟨[.gst JT],_,v2',?_⟩
    conv=>whnf
    refine⟨[],_,h15,?_⟩
    conv=>whnf
    (refine⟨by kernel_rfl,by kernel_rfl,?_⟩;(conv=>whnf))
    exact⟨lr rfl,leG⟩
  |true=>
   have h12:=hal rfl
   refine fnC_sound (code:=body3) hT8 hmx Tryz.func3 rfl rfl (ex:= []) ?_
   conv=>whnf
   refine sem_cut hT8 hmx 5 (fun _:Unit=>⟨[.any,.sl .str ns,.sl .iv xs,.any,.int .i64 p,.ptr 5 0,.any,.any,.any,.any,.any,.own 35]++anys 57,[(5,.cells (exC (.mk e1 e2 e3 e4 e5))),(35,.buf 37 .iv (L.take xs.length++xs.drop xs.length)),(CBID,.gst JT)]⟩) (fun _=>by kernel_rfl) ?_ (fun _=>?_)
   ·conv=>whnf
    refine⟨[.gst JT],_,y4,?_⟩
    conv=>whnf
    refine⟨[],_,hg1,?_⟩
    conv=>whnf
    refine⟨[],_,hg2,?_⟩
    conv=>whnf
    refine⟨[],_,hg,?_⟩
    conv=>whnf
    refine⟨[],_,h12,?_⟩
    conv=>whnf
    refine⟨[],[.buf 37 .iv xs],.own 2000000,hc,?_⟩
    conv=>whnf
    refine⟨Nat,fun i=>i≤xs.length,fun i=> [(38,.int .i64 i),(12,.any)],fun i=> [(35,.buf 37 .iv (L.take i++xs.drop i))],fun i=>xs.length-i,0,by simp,?_,fun i hi=>?_⟩
    ·((conv=>whnf);refine And.intro ?_ ?_;repeat' first|refine lc ?_ ?_|exact la0|exact lr rfl|exact ln0|refine lh1 ?_ ?_|exact lh0|exact bf0|exact bd0|refine bc0 ?_|exact bm0 rfl|exact bb0 rfl|exact bg0 rfl|exact li0 rfl|refine lg0 ?_|refine lt0 ?_|fail)
    (refine⟨by kernel_rfl,?_⟩;(conv=>whnf))
    refine brI (fun k1=>?_) (fun k1=>?_)
    ·have k1:=of_decide_eq_true k1
     have hi:i<xs.length:=by omega
     obtain⟨x,hxi⟩: ∃x,xs[i]? =some x:=⟨_,List.getElem?_eq_getElem hi⟩
     conv=>whnf
     refine brI (fun k2=>?_) (fun k2=>?_)
     ·have k2:=of_decide_eq_true k2
      have hmi:i<ms.length:=by omega
      obtain⟨m,hmx'⟩: ∃m,ms[i]? =some m:=⟨_,List.getElem?_eq_getElem hmi⟩
      have h201:=i201 x m (rx x (List.mem_of_getElem? hxi)) (rm m (List.mem_of_getElem? hmx'))
      have hs:=hst i x m hxi hmx'
      generalize hullI x m=Q at h201 hs
      conv=>whnf
      refine⟨⟨by omega,by omega⟩,fun(x':Iv) hx'=>?_⟩
      have hx':xs[i]? =some x':=by simpa using hx'
      obtain rfl:x=x':=by rw[hxi]at hx';exact Option.some.inj hx'
      obtain⟨⟨x1,x2,x3⟩,⟨x4,x5,x6⟩,x7⟩:=x
      conv=>whnf
      refine⟨⟨by omega,by omega⟩,fun(m':Iv) hm'=>?_⟩
      have hm':ms[i]? =some m':=by simpa using hm'
      obtain rfl:m=m':=by rw[hmx']at hm';exact Option.some.inj hm'
      obtain⟨⟨m1,m2,m3⟩,⟨m4,m5,m6⟩,m7⟩:=m
      obtain⟨⟨q1,q2,q3⟩,⟨q4,q5,q6⟩,q7⟩:=Q
      have h201:Fn 14 [] [.agg [.bool x1,.sl .u32 x2,.int .i64 x3,.bool x4,.sl .u32 x5,.int .i64 x6,.bool x7],.agg [.bool m1,.sl .u32 m2,.int .i64 m3,.bool m4,.sl .u32 m5,.int .i64 m6,.bool m7]] (.agg [.bool q1,.sl .u32 q2,.int .i64 q3,.bool q4,.sl .u32 q5,.int .i64 q6,.bool q7]) []:=h201
      conv=>whnf
      refine⟨[],_,h201,?_⟩
      conv=>whnf
      refine⟨⟨by omega,by simp;omega⟩,?_⟩
      conv=>whnf
      refine⟨by simp;omega,?_⟩
      conv=>whnf
      (refine⟨by kernel_rfl,by kernel_rfl,?_⟩;(conv=>whnf))
      refine⟨i+1,by omega,by show xs.length-(i+1)<xs.length-i;omega,?_⟩
      ((conv=>whnf);refine And.intro ?_ ?_;repeat' first|refine lc ?_ ?_|exact la0|exact lr rfl|exact ln0|refine lh1 ?_ ?_|exact lh0|exact bf0|exact bd0|refine bc0 ?_|exact bm0 rfl|exact bb0 rfl|exact bg0 rfl|exact li0 rfl|refine lg0 ?_|refine lt0 ?_|fail)
      ·exact ai0 (by rw[wI (by omega)];omega)
      ·exact bb0 hs
     ·have k2:=of_decide_eq_false k2
      conv=>whnf
      refine⟨i+1,by omega,by show xs.length-(i+1)<xs.length-i;omega,?_⟩
      ((conv=>whnf);refine And.intro ?_ ?_;repeat' first|refine lc ?_ ?_|exact la0|exact lr rfl|exact ln0|refine lh1 ?_ ?_|exact lh0|exact bf0|exact bd0|refine bc0 ?_|exact bm0 rfl|exact bb0 rfl|exact bg0 rfl|exact li0 rfl|refine lg0 ?_|refine lt0 ?_|fail)
      ·exact ai0 (by rw[wI (by omega)];omega)
      ·exact bb0 (hre i x hxi (by omega))
    ·have k1:=of_decide_eq_false k1
     obtain rfl:i=xs.length:=by omega
     conv=>whnf
     refine⟨(),?_⟩
     ((conv=>whnf);refine And.intro ?_ ?_;repeat' first|refine lc ?_ ?_|exact la0|exact lr rfl|exact ln0|refine lh1 ?_ ?_|exact lh0|exact bf0|exact bd0|refine bc0 ?_|exact bm0 rfl|exact bb0 rfl|exact bg0 rfl|exact li0 rfl|refine lg0 ?_|refine lt0 ?_|fail)
   ·refine sem_freeze [35] ?_
    conv=>whnf
    refine sem_end hT8 hmx ?_
    conv=>whnf
    refine⟨[.gst JT],_,v1,?_⟩
    conv=>whnf
    refine⟨[.gst JT],_,v2',?_⟩
    conv=>whnf
    refine⟨[],_,h15,?_⟩
    conv=>whnf
    (refine⟨by kernel_rfl,by kernel_rfl,?_⟩;(conv=>whnf))
    exact⟨lr rfl,leG⟩
end Go.Proofs.YtajnlbbgolmklaaGreatDoor
