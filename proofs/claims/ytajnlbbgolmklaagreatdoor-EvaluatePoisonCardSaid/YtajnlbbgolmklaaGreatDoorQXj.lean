/-
  Law 17, EvaluatePoison: the walk.
-/
import Derived.Test.YtajnlbbgolmklaaGreatDoorQXi
import Derived.Test.YtajnlbbgolmklaaGreatDoorQX3
set_option linter.unusedVariables false
set_option linter.unusedSimpArgs false
namespace Go.Proofs.YtajnlbbgolmklaaGreatDoor
open Go Go.Sx
set_option maxRecDepth 100000
set_option maxHeartbeats 8000000
noncomputable def body6:Code:=Tryz.f6.body.getD .skip
theorem x6 (e:Ex) (ns:List zd) (xs:List Iv) (k:Int) (o:Iv) (p:Int) (he:Sm e) (h1:ns.length<9223372036854775808) (h2:xs.length<9223372036854775808) (hk:0≤k∧k<256)
 (hx: ∀x∈xs,LB x.lo.m∧LB x.hi.m) (ho:LB o.lo.m∧LB o.hi.m):
 Fn 6 G0 [.agg (exC e),.sl .str ns,.sl .iv xs,.int .u8 k,.agg (ivC o),.int .i64 p] (.bool true) G0:=by
 have hg:=x10 ns xs p h1 h2
 by_cases g1:grB ns xs p=true
 ·rw[g1]at hg
  refine fnT hT8 hmx Tryz.func6 rfl rfl (ex:= []) ?_;conv=>whnf
  refine gZc y4 ?_;conv=>whnf
  refine gZn hg ?_;conv=>whnf
  exact⟨lr rfl,leG⟩
 have g1:grB ns xs p=false:=by simpa using g1
 rw[g1]at hg
 have l1:=zmh g1
 have rx: ∀x∈xs,RI x:=fun x hxx=>⟨(hx x hxx).1,(hx x hxx).2,by have:=l1.2.2 x hxx;omega,by have:=l1.2.2 x hxx;omega⟩
 have h22:=f17 e he
 have hnm:=f91 e he
 have hnl:(nmE e).length ≤1000:=by
  have g1:=zdz (zll (zfr (zgq e)))
  have g2:(zll (zfr (zgq e))).length =(zfr (zgq e)).length :=List.length_mergeSort _
  have g3:=zey (zgq e)
  have g4:=zh9 e
  have g5:=zqv e
  unfold nmE;omega
 have h25:=i25
 rw[e25]at h25
 by_cases hll:ns.length=xs.length
 rotate_left
 ·refine fnT hT8 hmx Tryz.func6 rfl rfl (ex:= []) ?_;conv=>whnf
  refine gZc y4 ?_;conv=>whnf
  refine gZn hg ?_;conv=>whnf
  refine brI (fun _=>?_) (fun c=>?_)
  ·conv=>whnf
   exact⟨lr rfl,leG⟩
  ·have c:((ns.length:Int) != (xs.length:Int))=false:=c
   have c:(ns.length:Int)=(xs.length:Int):=by simpa using c
   omega
 have hne:((ns.length:Int) != (xs.length:Int))=true→False:=fun c=>by rw[hll]at c;simp at c
 by_cases h0:xs= []
 ·subst h0
  refine fnT hT8 hmx Tryz.func6 rfl rfl (ex:= []) ?_;conv=>whnf
  refine gZc y4 ?_;conv=>whnf
  refine gZn hg ?_;conv=>whnf
  refine brI (fun c=>(hne c).elim) (fun _=>?_)
  conv=>whnf
  exact⟨lr rfl,leG⟩
 have hpos:0<xs.length:=List.length_pos_iff.2 h0
 have hne0:((xs.length:Int)==0)=true→False:=fun c=>by have:(xs.length:Int)=0:=by simpa using c
                                                      omega
 by_cases ob:o.lo.m.length≤20∧o.hi.m.length≤20
 rotate_left
 ·refine fnT hT8 hmx Tryz.func6 rfl rfl (ex:= []) ?_;conv=>whnf
  refine gZc y4 ?_;conv=>whnf
  refine gZn hg ?_;conv=>whnf
  refine brI (fun c=>(hne c).elim) (fun _=>?_)
  conv=>whnf
  refine brI (fun c=>(hne0 c).elim) (fun _=>?_)
  conv=>whnf
  refine brI (fun _=>?_) (fun c1=>?_)
  ·conv=>whnf
   exact⟨lr rfl,leG⟩
  conv=>whnf
  refine brI (fun _=>?_) (fun c2=>?_)
  ·conv=>whnf
   exact⟨lr rfl,leG⟩
  exfalso
  have c1:=of_decide_eq_false c1
  have c2:=of_decide_eq_false c2
  exact ob ⟨by omega,by omega⟩
 have ro:RI o:=⟨ho.1,ho.2,by omega,by omega⟩
 have ob1:decide (20<(o.lo.m.length:Int))=true→False:=fun c=>by have:=of_decide_eq_true c;omega
 have ob2:decide (20<(o.hi.m.length:Int))=true→False:=fun c=>by have:=of_decide_eq_true c;omega
 by_cases hok:okT e=true
 rotate_left
 ·rw[show okT e=false by simpa using hok]at h22
  refine fnT hT8 hmx Tryz.func6 rfl rfl (ex:= []) ?_;conv=>whnf
  refine gZc y4 ?_;conv=>whnf
  refine gZn hg ?_;conv=>whnf
  refine brI (fun c=>(hne c).elim) (fun _=>?_)
  conv=>whnf
  refine brI (fun c=>(hne0 c).elim) (fun _=>?_)
  conv=>whnf
  refine brI (fun c=>(ob1 c).elim) (fun _=>?_)
  conv=>whnf
  refine brI (fun c=>(ob2 c).elim) (fun _=>?_)
  conv=>whnf
  refine gZn h22 ?_;conv=>whnf
  exact⟨lr rfl,leG⟩
 rw[hok]at h22
 obtain⟨i,hi⟩: ∃i,k.toNat % xs.length=i:=⟨_,rfl⟩
 have hil:i<xs.length:=by rw[←hi];exact Nat.mod_lt _ hpos
 have hw:(IntKind.i64.wrap k).tmod (xs.length:Int)=(i:Int):=by
  rw[wI (by omega),Int.tmod_eq_emod_of_nonneg hk.1,←hi]
  obtain⟨n,rfl⟩:=Int.eq_ofNat_of_zero_le hk.1
  rw[Int.toNat_natCast];rfl
 obtain⟨t,ht⟩: ∃t,ns[i]? =some t:=⟨_,List.getElem?_eq_getElem (by omega)⟩
 have hc:=x13 xs (by omega) h0
 have c38:=x38 (nmE e) t (by omega)
 have v1:=x16 e he ns xs rx h1 h2 p
 have rs: ∀v,RI v→ ∀x∈xs.set i v,RI x:=fun v hv x hxx=>by
  rcases List.mem_or_eq_of_mem_set hxx with h|rfl
  ·exact rx x h
  ·exact hv
 by_cases htm:t∈nmE e
 ·rw[decide_eq_true htm]at c38
  have v2:=x16 e he ns (xs.set i wI0) (rs _ zg3) h1 (by simpa using h2) p
  have hl:=zpl (p:=p) ht hll hok htm
  generalize zb0 fxA e ns (xs.set i wI0) p=A at*
  obtain⟨al,ah,aa⟩:=A
  obtain rfl:aa=true:=hl
  refine fnT hT8 hmx Tryz.func6 rfl rfl (ex:= []) ?_;conv=>whnf
  refine gZc y4 ?_;conv=>whnf
  refine gZn hg ?_;conv=>whnf
  refine brI (fun c=>(hne c).elim) (fun _=>?_)
  conv=>whnf
  refine brI (fun c=>(hne0 c).elim) (fun _=>?_)
  conv=>whnf
  refine brI (fun c=>(ob1 c).elim) (fun _=>?_)
  conv=>whnf
  refine brI (fun c=>(ob2 c).elim) (fun _=>?_)
  conv=>whnf
  refine gZn h22 ?_;conv=>whnf
  refine⟨by omega,?_⟩;conv=>whnf
  rw[hw]
  refine gZn hnm ?_;conv=>whnf
  refine⟨⟨by omega,by omega⟩,fun t' ht'=>?_⟩
  obtain rfl:t=t':=by
   have ht':ns[i]? =some t':=by simpa using ht'
   rw[ht]at ht';exact Option.some.inj ht'
  conv=>whnf
  refine gZn c38 ?_;conv=>whnf
  (refine⟨by kernel_rfl,by kernel_rfl,?_⟩;(conv=>whnf))
  refine⟨[],[.buf 37 .iv xs],.own 2000000,hc,?_⟩;conv=>whnf
  refine gZn h25 ?_;conv=>whnf
  refine⟨⟨by omega,by omega⟩,?_⟩;conv=>whnf
  refine⟨by omega,?_⟩;conv=>whnf
  refine gZc v2 ?_;conv=>whnf
  exact⟨lr rfl,leG⟩
 ·rw[decide_eq_false htm]at c38
  have v2:=x16 e he ns (xs.set i o) (rs _ ro) h1 (by simpa using h2) p
  rw[zr2 ht hok htm]at v2
  have hA:=zt9 e ns xs rx p
  generalize zb0 fxA e ns xs p=A at*
  have hs:=x20 A hA.l1 hA.l2
  refine wk (code:=body6) hT8 hmx Tryz.func6 rfl rfl (ex:= []) ?_;conv=>whnf
  refine uk hT8 hmx 7 (fun _:Unit=>⟨[.any,.sl .str ns,.sl .iv xs,.any,.any,.int .i64 p,.ptr 6 0,.any,.any,.any,.any,.any,.any,.any,.any,.own 78]++zgj 78,[(6,.cells (exC e)),(10,.free),(66,.free),(78,.buf 37 .iv (xs.set i o)),(qo,.gst JT)]⟩) (fun _=>by kernel_rfl) ?_ (fun _=>?_)
  ·conv=>whnf
   refine gZc y4 ?_;conv=>whnf
   refine gZn hg ?_;conv=>whnf
   refine brI (fun c=>(hne c).elim) (fun _=>?_)
   conv=>whnf
   refine brI (fun c=>(hne0 c).elim) (fun _=>?_)
   conv=>whnf
   refine brI (fun c=>(ob1 c).elim) (fun _=>?_)
   conv=>whnf
   refine brI (fun c=>(ob2 c).elim) (fun _=>?_)
   conv=>whnf
   refine gZn h22 ?_;conv=>whnf
   refine⟨by omega,?_⟩;conv=>whnf
   rw[hw]
   refine gZn hnm ?_;conv=>whnf
   refine⟨⟨by omega,by omega⟩,fun t' ht'=>?_⟩
   obtain rfl:t=t':=by
    have ht':ns[i]? =some t':=by simpa using ht'
    rw[ht]at ht';exact Option.some.inj ht'
   conv=>whnf
   refine gZn c38 ?_;conv=>whnf
   (refine⟨by kernel_rfl,by kernel_rfl,?_⟩;(conv=>whnf))
   refine⟨[],[.buf 37 .iv xs],.own 2000000,hc,?_⟩;conv=>whnf
   refine⟨⟨by omega,by omega⟩,?_⟩;conv=>whnf
   refine⟨by omega,?_⟩;conv=>whnf
   refine⟨(),?_⟩
   ((conv=>whnf);refine And.intro ?_ ?_;repeat' first|refine lc ?_ ?_|exact la0|exact lr rfl|exact ln0|refine lh1 ?_ ?_|exact lh0|exact bf0|exact bd0|refine bc0 ?_|exact bm0 rfl|exact bb0 rfl|exact bg0 rfl|exact li0 rfl|refine lg0 ?_|refine lt0 ?_|fail)
  ·refine zpi [78] ?_;conv=>whnf
   refine uj hT8 hmx ?_;conv=>whnf
   refine gZc v1 ?_;conv=>whnf
   refine gZc v2 ?_;conv=>whnf
   refine gZn hs ?_;conv=>whnf
   (refine⟨by kernel_rfl,by kernel_rfl,?_⟩;(conv=>whnf))
   exact⟨lr rfl,leG⟩
end Go.Proofs.YtajnlbbgolmklaaGreatDoor

namespace Go.Proofs.YtajnlbbgolmklaaGreatDoor
open Go Go.Sx Go.ChangeShapes Go.WideShapes Go.ChangeAt Go.WideMaps Go.WideElems Go.RowKit
set_option maxRecDepth 100000
theorem kI6:laidOutB Tryz.pinned.checked.prog=true:=by kernel_rfl
theorem kJ6:mapsRowed Tryz.pinned.checked.prog=true:=by kernel_rfl
theorem kK6:(Tryz.pinned.checked.prog.stops== [])=true:=by kernel_rfl
theorem kL6:(Tryz.pinned.checked.prog.stopKnobs== [])=true:=by kernel_rfl
theorem kE6:(Rows.evaluatePoisonRow.plainKeys==Tryz.pinned.checked.prog.plainKeys)=true:=by kernel_rfl
theorem kF6:Tryz.pinned.checked.prog.stopsHeard=true:=by kernel_rfl
theorem kG6:Tryz.pinned.checked.prog.mayEnter=true:=by kernel_rfl
theorem kH6:(Rows.evaluatePoisonRow.lifted==Tryz.pinned.checked.prog.liftsFinal)=true:=by kernel_rfl
theorem kA6:(Rows.evaluatePoisonRow.inPlace==Tryz.pinned.checked.prog.inPlace 6)=true:=by kernel_rfl
theorem kB6:(Rows.evaluatePoisonRow.unfollowed==Tryz.pinned.checked.prog.unfollowed 6)=true:=by kernel_rfl
theorem kC6:(Rows.evaluatePoisonRow.recurses==Tryz.pinned.checked.prog.recurses 6)=true:=by kernel_rfl
theorem kD6:(Rows.evaluatePoisonRow.named==Tryz.pinned.checked.prog.varsNamed 6)=true:=by kernel_rfl
theorem qal:joinedFacts Tryz.pinned.checked.prog 6 Tryz.f6 (OpenSpec.ofChange Rows.evaluatePoisonSpec).bare Rows.evaluatePoisonRow=true:=by
 unfold joinedFacts
 simp only[kA6,kB6,kC6,kD6,kE6,kF6,kG6,kH6,kI6,kJ6,kK6,kL6,Bool.and_true]
 kernel_rfl
end Go.Proofs.YtajnlbbgolmklaaGreatDoor

namespace Go.Proofs.YtajnlbbgolmklaaGreatDoor
open Go Go.Sx Go.ChangeShapes Go.WideShapes Go.ChangeAt Go.WideMaps Go.WideElems Go.RowKit
set_option maxRecDepth 100000
theorem zli {W:World} (h:laidMetH Tryz.prog Rows.evaluatePoisonRow.laid W):JT (fun _=>False) (zn W fun _=>False) W:=
 zw1 (Lib.tabIs_of_head (rest:= []) gTab zoe Tryz.underlying246 Tryz.underlying5 c5 cTab h)
theorem zgd (H:Type) (enc:TypeId×Value→H) (W:World) (base:Nat) (args:Array Value) (ds gs:List (DataW H)) (before:List MemPlace)
 (hval: ∀(j:Nat) t v,Tryz.f6.params[j]? =some t→args[j]? =some v→Value.okWide Tryz.prog W .any base t v)
 (hW:DataW.Whole enc Tryz.prog Tryz.f6.params.toList Rows.evaluatePoisonSpec.vars false W args.toList ds gs before) (hL:laidMetH Tryz.prog Rows.evaluatePoisonRow.laid W):
 Calls Tryz.prog 6 args W fun e W'=> ∃v,e= .returned v∧Rows.evaluatePoisonSpec.post enc Tryz.prog Tryz.f6 false true false false W args v W':=by
 have hW':=hW
 obtain⟨p,q,hA0,hV,_,_,_⟩:=hW
 obtain⟨rfl,_⟩:=trodVars_none hV
 have hA:DataW.TrodAll enc Tryz.prog W 0 (fun _=>true) true Tryz.f6.params.toList args.toList ds p:=hA0
 rw[Tryz.params6]at hA hval
 obtain⟨v0,vs0,d0,ds0,p0,q0,hargs,rfl,rfl,h0,r0⟩:=trodAll_cons hA
 obtain⟨v1,vs1,d1,ds1,p1,q1,hargs1,rfl,rfl,h1,r1⟩:=trodAll_cons r0
 obtain⟨v2,vs2,d2,ds2,p2,q2,hargs2,rfl,rfl,h2,r2⟩:=trodAll_cons r1
 obtain⟨v3,vs3,d3,ds3,p3,q3,hargs3,rfl,rfl,h3,r3⟩:=trodAll_cons r2
 obtain⟨v4,vs4,d4,ds4,p4,q4,hargs4,rfl,rfl,h4,r4⟩:=trodAll_cons r3
 obtain⟨v5,vs5,d5,ds5,p5,q5,hargs5,rfl,rfl,h5,r5⟩:=trodAll_cons r4
 obtain⟨hargs6,rfl,rfl⟩:=trodAll_nil r5
 subst hargs1;subst hargs2;subst hargs3;subst hargs4;subst hargs5;subst hargs6
 obtain rfl:args= #[v0,v1,v2,v3,v4,v5]:=by cases args;simp_all
 obtain⟨a,ha,hRa⟩:=zj6 (hval 0 26 v0 rfl rfl) h0
 obtain⟨ns,_,hnl,hRn⟩:=zhc (hval 1 27 v1 rfl rfl) h1
 obtain⟨xs,hx,hxl,hRx⟩:=zno (hval 2 28 v2 rfl rfl) h2
 obtain⟨k,rfl,_,_,hkw⟩:=open_int Tryz.underlying5 (hval 3 5 v3 rfl rfl) h3
 obtain⟨o,ho,hRo⟩:=zly (hval 4 37 v4 rfl rfl) h4
 obtain⟨n,rfl,_,_,_⟩:=open_int Tryz.underlying3 (hval 5 3 v5 rfl rfl) h5
 have hk:0≤k∧k<256:=by
  simp[Lit.wf,IntKind.min,IntKind.max,IntKind.signed,IntKind.bits]at hkw;omega
 refine(zjw (x6 a ns xs k o n ha hnl hxl hk hx ho) (zli hL) (vs:= [v0,v1,v2,.int .u8 k,v4,.int .i64 n]) ⟨hRa _ _,hRn _ _,hRx _ _,rfl,hRo _ _,rfl,trivial⟩).mono ?_
 rintro e' W' ⟨rfl,hq⟩
 exact⟨_,rfl,zhb hW' hq rfl (by rw[Tryz.params6];decide+kernel) rfl rfl rfl rfl⟩
noncomputable def zur:Array Value:= #[.agg #[.int .i64 0,.int .i64 0,.int .i64 0,.string ⟨#[]⟩,.int .i64 0,.slice none 0 0],.slice none 0 0,.slice none 0 0,.int .u8 0,.agg #[.bool false,.slice none 0 0,.int .i64 0,.bool false,.slice none 0 0,.int .i64 0,.bool false],.int .i64 0]
theorem zi3 (os:Os):laidMet Tryz.prog Rows.evaluatePoisonRow.laid ((xr os).forCall (fun _ _=>0) ⟨#[],zur,[]⟩).memory :=
 laidMet_of_run' 6 (by kernel_rfl) (by kernel_rfl)
theorem zrn (os:Os) {H:Type} (enc:TypeId×Value→H): ∃xs places,DataW.whole enc Tryz.prog ((xr os).forCall (fun _ _=>0) ⟨#[],zur,[]⟩).memory Tryz.f6.params.toList Rows.evaluatePoisonSpec.vars false zur.toList 8=some (xs,[],places):=
 ⟨[.agg [.lit (.int .i64 0),.agg [.lit (.int .i64 0),.lit (.int .i64 0)],.lit (.string []),.lit (.int .i64 0),.nil],.nil,.nil,.lit (.int .u8 0),.agg [.agg [.lit (.bool false),.nil,.lit (.int .i64 0)],.agg [.lit (.bool false),.nil,.lit (.int .i64 0)],.lit (.bool false)],.lit (.int .i64 0)],[],by kernel_rfl⟩
theorem za3 (os:Os) (started:os.Started) (H:Type) (enc:TypeId×Value→H) (F:Stop.Interp):
 ReturnsInHanded {} Tryz.checked os 6 .any ((OpenSpec.ofChange Rows.evaluatePoisonSpec).preRow enc Tryz.prog Tryz.f6 Rows.evaluatePoisonRow.domain false Rows.evaluatePoisonRow.laid) (((OpenSpec.ofChange Rows.evaluatePoisonSpec).at F).post enc Tryz.prog Tryz.f6 false true false false):=by
 obtain⟨xs,places,hx⟩:=zrn os enc
 refine returnsInHanded_of_row (C:=Tryz.checked) (s:=OpenSpec.ofChange Rows.evaluatePoisonSpec) ownY started (by kernel_rfl) Tryz.func6
  (witness_row_at (enc:=enc) (C:=Tryz.checked) false (xr os) zur rfl (by kernel_rfl) (by kernel_rfl) (by kernel_rfl)
    (OpenSpec.preRow_of_cond 8 hx (by kernel_rfl) (fun k hk=>by cases hk) (by kernel_rfl) (zi3 os))) ?_
 intro W base args ds gs before hval hW _ _ _ hL _ _
 exact zgd H enc W base args ds gs before hval hW hL
theorem zcj:Rows.EvaluatePoisonSaid:=
 OpenClaim.holds_of_cond 6 Tryz.f6 rfl rfl rfl rfl rfl rfl rfl ⟨rfl,rfl,rfl,rfl,rfl⟩ rfl rfl rfl rfl rfl (by kernel_rfl) Tryz.func6 qal
  (of_decide_eq_true (by kernel_rfl)) (by unfold Func.isWrapper;first|(rw[if_pos (by decide+kernel)];kernel_rfl)|(rw[if_neg (by decide+kernel)];exact⟨rfl,rfl⟩))
  (fun os started H enc _ F=>by rw[OpenClaim.pre_eq_preRow];exact za3 os started H enc F)
theorem zr4 (f:FuncId) (fn:Func) (hf:Tryz.pinned.checked.prog.funcNamed "flowpipe/flowpipelaw17.EvaluatePoison" =some f) (hfn:Tryz.pinned.checked.prog.funcs[f]? =some fn):
 false=Tryz.pinned.checked.prog.looks []∧ ∀(j:Nat) t,fn.params[j]? =some t→Tryz.pinned.checked.prog.wantsStandIn t=false:=by
 obtain rfl:f=6:=Option.some.inj ((show Tryz.prog.funcNamed "flowpipe/flowpipelaw17.EvaluatePoison" =some 6 by kernel_rfl).symm.trans hf) |>.symm
 obtain rfl:fn=Tryz.f6:=(Option.some.inj (Tryz.func6.symm.trans hfn)).symm
 refine⟨by kernel_rfl,fun j t ht=>?_⟩
 rw[Tryz.params6]at ht
 have hm:=Array.mem_of_getElem? ht
 obtain rfl|rfl|rfl|rfl|rfl|rfl:t=26∨t=27∨t=28∨t=5∨t=37∨t=3:=by simp at hm;omega
 ·exact(show Tryz.prog.wantsStandIn 26=false by kernel_rfl)
 ·exact(show Tryz.prog.wantsStandIn 27=false by kernel_rfl)
 ·exact(show Tryz.prog.wantsStandIn 28=false by kernel_rfl)
 ·exact(show Tryz.prog.wantsStandIn 5=false by kernel_rfl)
 ·exact(show Tryz.prog.wantsStandIn 37=false by kernel_rfl)
 ·exact(show Tryz.prog.wantsStandIn 3=false by kernel_rfl)
theorem evaluatePoison_holds:Rows.EvaluatePoisonCardSaid:=
 Claim7.holds_tied_plain_at .later [] _ _ _ _ zcj (fun _ h=>by cases h) (by kernel_rfl) (fun _ h=>by cases h) evaluatePoison_row_tie rfl ⟨rfl,rfl⟩ (by kernel_rfl) rfl zr4 (by kernel_rfl)
end Go.Proofs.YtajnlbbgolmklaaGreatDoor
