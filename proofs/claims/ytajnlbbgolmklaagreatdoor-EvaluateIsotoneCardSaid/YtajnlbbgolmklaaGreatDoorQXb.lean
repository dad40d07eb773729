/-
  EvaluateIsotone: the closed cells of the row, a part each (all in one go is too much for the kernel's memory).
-/
import Derived.Test.YtajnlbbgolmklaaGreatDoorQX3
import Derived.Test.YtajnlbbgolmklaaGreatDoorQX2
set_option linter.unusedVariables false
set_option linter.unusedSimpArgs false
namespace Go.Proofs.YtajnlbbgolmklaaGreatDoor
open Go Go.Sx Go.ChangeShapes Go.WideShapes Go.ChangeAt Go.WideMaps Go.WideElems Go.RowKit
set_option maxRecDepth 100000
theorem jI:laidOutB Tryz.pinned.checked.prog=true:=by kernel_rfl
theorem jJ:mapsRowed Tryz.pinned.checked.prog=true:=by kernel_rfl
theorem jK:(Tryz.pinned.checked.prog.stops== [])=true:=by kernel_rfl
theorem jL:(Tryz.pinned.checked.prog.stopKnobs== [])=true:=by kernel_rfl
theorem jE:(Rows.evaluateIsotoneRow.plainKeys==Tryz.pinned.checked.prog.plainKeys)=true:=by kernel_rfl
theorem jF:Tryz.pinned.checked.prog.stopsHeard=true:=by kernel_rfl
theorem jG:Tryz.pinned.checked.prog.mayEnter=true:=by kernel_rfl
theorem jH:(Rows.evaluateIsotoneRow.lifted==Tryz.pinned.checked.prog.liftsFinal)=true:=by kernel_rfl
theorem jA:(Rows.evaluateIsotoneRow.inPlace==Tryz.pinned.checked.prog.inPlace 3)=true:=by kernel_rfl
theorem jB:(Rows.evaluateIsotoneRow.unfollowed==Tryz.pinned.checked.prog.unfollowed 3)=true:=by kernel_rfl
theorem jC:(Rows.evaluateIsotoneRow.recurses==Tryz.pinned.checked.prog.recurses 3)=true:=by kernel_rfl
theorem jD:(Rows.evaluateIsotoneRow.named==Tryz.pinned.checked.prog.varsNamed 3)=true:=by kernel_rfl
theorem closedI:joinedFacts Tryz.pinned.checked.prog 3 Tryz.f3 (OpenSpec.ofChange Rows.evaluateIsotoneSpec).bare Rows.evaluateIsotoneRow=true:=by
 unfold joinedFacts
 simp only[jA,jB,jC,jD,jE,jF,jG,jH,jI,jJ,jK,jL,Bool.and_true]
 kernel_rfl
end Go.Proofs.YtajnlbbgolmklaaGreatDoor

namespace Go.Proofs.YtajnlbbgolmklaaGreatDoor
open Go Go.Sx Go.ChangeShapes Go.WideShapes Go.ChangeAt Go.WideMaps Go.WideElems Go.RowKit
set_option maxRecDepth 100000
theorem table_I {W:World} (h:laidMetH Tryz.prog Rows.evaluateIsotoneRow.laid W):JT (fun _=>False) (view W fun _=>False) W:=
 tab_JT (Lib.tabIs_of_head (rest:= []) gTab gTabType Tryz.underlying246 Tryz.underlying5 c5 cTab h)
theorem contractI (H:Type) (enc:TypeId×Value→H) (W:World) (base:Nat) (args:Array Value) (ds gs:List (DataW H)) (before:List MemPlace)
 (hval: ∀(j:Nat) t v,Tryz.f3.params[j]? =some t→args[j]? =some v→Value.okWide Tryz.prog W .any base t v)
 (hW:DataW.Whole enc Tryz.prog Tryz.f3.params.toList Rows.evaluateIsotoneSpec.vars false W args.toList ds gs before) (hL:laidMetH Tryz.prog Rows.evaluateIsotoneRow.laid W):
 Calls Tryz.prog 3 args W fun e W'=> ∃v,e= .returned v∧Rows.evaluateIsotoneSpec.post enc Tryz.prog Tryz.f3 false true false false W args v W':=by
 have hW':=hW
 obtain⟨p,q,hA0,hV,_,_,_⟩:=hW
 obtain⟨rfl,_⟩:=trodVars_none hV
 have hA:DataW.TrodAll enc Tryz.prog W 0 (fun _=>true) true Tryz.f3.params.toList args.toList ds p:=hA0
 rw[Tryz.params3]at hA hval
 obtain⟨v0,vs0,d0,ds0,p0,q0,hargs,rfl,rfl,h0,r0⟩:=trodAll_cons hA
 obtain⟨v1,vs1,d1,ds1,p1,q1,hargs1,rfl,rfl,h1,r1⟩:=trodAll_cons r0
 obtain⟨v2,vs2,d2,ds2,p2,q2,hargs2,rfl,rfl,h2,r2⟩:=trodAll_cons r1
 obtain⟨v3,vs3,d3,ds3,p3,q3,hargs3,rfl,rfl,h3,r3⟩:=trodAll_cons r2
 obtain⟨v4,vs4,d4,ds4,p4,q4,hargs4,rfl,rfl,h4,r4⟩:=trodAll_cons r3
 obtain⟨hargs5,rfl,rfl⟩:=trodAll_nil r4
 subst hargs1;subst hargs2;subst hargs3;subst hargs4;subst hargs5
 obtain rfl:args= #[v0,v1,v2,v3,v4]:=by cases args;simp_all
 obtain⟨a,ha,hRa⟩:=open_tree (hval 0 26 v0 rfl rfl) h0
 obtain⟨ns,_,hnl,hRn⟩:=open_names (hval 1 27 v1 rfl rfl) h1
 obtain⟨xs,hx,hxl,hRx⟩:=open_ivs (hval 2 28 v2 rfl rfl) h2
 obtain⟨ms,hm,hml,hRm⟩:=open_ivs (hval 3 28 v3 rfl rfl) h3
 obtain⟨n,rfl,_,_,_⟩:=open_int Tryz.underlying3 (hval 4 3 v4 rfl rfl) h4
 refine(run_trueG (x3 a ns xs ms n ha hnl hxl hml hx hm) (table_I hL) (vs:= [v0,v1,v2,v3,.int .i64 n]) ⟨hRa _ _,hRn _ _,hRx _ _,hRm _ _,rfl,trivial⟩).mono ?_
 rintro e' W' ⟨rfl,hq⟩
 exact⟨_,rfl,post_quiet hW' hq rfl (by rw[Tryz.params3];decide+kernel) rfl rfl rfl rfl⟩
noncomputable def witI:Array Value:= #[.agg #[.int .i64 0,.int .i64 0,.int .i64 0,.string ⟨#[]⟩,.int .i64 0,.slice none 0 0],.slice none 0 0,.slice none 0 0,.slice none 0 0,.int .i64 0]
theorem laid_met (os:Os):laidMet Tryz.prog Rows.evaluateIsotoneRow.laid ((laidWorld os).forCall (fun _ _=>0) ⟨#[],witI,[]⟩).memory :=
 laidMet_of_run' 8 (by kernel_rfl) (by kernel_rfl)
theorem readsI (os:Os) {H:Type} (enc:TypeId×Value→H): ∃xs places,DataW.whole enc Tryz.prog ((laidWorld os).forCall (fun _ _=>0) ⟨#[],witI,[]⟩).memory Tryz.f3.params.toList Rows.evaluateIsotoneSpec.vars false witI.toList 8=some (xs,[],places):=
 ⟨[.agg [.lit (.int .i64 0),.agg [.lit (.int .i64 0),.lit (.int .i64 0)],.lit (.string []),.lit (.int .i64 0),.nil],.nil,.nil,.nil,.lit (.int .i64 0)],[],by kernel_rfl⟩
theorem evaluateIsotone_lifted (os:Os) (started:os.Started) (H:Type) (enc:TypeId×Value→H) (F:Stop.Interp):
 ReturnsInHanded {} Tryz.checked os 3 .any ((OpenSpec.ofChange Rows.evaluateIsotoneSpec).preRow enc Tryz.prog Tryz.f3 Rows.evaluateIsotoneRow.domain false Rows.evaluateIsotoneRow.laid) (((OpenSpec.ofChange Rows.evaluateIsotoneSpec).at F).post enc Tryz.prog Tryz.f3 false true false false):=by
 obtain⟨xs,places,hx⟩:=readsI os enc
 refine returnsInHanded_of_row (C:=Tryz.checked) (s:=OpenSpec.ofChange Rows.evaluateIsotoneSpec) ownY started (by kernel_rfl) Tryz.func3
  (witness_row_at (enc:=enc) (C:=Tryz.checked) false (laidWorld os) witI rfl (by kernel_rfl) (by kernel_rfl) (by kernel_rfl)
    (OpenSpec.preRow_of_cond 8 hx (by kernel_rfl) (fun k hk=>by cases hk) (by kernel_rfl) (laid_met os))) ?_
 intro W base args ds gs before hval hW _ _ _ hL _ _
 exact contractI H enc W base args ds gs before hval hW hL
theorem evaluateIsotone_said:Rows.EvaluateIsotoneSaid:=
 OpenClaim.holds_of_cond 3 Tryz.f3 rfl rfl rfl rfl rfl rfl rfl ⟨rfl,rfl,rfl,rfl,rfl⟩ rfl rfl rfl rfl rfl (by kernel_rfl) Tryz.func3 closedI
  (of_decide_eq_true (by kernel_rfl)) (by unfold Func.isWrapper;first|(rw[if_pos (by decide+kernel)];kernel_rfl)|(rw[if_neg (by decide+kernel)];exact⟨rfl,rfl⟩))
  (fun os started H enc _ F=>by rw[OpenClaim.pre_eq_preRow];exact evaluateIsotone_lifted os started H enc F)
theorem plainI (f:FuncId) (fn:Func) (hf:Tryz.pinned.checked.prog.funcNamed "flowpipe/flowpipelaw17.EvaluateIsotone" =some f) (hfn:Tryz.pinned.checked.prog.funcs[f]? =some fn):
 false=Tryz.pinned.checked.prog.looks []∧ ∀(j:Nat) t,fn.params[j]? =some t→Tryz.pinned.checked.prog.wantsStandIn t=false:=by
 obtain rfl:f=3:=Option.some.inj ((show Tryz.prog.funcNamed "flowpipe/flowpipelaw17.EvaluateIsotone" =some 3 by kernel_rfl).symm.trans hf) |>.symm
 obtain rfl:fn=Tryz.f3:=(Option.some.inj (Tryz.func3.symm.trans hfn)).symm
 refine⟨by kernel_rfl,fun j t ht=>?_⟩
 rw[Tryz.params3]at ht
 have hm:=Array.mem_of_getElem? ht
 obtain rfl|rfl|rfl|rfl:t=26∨t=27∨t=28∨t=3:=by simp at hm;omega
 ·exact(show Tryz.prog.wantsStandIn 26=false by kernel_rfl)
 ·exact(show Tryz.prog.wantsStandIn 27=false by kernel_rfl)
 ·exact(show Tryz.prog.wantsStandIn 28=false by kernel_rfl)
 ·exact(show Tryz.prog.wantsStandIn 3=false by kernel_rfl)
theorem evaluateIsotone_holds:Rows.EvaluateIsotoneCardSaid:=
 Claim7.holds_tied_plain_at .later [] _ _ _ _ evaluateIsotone_said (fun _ h=>by cases h) (by kernel_rfl) (fun _ h=>by cases h) evaluateIsotone_row_tie rfl ⟨rfl,rfl⟩ (by kernel_rfl) rfl plainI (by kernel_rfl)
end Go.Proofs.YtajnlbbgolmklaaGreatDoor
