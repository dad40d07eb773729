/-
  Seat of round r4: intervals among the arguments; the rows' table.
-/
import Derived.Test.YtgehdbenidimlaaGreatDoorQOa
import Derived.Test.YtgehdbenidimlaaGreatDoorQXa
import Derived.Test.YtgehdbenidimlaaGreatDoorCards
import Derived.Test.YtgehdbenidimlaaGreatDoorTie
import Derived.WalkKit
import Derived.ProofKit
import Derived.OpenShut
import Derived.Deep.DeepHandedRow
import Derived.Lib.LaidTab
import Derived.Test.YtgehdbenidimlaaGreatDoorQNa
import Derived.Test.YtgehdbenidimlaaGreatDoorQNi
set_option linter.unusedVariables false
set_option linter.unusedSimpArgs false
namespace Go.Proofs.YtgehdbenidimlaaGreatDoor
open Go Go.Sx Go.ChangeShapes Go.WideShapes Go.ChangeAt Go.WideMaps Go.WideElems Go.RowKit
set_option maxRecDepth 100000
section
variable {H:Type} {enc:TypeId×Value→H} {W:World} {base:Nat} {sp:Nat→Bool} {held:Bool}
end
theorem ownY:ownKnob Tryz.prog.godebug=none:=by kernel_rfl
theorem gTab:Tryz.prog.globalNamed "math/bits.deBruijn32tab" =some 0:=by kernel_rfl
theorem zs3:(Tryz.prog.globals[0]?).map (·.type)=some 163:=by kernel_rfl
theorem cTab:Tryz.prog.cellsOf 163=32:=by kernel_rfl
theorem c5:Tryz.prog.cellsOf 5=1:=by kernel_rfl
theorem zyj {W:World} (h:Lib.TabIs Tryz.prog W "math/bits.deBruijn32tab" .u8 (Lib.deBruijn32tab.map (fun(x:Nat)=>(x:Int)))):JT (fun _=>False) (zk W fun _=>False) W:=fun j hj=>by
 have hc:=h.cell gTab j (by rw[List.length_map];exact hj)
 have hv:=(zk6 hc).2
 have he:(Lib.deBruijn32tab.map (fun(x:Nat)=>(x:Int))).getD j 0=((Lib.deBruijn32tab.getD j 0:Nat):Int):=by
  simp[List.getD,hj]
 rw[he]at hv
 exact hv
theorem hgJ {i:Nat} (hi: ¬i=zt):hget G0 i= .dead :=by
 simp only[hget]
 rw[(zn _ _).2 fun e=>hi e.symm]
theorem coreJ {W:World} (h:JT (fun _=>False) (zk W fun _=>False) W):Core (fun _=>False) (fun _=>none) (fun _=>none) (fun _=>False) G0 W:=
 ⟨fun _ h=>h.elim,fun _ _ h=>(by cases h),fun _ _ _ h _=>(by cases h),fun _ h=>h.elim,fun _ _ h=>(by cases h),fun _ _ h=>(by cases h),fun _ _ h=>(by cases h),fun i=>by
  by_cases hi:i=zt
  ·subst hi;exact⟨rfl,zxi,h⟩
  ·rw[hgJ hi];trivial⟩
theorem zo5 {f:Nat} {A:List AV} (h:zna Tryz.prog f G0 A (.bool true) G0) {W:World} {vs:List Value} (hJ:JT (fun _=>False) (zk W fun _=>False) W) (ha:Rs ⟨V0 W,fun _=>none,fun _=>none⟩ A vs):
 Calls Tryz.prog f vs.toArray W fun e W'=>e= .returned (.bool true)∧zri W W':=by
 refine(h.2 W (fun _=>False) (fun _=>none) (fun _=>none) (fun _=>False) vs (coreJ hJ) (fun i l b cs T hl=>?_) ha).mono ?_
 ·by_cases hi:i=zt
  ·subst hi
   have hl:Blk.gst JT= .cells l:=hl
   cases hl
  ·rw[hgJ hi]at hl;cases hl
 ·rintro e W' ⟨v,M',pt',ow',S',rfl,_,_,hr,hl⟩
  obtain rfl:v= .bool true:=hr
  exact⟨rfl,hl.os,hl.output,hl.size,fun b hb=>hl.same b hb (fun i h=>by cases h) (fun h=>h)⟩
noncomputable def zew (os:Os):World:=
 {World.holding Tryz.prog os ⟨#[],#[],[]⟩with heap:=(World.holding Tryz.prog os ⟨#[],#[],[]⟩).heap.modify 0 fun
  | .cells _ t frozen=> .cells (Lib.deBruijn32tab.map fun(x:Nat)=>Value.int .u8 x).toArray t frozen
  |o=>o}
end Go.Proofs.YtgehdbenidimlaaGreatDoor

namespace Go.Proofs.YtgehdbenidimlaaGreatDoor
open Go Go.Sx Go.ChangeShapes Go.WideShapes Go.ChangeAt Go.WideMaps Go.WideElems Go.RowKit
set_option maxRecDepth 100000
theorem kIj5:laidOutB Tryz.pinned.checked.prog=true:=by kernel_rfl
theorem kJj5:mapsRowed Tryz.pinned.checked.prog=true:=by kernel_rfl
theorem kKj5:(Tryz.pinned.checked.prog.stops== [])=true:=by kernel_rfl
theorem kLj5:(Tryz.pinned.checked.prog.stopKnobs== [])=true:=by kernel_rfl
theorem kEj5:(Rows.matexpNilpotentRow.plainKeys==Tryz.pinned.checked.prog.plainKeys)=true:=by kernel_rfl
theorem kFj5:Tryz.pinned.checked.prog.stopsHeard=true:=by kernel_rfl
theorem kGj5:Tryz.pinned.checked.prog.mayEnter=true:=by kernel_rfl
theorem kHj5:(Rows.matexpNilpotentRow.lifted==Tryz.pinned.checked.prog.liftsFinal)=true:=by kernel_rfl
theorem kAj5:(Rows.matexpNilpotentRow.inPlace==Tryz.pinned.checked.prog.inPlace 5)=true:=by kernel_rfl
theorem kBj5:(Rows.matexpNilpotentRow.unfollowed==Tryz.pinned.checked.prog.unfollowed 5)=true:=by kernel_rfl
theorem kCj5:(Rows.matexpNilpotentRow.recurses==Tryz.pinned.checked.prog.recurses 5)=true:=by kernel_rfl
theorem kDj5:(Rows.matexpNilpotentRow.named==Tryz.pinned.checked.prog.varsNamed 5)=true:=by kernel_rfl
theorem closedj5:joinedFacts Tryz.pinned.checked.prog 5 Tryz.f5 (OpenSpec.ofChange Rows.matexpNilpotentSpec).bare Rows.matexpNilpotentRow=true:=by
 unfold joinedFacts
 simp only[kAj5,kBj5,kCj5,kDj5,kEj5,kFj5,kGj5,kHj5,kIj5,kJj5,kKj5,kLj5,Bool.and_true]
 kernel_rfl
end Go.Proofs.YtgehdbenidimlaaGreatDoor

namespace Go.Proofs.YtgehdbenidimlaaGreatDoor
open Go Go.Sx Go.ChangeShapes Go.WideShapes Go.ChangeAt Go.WideMaps Go.WideElems Go.RowKit
set_option maxRecDepth 100000
section
variable {H:Type} {enc:TypeId×Value→H} {W:World} {base:Nat} {sp:Nat→Bool} {held:Bool}
end
end Go.Proofs.YtgehdbenidimlaaGreatDoor

namespace Go.Proofs.YtgehdbenidimlaaGreatDoor
open Go Go.Sx Go.ChangeShapes Go.WideShapes Go.ChangeAt Go.WideMaps Go.WideElems Go.RowKit
theorem wf8 {n:Int} (h:(Lit.int .i8 n).wf =true): -128≤n∧n≤127:=by
 have e1:IntKind.i8.min= -128:=by decide
 have e2:IntKind.i8.max=127:=by decide
 simp[Lit.wf]at h;omega
theorem wfu8 {n:Int} (h:(Lit.int .u8 n).wf =true):0≤n∧n≤255:=by
 have e1:IntKind.u8.min=0:=by decide
 have e2:IntKind.u8.max=255:=by decide
 simp[Lit.wf]at h;omega
end Go.Proofs.YtgehdbenidimlaaGreatDoor

namespace Go.Proofs.YtgehdbenidimlaaGreatDoor
open Go Go.Sx Go.ChangeShapes Go.WideShapes Go.ChangeAt Go.WideMaps Go.WideElems Go.RowKit
set_option maxRecDepth 100000
theorem zu7 {W:World} (h:laidMetH Tryz.prog Rows.matexpNilpotentRow.laid W):JT (fun _=>False) (zk W fun _=>False) W:=
 zyj (Lib.tabIs_of_head (rest:= []) gTab zs3 Tryz.underlying163 Tryz.underlying5 c5 cTab h)
theorem zqy (H:Type) (enc:TypeId×Value→H) (W:World) (base:Nat) (args:Array Value) (ds gs:List (DataW H)) (before:List MemPlace)
 (hval: ∀(j:Nat) t v,Tryz.f5.params[j]? =some t→args[j]? =some v→Value.okWide Tryz.prog W .any base t v)
 (hW:DataW.Whole enc Tryz.prog Tryz.f5.params.toList Rows.matexpNilpotentSpec.vars false W args.toList ds gs before) (hL:laidMetH Tryz.prog Rows.matexpNilpotentRow.laid W):
 Calls Tryz.prog 5 args W fun e W'=> ∃v,e= .returned v∧Rows.matexpNilpotentSpec.post enc Tryz.prog Tryz.f5 false true false false W args v W':=by
 have hW':=hW
 obtain⟨p,q,hA0,hV,_,_,_⟩:=hW
 obtain⟨rfl,_⟩:=trodVars_none hV
 have hA:DataW.TrodAll enc Tryz.prog W 0 (fun _=>true) true Tryz.f5.params.toList args.toList ds p:=hA0
 rw[Tryz.params5]at hA hval
 obtain⟨v0,vs0,d0,ds0,p0,q0,hargs,rfl,rfl,h0,r0⟩:=trodAll_cons hA
 obtain⟨v1,vs1,d1,ds1,p1,q1,hargs1,rfl,rfl,h1,r1⟩:=trodAll_cons r0
 obtain⟨v2,vs2,d2,ds2,p2,q2,hargs2,rfl,rfl,h2,r2⟩:=trodAll_cons r1
 obtain⟨v3,vs3,d3,ds3,p3,q3,hargs3,rfl,rfl,h3,r3⟩:=trodAll_cons r2
 obtain⟨v4,vs4,d4,ds4,p4,q4,hargs4,rfl,rfl,h4,r4⟩:=trodAll_cons r3
 obtain⟨hargs5,rfl,rfl⟩:=trodAll_nil r4
 subst hargs1;subst hargs2;subst hargs3;subst hargs4;subst hargs5
 obtain rfl:args= #[v0,v1,v2,v3,v4]:=by cases args;simp_all
 obtain⟨x,rfl,_,_,wfx⟩:=open_int Tryz.underlying51 (hval 0 51 v0 rfl rfl) h0
 obtain⟨y,rfl,_,_,wfy⟩:=open_int Tryz.underlying51 (hval 1 51 v1 rfl rfl) h1
 obtain⟨z,rfl,_,_,wfz⟩:=open_int Tryz.underlying51 (hval 2 51 v2 rfl rfl) h2
 obtain⟨s,rfl,_,_,wfs⟩:=open_int Tryz.underlying51 (hval 3 51 v3 rfl rfl) h3
 obtain⟨P,rfl,_,_,wfP⟩:=open_int Tryz.underlying5 (hval 4 5 v4 rfl rfl) h4
 refine(zo5 (n5 (wf8 wfx) (wf8 wfy) (wf8 wfz) (wfu8 wfP) (wf8 wfs)) (zu7 hL) (vs:= [.int .i8 x,.int .i8 y,.int .i8 z,.int .i8 s,.int .u8 P]) ⟨rfl,rfl,rfl,rfl,rfl,trivial⟩).mono ?_
 rintro e' W' ⟨rfl,hq⟩
 exact⟨_,rfl,znp hW' hq rfl (by rw[Tryz.params5];decide+kernel) rfl rfl rfl rfl⟩
noncomputable def witI:Array Value:= #[.int .i8 0,.int .i8 0,.int .i8 0,.int .i8 0,.int .u8 0]
theorem zsu (os:Os):laidMet Tryz.prog Rows.matexpNilpotentRow.laid ((zew os).forCall (fun _ _=>0) ⟨#[],witI,[]⟩).memory :=
 laidMet_of_run' 5 (by kernel_rfl) (by kernel_rfl)
theorem zyr (os:Os) {H:Type} (enc:TypeId×Value→H): ∃xs places,DataW.whole enc Tryz.prog ((zew os).forCall (fun _ _=>0) ⟨#[],witI,[]⟩).memory Tryz.f5.params.toList Rows.matexpNilpotentSpec.vars false witI.toList 8=some (xs,[],places):=
 ⟨[.lit (.int .i8 0),.lit (.int .i8 0),.lit (.int .i8 0),.lit (.int .i8 0),.lit (.int .u8 0)],[],by kernel_rfl⟩
theorem matexpNilpotent_lifted (os:Os) (started:os.Started) (H:Type) (enc:TypeId×Value→H) (F:Stop.Interp):
 ReturnsInHanded {} Tryz.checked os 5 .any ((OpenSpec.ofChange Rows.matexpNilpotentSpec).preRow enc Tryz.prog Tryz.f5 Rows.matexpNilpotentRow.domain false Rows.matexpNilpotentRow.laid) (((OpenSpec.ofChange Rows.matexpNilpotentSpec).at F).post enc Tryz.prog Tryz.f5 false true false false):=by
 obtain⟨xs,places,hx⟩:=zyr os enc
 refine returnsInHanded_of_row (C:=Tryz.checked) (s:=OpenSpec.ofChange Rows.matexpNilpotentSpec) ownY started (by kernel_rfl) Tryz.func5
  (witness_row_at (enc:=enc) (C:=Tryz.checked) false (zew os) witI rfl (by kernel_rfl) (by kernel_rfl) (by kernel_rfl)
    (OpenSpec.preRow_of_cond 8 hx (by kernel_rfl) (fun k hk=>by cases hk) (by kernel_rfl) (zsu os))) ?_
 intro W base args ds gs before hval hW _ _ _ hL _ _
 exact zqy H enc W base args ds gs before hval hW hL
theorem matexpNilpotent_said:Rows.MatexpNilpotentSaid:=
 OpenClaim.holds_of_cond 5 Tryz.f5 rfl rfl rfl rfl rfl rfl rfl ⟨rfl,rfl,rfl,rfl,rfl⟩ rfl rfl rfl rfl rfl (by kernel_rfl) Tryz.func5 closedj5
  (of_decide_eq_true (by kernel_rfl)) (by unfold Func.isWrapper;first|(rw[if_pos (by decide+kernel)];kernel_rfl)|(rw[if_neg (by decide+kernel)];exact⟨rfl,rfl⟩))
  (fun os started H enc _ F=>by rw[OpenClaim.pre_eq_preRow];exact matexpNilpotent_lifted os started H enc F)
theorem zyv (f:FuncId) (fn:Func) (hf:Tryz.pinned.checked.prog.funcNamed "flowpipe/flowpipelaw38.MatexpNilpotent" =some f) (hfn:Tryz.pinned.checked.prog.funcs[f]? =some fn):
 false=Tryz.pinned.checked.prog.looks []∧ ∀(j:Nat) t,fn.params[j]? =some t→Tryz.pinned.checked.prog.wantsStandIn t=false:=by
 obtain rfl:f=5:=Option.some.inj ((show Tryz.prog.funcNamed "flowpipe/flowpipelaw38.MatexpNilpotent" =some 5 by kernel_rfl).symm.trans hf) |>.symm
 obtain rfl:fn=Tryz.f5:=(Option.some.inj (Tryz.func5.symm.trans hfn)).symm
 refine⟨by kernel_rfl,fun j t ht=>?_⟩
 rw[Tryz.params5]at ht
 have hm:=Array.mem_of_getElem? ht
 obtain rfl|rfl:t=51∨t=5:=by simp at hm;omega
 ·exact(show Tryz.prog.wantsStandIn 51=false by kernel_rfl)
 ·exact(show Tryz.prog.wantsStandIn 5=false by kernel_rfl)
theorem matexpNilpotent_holds:Rows.MatexpNilpotentCardSaid:=
 Claim7.holds_tied_plain_at .later [] _ _ _ _ matexpNilpotent_said (fun _ h=>by cases h) (by kernel_rfl) (fun _ h=>by cases h) matexpNilpotent_row_tie rfl ⟨rfl,rfl⟩ (by kernel_rfl) rfl zyv (by kernel_rfl)
end Go.Proofs.YtgehdbenidimlaaGreatDoor
