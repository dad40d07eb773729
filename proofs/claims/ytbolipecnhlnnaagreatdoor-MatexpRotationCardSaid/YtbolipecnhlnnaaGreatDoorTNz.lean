/- intervals among the arguments; the rows' table. -/
import Derived.Test.YtbolipecnhlnnaaGreatDoorTOa
import Derived.Test.YtbolipecnhlnnaaGreatDoorCards
import Derived.Test.YtbolipecnhlnnaaGreatDoorTie
import Derived.Deep.DeepHandedRow
import Derived.Lib.LaidTab
import Derived.Test.YtbolipecnhlnnaaGreatDoorTNa
import Derived.Test.YtbolipecnhlnnaaGreatDoorTPd
set_option linter.unusedVariables false
set_option linter.unusedSimpArgs false
open List renaming getElem?_eq_getElem->q3
open Go.Lib renaming deBruijn32tab->q4
namespace Go.Proofs.YtbolipecnhlnnaaGreatDoor
open Go Go.Sx Go.ChangeShapes Go.WideShapes Go.ChangeAt Go.WideMaps Go.WideElems Go.RowKit
set_option maxRecDepth 100000
theorem cc33:Tryz.prog.cellsOf 24=1:=by kernel_rfl
theorem cc35:Tryz.prog.cellsOf 26=3:=by kernel_rfl
theorem cc122:Tryz.prog.cellsOf 108=1:=by kernel_rfl
theorem cc3:Tryz.prog.cellsOf 3=1:=by kernel_rfl
theorem cc4:Tryz.prog.cellsOf 4=1:=by kernel_rfl
section
variable {H:Type} {enc:TypeId×Value->H} {W:World} {base:Nat} {sp:Nat->Bool} {held:Bool}
theorem zqs (k:Elt) (hk:0<k.size) {P:k.T->Prop} {t te:TypeId} (ht:Tryz.prog.underlying t=some (.slice te)) (hc:Tryz.prog.cellsOf te=k.size)
 (hel: ∀n cs x,DataW.trod enc Tryz.prog W base sp held n te cs=some x->cs.length=k.size/\ ∃e:k.T,P e/\ ∀(j:Nat) u,(k.cells e)[j]? =some u-> ∃v,cs[j]? =some v/\Leaf (V0 W) u v)
 {n:Nat} {cs:List Value} {x:DataW H×List MemPlace} (hn:DataW.trod enc Tryz.prog W base sp held n t cs=some x):
 ∃l:List k.T,(∀x∈l,P x)/\l.length<9223372036854775808/\ ∃v,cs= [v]/\Leaf (V0 W) (.sl k l) v:=by
 have hm:maxLen=9223372036854775807:=by decide
 have key: ∃l:List k.T,(∀x∈l,P x)/\l.length<=maxLen/\ ∃v,cs= [v]/\Leaf (V0 W) (.sl k l) v:=by
  rcases DataW.trod_slice ht hn with ⟨rfl,_⟩|⟨a,len0,cap0,elems,rest,m3,rfl,rfl,_,_,hlc,hcm,hel2,hat,_⟩
  .exact⟨[],by simp,by simp,_,rfl,.sl k [] none 0 0 0 0 rfl (Nat.le_refl _) (by decide) (fun h=>absurd rfl h) (by simp)⟩
  .by_cases hlen0:len0=0
   .subst hlen0;exact⟨[],by simp,by simp,_,rfl,.sl k [] (some a) 0 cap0 0 0 rfl (Nat.zero_le _) hcm (fun h=>absurd rfl h) (by simp)⟩
   .have hcs: ∀i,i<len0-> ∃ci,W.cells? base (a.add (i*k.size)) k.size=some ci/\ci.length=k.size/\ ∃e:k.T,P e/\ ∀(j:Nat) u,(k.cells e)[j]? =some u-> ∃v,ci[j]? =some v/\Leaf (V0 W) u v:=by
     intro i hi;have h5:=hat i hi;rw[hc,q3 (by omega),Option.bind_eq_some_iff]at h5;obtain⟨ci,hci,hti⟩:=h5;exact⟨ci,hci,hel m3 ci _ hti⟩
    have hspot:a.spot=none:=by
     obtain⟨ci,hci,hcl,_⟩:=hcs 0 (by omega);obtain⟨_,_,hcell⟩:=World.cells?_some hci;have h6:=hcell 0 (by omega);rw[q3 (by omega)]at h6;exact(zn2 (a:=a) (by simpa[Addr.add]using h6)).1
    obtain⟨b,o,spt⟩:=a;obtain rfl:spt=none:=hspot;have each: ∀i,i<len0-> ∃e:k.T,P e/\At (V0 W) k e b (o+i*k.size):=by
     intro i hi;obtain⟨ci,hci,hcl,e,hsm,hex⟩:=hcs i hi;obtain⟨_,_,hcell⟩:=World.cells?_some hci;have hv: ∀j,j<k.size-> ∃v,ci[j]? =some v/\zh6 (V0 W) b (o+i*k.size+j) v:=by
      intro j hj;have h6:=hcell j hj;rw[q3 (by omega),zp1,zp1]at h6;exact⟨_,q3 (by omega),(zn2 h6).2⟩
     refine⟨e,hsm,.mk k e b _ (fun j=>(ci[j]?).getD (.bool false)) ?_ ?_⟩
     .intro j hj;obtain⟨v,q1,q2⟩:=hv j hj;simp only[q1,Option.getD_some];exact q2
     .intro j u hu;obtain⟨v,q1,q2⟩:=hex j u hu;simp only[q1,Option.getD_some];exact q2
    obtain⟨l,hll,hl⟩:=zhh len0 each;refine⟨l,fun x hx=>?_,by omega,_,rfl,.sl k l (some ⟨b,o,none⟩) len0 cap0 b o hll.symm hlc hcm (fun _=>rfl) fun i x hx=>(hl i x hx).2⟩;obtain⟨i,hi⟩:=List.getElem?_of_mem hx;exact(hl i x hi).1
 obtain⟨l,h1,h2,h3⟩:=key;exact⟨l,h1,by omega,h3⟩
theorem zqt {n:Nat} {cs:List Value} {x:DataW H×List MemPlace} (hn:DataW.trod enc Tryz.prog W base sp held n 24 cs=some x):
 ∃l:List Int,LB l/\l.length<9223372036854775808/\ ∃v,cs= [v]/\Leaf (V0 W) (.sl .u32 l) v:=by
 obtain⟨l,h1,h2,h3⟩:=zqs .u32 (by decide) (P:=fun x:Int=>0<=x/\x<4294967296) Tryz.underlying24 cc122 (fun n cs x h=>by
  obtain⟨a,rfl,_,hw⟩:=DataW.trod_int Tryz.underlying108 h;have hw:0<=a/\a<4294967296:=by
   have e1:IntKind.u32.min=0:=by decide
   have e2:IntKind.u32.max=4294967295:=by decide
   simp[Lit.wf]at hw;omega
  refine⟨rfl,a,hw,fun j u hu=>?_⟩
  match j,hu with
  |0,hu=>obtain rfl: .int .u32 a=u:=by simpa[Elt.cells]using hu
         exact⟨_,rfl,.int _ _⟩
  |j+1,hu=>simp[Elt.cells]at hu) hn
 exact⟨l,h1,h2,h3⟩
theorem qb9 {n:Nat} {cs:List Value} {x:DataW H×List MemPlace} (h:DataW.trod enc Tryz.prog W base sp held n 26 cs=some x):
 ∃d:Dy,(LB d.m/\d.m.length<9223372036854775808)/\ ∃v0 v1 v2,cs= [v0,v1,v2]/\Leaf (V0 W) (.bool d.neg) v0/\Leaf (V0 W) (.sl .u32 d.m) v1/\Leaf (V0 W) (.int .i64 d.e) v2:=by
 obtain⟨ys,m',rfl,_,hlen,hyl,hf⟩:=DataW.trod_struct Tryz.underlying26 h;rw[cc35]at hlen
 match cs,hlen,ys,hyl with
 | [v0,v1,v2],_,[y0,y1,y2],_=>
   have h0:=hf 0 _ rfl;have h1:=hf 1 _ rfl;have h2:=hf 2 _ rfl;simp[cc3,cc4,cc33]at h0 h1 h2;obtain⟨b,e0,_⟩:=DataW.trod_bool Tryz.underlying4 h0;obtain⟨l,hl,hll,v,e1,hv⟩:=zqt h1;obtain⟨a,e2,_,_⟩:=DataW.trod_int Tryz.underlying3 h2;simp only[List.cons.injEq,and_true]at e0 e1 e2;subst e0;subst e1;subst e2;exact⟨⟨b,l,a⟩,⟨hl,hll⟩,_,_,_,rfl,.bool _,hv,.int _ _⟩
end
theorem ownY:ownKnob Tryz.prog.godebug=none:=by kernel_rfl
theorem gTab:Tryz.prog.globalNamed "math/bits.deBruijn32tab" =some 0:=by kernel_rfl
theorem zxq:(Tryz.prog.globals[0]?).map (·.type)=some 284:=by kernel_rfl
theorem cTab:Tryz.prog.cellsOf 284=32:=by kernel_rfl
theorem c5:Tryz.prog.cellsOf 5=1:=by kernel_rfl
theorem qez {W:World} (h:Lib.TabIs Tryz.prog W "math/bits.deBruijn32tab" .u8 (q4.map (fun(x:Nat)=>(x:Int)))):JT (fun _=>False) (zn W fun _=>False) W:=fun j hj=>by
 have hc:=h.cell gTab j (by rw[List.length_map];exact hj);have hv:=(zn2 hc).2;have he:(q4.map (fun(x:Nat)=>(x:Int))).getD j 0=((q4.getD j 0:Nat):Int):=by
  simp[List.getD,hj]
 rw[he]at hv;exact hv
theorem hgJ {i:Nat} (hi: ¬i=zy):hget G0 i= .dead :=by
 simp only[hget];rw[(zq _ _).2 fun e=>hi e.symm]
theorem coreJ {W:World} (h:JT (fun _=>False) (zn W fun _=>False) W):Core (fun _=>False) (fun _=>none) (fun _=>none) (fun _=>False) G0 W:=
 ⟨fun _ h=>h.elim,fun _ _ h=>(by cases h),fun _ _ _ h _=>(by cases h),fun _ h=>h.elim,fun _ _ h=>(by cases h),fun _ _ h=>(by cases h),fun _ _ h=>(by cases h),fun i=>by
  by_cases hi:i=zy
  .subst hi;exact⟨rfl,qdo,h⟩
  .rw[hgJ hi];trivial⟩
theorem zsq {f:Nat} {A:List AV} (h:zmq Tryz.prog f G0 A (.bool true) G0) {W:World} {vs:List Value} (hJ:JT (fun _=>False) (zn W fun _=>False) W) (ha:Rs ⟨V0 W,fun _=>none,fun _=>none⟩ A vs):
 Calls Tryz.prog f vs.toArray W fun e W'=>e= .returned (.bool true)/\zvi W W':=by
 refine(h.2 W (fun _=>False) (fun _=>none) (fun _=>none) (fun _=>False) vs (coreJ hJ) (fun i l b cs T hl=>?_) ha).mono ?_
 .by_cases hi:i=zy
  .subst hi;have hl:Blk.gst JT= .cells l:=hl;cases hl
  .rw[hgJ hi]at hl;cases hl
 .rintro e W' ⟨v,M',pt',ow',S',rfl,_,_,hr,hl⟩;obtain rfl:v= .bool true:=hr;exact⟨rfl,hl.os,hl.output,hl.size,fun b hb=>hl.same b hb (fun i h=>by cases h) (fun h=>h)⟩
noncomputable def zgx (os:Os):World:=
 {World.holding Tryz.prog os ⟨#[],#[],[]⟩with heap:=(World.holding Tryz.prog os ⟨#[],#[],[]⟩).heap.modify 0 fun
  | .cells _ t frozen=> .cells (q4.map fun(x:Nat)=>Value.int .u8 x).toArray t frozen
  |o=>o}
theorem kIj6:laidOutB Tryz.pinned.checked.prog=true:=by kernel_rfl
theorem kJj6:mapsRowed Tryz.pinned.checked.prog=true:=by kernel_rfl
theorem kKj6:(Tryz.pinned.checked.prog.stops== [])=true:=by kernel_rfl
theorem kLj6:(Tryz.pinned.checked.prog.stopKnobs== [])=true:=by kernel_rfl
theorem kEj6:(Rows.matexpRotationRow.plainKeys==Tryz.pinned.checked.prog.plainKeys)=true:=by kernel_rfl
theorem kFj6:Tryz.pinned.checked.prog.stopsHeard=true:=by kernel_rfl
theorem kGj6:Tryz.pinned.checked.prog.mayEnter=true:=by kernel_rfl
theorem kHj6:(Rows.matexpRotationRow.lifted==Tryz.pinned.checked.prog.liftsFinal)=true:=by kernel_rfl
theorem kAj6:(Rows.matexpRotationRow.inPlace==Tryz.pinned.checked.prog.inPlace 6)=true:=by kernel_rfl
theorem kBj6:(Rows.matexpRotationRow.unfollowed==Tryz.pinned.checked.prog.unfollowed 6)=true:=by kernel_rfl
theorem kCj6:(Rows.matexpRotationRow.recurses==Tryz.pinned.checked.prog.recurses 6)=true:=by kernel_rfl
theorem kDj6:(Rows.matexpRotationRow.named==Tryz.pinned.checked.prog.varsNamed 6)=true:=by kernel_rfl
theorem zx1:joinedFacts Tryz.pinned.checked.prog 6 Tryz.f6 (OpenSpec.ofChange Rows.matexpRotationSpec).bare Rows.matexpRotationRow=true:=by
 unfold joinedFacts;simp only[kAj6,kBj6,kCj6,kDj6,kEj6,kFj6,kGj6,kHj6,kIj6,kJj6,kKj6,kLj6,Bool.and_true]
 kernel_rfl
section
variable {H:Type} {enc:TypeId×Value->H} {W:World} {base:Nat} {sp:Nat->Bool} {held:Bool}
end
theorem wfu8 {n:Int} (h:(Lit.int .u8 n).wf =true):0<=n/\n<=255:=by
 have e1:IntKind.u8.min=0:=by decide
 have e2:IntKind.u8.max=255:=by decide
 simp[Lit.wf]at h;omega
section
variable {H:Type} {enc:TypeId×Value->H} {W:World} {base:Nat} {sp:Nat->Bool} {held:Bool}
theorem zoy {r:Reach} {b0:Nat} {v:Value} {d:DataW H} {ps:List MemPlace} (hval:Value.okWide Tryz.prog W r b0 26 v) (hd:DataW.Trod enc Tryz.prog W base sp held 26 v d ps):
 ∃x:Dy,RDy x/\ ∀(pt:Nat->Option Nat) (ow:Nat->Option Value),R ⟨V0 W,pt,ow⟩ (.agg (dyC x)) v:=by
 unfold Value.okWide at hval;rw[Tryz.underlying26]at hval;obtain⟨cs,rfl,_,_⟩:=hval;obtain⟨n,hn⟩:=hd;obtain⟨d,⟨h1,h2⟩,v0,v1,v2,e,e0,e1,e2⟩:=qb9 hn;have e:cs.toList= [v0,v1,v2]:=e;refine⟨d,⟨h1,h2⟩,fun pt ow=>⟨cs,rfl,qh8 _ _ (by rw[e];rfl) fun j u hu=>?_⟩⟩;rw[e]
 match j,hu with
 |0,hu=>obtain rfl: .bool d.neg=u:=by simpa[dyC]using hu
        exact⟨_,rfl,e0⟩
 |1,hu=>obtain rfl: .sl .u32 d.m=u:=by simpa[dyC]using hu
        exact⟨_,rfl,e1⟩
 |2,hu=>obtain rfl: .int .i64 d.e=u:=by simpa[dyC]using hu
        exact⟨_,rfl,e2⟩
 |j+3,hu=>simp[dyC]at hu
end
theorem qar {W:World} (h:laidMetH Tryz.prog Rows.matexpRotationRow.laid W):JT (fun _=>False) (zn W fun _=>False) W:=
 qez (Lib.tabIs_of_head (rest:= []) gTab zxq Tryz.underlying284 Tryz.underlying5 c5 cTab h)
theorem zuw (H:Type) (enc:TypeId×Value->H) (W:World) (base:Nat) (args:Array Value) (ds gs:List (DataW H)) (before:List MemPlace)
 (hval: ∀(j:Nat) t v,Tryz.f6.params[j]? =some t->args[j]? =some v->Value.okWide Tryz.prog W .any base t v)
 (hW:DataW.Whole enc Tryz.prog Tryz.f6.params.toList Rows.matexpRotationSpec.vars false W args.toList ds gs before) (hL:laidMetH Tryz.prog Rows.matexpRotationRow.laid W):
 Calls Tryz.prog 6 args W fun e W'=> ∃v,e= .returned v/\Rows.matexpRotationSpec.post enc Tryz.prog Tryz.f6 false true false false W args v W':=by
 have hW':=hW;obtain⟨p,q,hA0,hV,_,_,_⟩:=hW;obtain⟨rfl,_⟩:=trodVars_none hV;have hA:DataW.TrodAll enc Tryz.prog W 0 (fun _=>true) true Tryz.f6.params.toList args.toList ds p:=hA0;rw[Tryz.params6]at hA hval;obtain⟨v0,vs0,d0,ds0,p0,q0,hargs,rfl,rfl,h0,r0⟩:=trodAll_cons hA;obtain⟨v1,vs1,d1,ds1,p1,q1,hargs1,rfl,rfl,h1,r1⟩:=trodAll_cons r0;obtain⟨v2,vs2,d2,ds2,p2,q2,hargs2,rfl,rfl,h2,r2⟩:=trodAll_cons r1;obtain⟨hargs3,rfl,rfl⟩:=trodAll_nil r2;subst hargs1;subst hargs2;subst hargs3;obtain rfl:args= #[v0,v1,v2]:=by cases args;simp_all
 obtain⟨w,hwx,hRw⟩:=zoy (hval 0 26 v0 rfl rfl) h0;obtain⟨t,htx,hRt⟩:=zoy (hval 1 26 v1 rfl rfl) h1;obtain⟨P,rfl,_,_,wfP⟩:=open_int Tryz.underlying5 (hval 2 5 v2 rfl rfl) h2;refine(zsq (d6 w hwx t htx (wfu8 wfP)) (qar hL) (vs:= [v0,v1,.int .u8 P]) ⟨hRw _ _,hRt _ _,rfl,trivial⟩).mono ?_;rintro e' W' ⟨rfl,hq⟩;exact⟨_,rfl,zqm hW' hq rfl (by rw[Tryz.params6];decide+kernel) rfl rfl rfl rfl⟩
noncomputable def witI:Array Value:= #[.agg #[.bool false,.slice none 0 0,.int .i64 0],.agg #[.bool false,.slice none 0 0,.int .i64 0],.int .u8 0]
theorem zxb (os:Os):laidMet Tryz.prog Rows.matexpRotationRow.laid ((zgx os).forCall (fun _ _=>0) ⟨#[],witI,[]⟩).memory :=
 laidMet_of_run' 3 (by kernel_rfl) (by kernel_rfl)
theorem qfj (os:Os) {H:Type} (enc:TypeId×Value->H): ∃xs places,DataW.whole enc Tryz.prog ((zgx os).forCall (fun _ _=>0) ⟨#[],witI,[]⟩).memory Tryz.f6.params.toList Rows.matexpRotationSpec.vars false witI.toList 8=some (xs,[],places):=
 ⟨[.agg [.lit (.bool false),.nil,.lit (.int .i64 0)],.agg [.lit (.bool false),.nil,.lit (.int .i64 0)],.lit (.int .u8 0)],[],by kernel_rfl⟩
theorem zbn (os:Os) (started:os.Started) (H:Type) (enc:TypeId×Value->H) (F:Stop.Interp):
 ReturnsInHanded {} Tryz.checked os 6 .any ((OpenSpec.ofChange Rows.matexpRotationSpec).preRow enc Tryz.prog Tryz.f6 Rows.matexpRotationRow.domain false Rows.matexpRotationRow.laid) (((OpenSpec.ofChange Rows.matexpRotationSpec).at F).post enc Tryz.prog Tryz.f6 false true false false):=by
 obtain⟨xs,places,hx⟩:=qfj os enc;refine returnsInHanded_of_row (C:=Tryz.checked) (s:=OpenSpec.ofChange Rows.matexpRotationSpec) ownY started (by kernel_rfl) Tryz.func6
  (witness_row_at (enc:=enc) (C:=Tryz.checked) false (zgx os) witI rfl (by kernel_rfl) (by kernel_rfl) (by kernel_rfl)
    (OpenSpec.preRow_of_cond 8 hx (by kernel_rfl) (fun k hk=>by cases hk) (by kernel_rfl) (zxb os))) ?_
 intro W base args ds gs before hval hW _ _ _ hL _ _;exact zuw H enc W base args ds gs before hval hW hL
theorem zcw:Rows.MatexpRotationSaid:=
 OpenClaim.holds_of_cond 6 Tryz.f6 rfl rfl rfl rfl rfl rfl rfl ⟨rfl,rfl,rfl,rfl,rfl⟩ rfl rfl rfl rfl rfl (by kernel_rfl) Tryz.func6 zx1
  (Z0 (by kernel_rfl)) (by unfold Func.isWrapper;first|(rw[Z4 (by decide+kernel)];kernel_rfl)|(rw[Z5 (by decide+kernel)];exact⟨rfl,rfl⟩))
  (fun os started H enc _ F=>by rw[OpenClaim.pre_eq_preRow];exact zbn os started H enc F)
theorem qfp (f:FuncId) (fn:Func) (hf:Tryz.pinned.checked.prog.funcNamed "flowpipe/flowpipelaw38.MatexpRotation" =some f) (hfn:Tryz.pinned.checked.prog.funcs[f]? =some fn):
 false=Tryz.pinned.checked.prog.looks []/\ ∀(j:Nat) t,fn.params[j]? =some t->Tryz.pinned.checked.prog.wantsStandIn t=false:=by
 obtain rfl:f=6:=Option.some.inj ((show Tryz.prog.funcNamed "flowpipe/flowpipelaw38.MatexpRotation" =some 6 by kernel_rfl).symm.trans hf) |>.symm
 obtain rfl:fn=Tryz.f6:=(Option.some.inj (Tryz.func6.symm.trans hfn)).symm;refine⟨by kernel_rfl,fun j t ht=>?_⟩;rw[Tryz.params6]at ht;have hm:=Array.mem_of_getElem? ht;obtain rfl|rfl:t=26\/t=5:=by simp at hm;omega
 .exact(show Tryz.prog.wantsStandIn 26=false by kernel_rfl)
 .exact(show Tryz.prog.wantsStandIn 5=false by kernel_rfl)
theorem matexpRotation_holds:Rows.MatexpRotationCardSaid:=
 Claim7.holds_tied_plain_at .later [] _ _ _ _ zcw (fun _ h=>by cases h) (by kernel_rfl) (fun _ h=>by cases h) matexpRotation_row_tie rfl ⟨rfl,rfl⟩ (by kernel_rfl) rfl qfp (by kernel_rfl)
