/-
  Seat of round r4: intervals among the arguments; the rows' table.
-/
import Derived.Test.YtbolipecnhlnnaaGreatDoorROa
import Derived.Test.YtbolipecnhlnnaaGreatDoorRXa
import Derived.Test.YtbolipecnhlnnaaGreatDoorCards
import Derived.Test.YtbolipecnhlnnaaGreatDoorTie
import Derived.WalkKit
import Derived.ProofKit
import Derived.OpenShut
import Derived.Deep.DeepHandedRow
import Derived.Lib.LaidTab
import Derived.Test.YtbolipecnhlnnaaGreatDoorRXp
set_option linter.unusedVariables false
set_option linter.unusedSimpArgs false
open List renaming getElem?_eq_getElem->q6
namespace Go.Proofs.YtbolipecnhlnnaaGreatDoor
open Go Go.Sx Go.ChangeShapes Go.WideShapes Go.ChangeAt Go.WideMaps Go.WideElems Go.RowKit
set_option maxRecDepth 100000
theorem cc33:Tryz.prog.cellsOf 24=1:=by kernel_rfl
theorem cc35:Tryz.prog.cellsOf 26=3:=by kernel_rfl
theorem cc37:Tryz.prog.cellsOf 28=7:=by kernel_rfl
theorem cc122:Tryz.prog.cellsOf 108=1:=by kernel_rfl
theorem cc3:Tryz.prog.cellsOf 3=1:=by kernel_rfl
theorem cc4:Tryz.prog.cellsOf 4=1:=by kernel_rfl
section
variable {H:Type} {enc:TypeId×Value->H} {W:World} {base:Nat} {sp:Nat->Bool} {held:Bool}
theorem zie (k:Elt) (hk:0<k.size) {P:k.T->Prop} {t te:TypeId} (ht:Tryz.prog.underlying t=some (.slice te)) (hc:Tryz.prog.cellsOf te=k.size)
 (hel: ∀n cs x,DataW.trod enc Tryz.prog W base sp held n te cs=some x->cs.length=k.size/\ ∃e:k.T,P e/\ ∀(j:Nat) u,(k.cells e)[j]? =some u-> ∃v,cs[j]? =some v/\Leaf (V0 W) u v)
 {n:Nat} {cs:List Value} {x:DataW H×List MemPlace} (hn:DataW.trod enc Tryz.prog W base sp held n t cs=some x):
 ∃l:List k.T,(∀x∈l,P x)/\l.length<9223372036854775808/\ ∃v,cs= [v]/\Leaf (V0 W) (.sl k l) v:=by
 have hm:maxLen=9223372036854775807:=by decide
 have key: ∃l:List k.T,(∀x∈l,P x)/\l.length<=maxLen/\ ∃v,cs= [v]/\Leaf (V0 W) (.sl k l) v:=by
  rcases DataW.trod_slice ht hn with ⟨rfl,_⟩|⟨a,len0,cap0,elems,rest,m3,rfl,rfl,_,_,hlc,hcm,hel2,hat,_⟩
  ·exact⟨[],by simp,by simp,_,rfl,.sl k [] none 0 0 0 0 rfl (Nat.le_refl _) (by decide) (fun h=>absurd rfl h) (by simp)⟩
  ·by_cases hlen0:len0=0
   ·subst hlen0;exact⟨[],by simp,by simp,_,rfl,.sl k [] (some a) 0 cap0 0 0 rfl (Nat.zero_le _) hcm (fun h=>absurd rfl h) (by simp)⟩
   ·have hcs: ∀i,i<len0-> ∃ci,W.cells? base (a.add (i*k.size)) k.size=some ci/\ci.length=k.size/\ ∃e:k.T,P e/\ ∀(j:Nat) u,(k.cells e)[j]? =some u-> ∃v,ci[j]? =some v/\Leaf (V0 W) u v:=by
     intro i hi;have h5:=hat i hi;rw[hc,q6 (by omega),Option.bind_eq_some_iff]at h5;obtain⟨ci,hci,hti⟩:=h5;exact⟨ci,hci,hel m3 ci _ hti⟩
    have hspot:a.spot=none:=by
     obtain⟨ci,hci,hcl,_⟩:=hcs 0 (by omega);obtain⟨_,_,hcell⟩:=World.cells?_some hci;have h6:=hcell 0 (by omega);rw[q6 (by omega)]at h6;exact(zdb (a:=a) (by simpa[Addr.add]using h6)).1
    obtain⟨b,o,spt⟩:=a;obtain rfl:spt=none:=hspot;have each: ∀i,i<len0-> ∃e:k.T,P e/\At (V0 W) k e b (o+i*k.size):=by
     intro i hi;obtain⟨ci,hci,hcl,e,hsm,hex⟩:=hcs i hi;obtain⟨_,_,hcell⟩:=World.cells?_some hci;have hv: ∀j,j<k.size-> ∃v,ci[j]? =some v/\zfm (V0 W) b (o+i*k.size+j) v:=by
      intro j hj;have h6:=hcell j hj;rw[q6 (by omega),zci,zci]at h6;exact⟨_,q6 (by omega),(zdb h6).2⟩
     refine⟨e,hsm,.mk k e b _ (fun j=>(ci[j]?).getD (.bool false)) ?_ ?_⟩
     ·intro j hj;obtain⟨v,q1,q2⟩:=hv j hj;simp only[q1,Option.getD_some];exact q2
     ·intro j u hu;obtain⟨v,q1,q2⟩:=hex j u hu;simp only[q1,Option.getD_some];exact q2
    obtain⟨l,hll,hl⟩:=zau len0 each;refine⟨l,fun x hx=>?_,by omega,_,rfl,.sl k l (some ⟨b,o,none⟩) len0 cap0 b o hll.symm hlc hcm (fun _=>rfl) fun i x hx=>(hl i x hx).2⟩;obtain⟨i,hi⟩:=List.getElem?_of_mem hx;exact(hl i x hi).1
 obtain⟨l,h1,h2,h3⟩:=key;exact⟨l,h1,by omega,h3⟩
theorem zq3 {n:Nat} {cs:List Value} {x:DataW H×List MemPlace} (hn:DataW.trod enc Tryz.prog W base sp held n 24 cs=some x):
 ∃l:List Int,LB l/\l.length<9223372036854775808/\ ∃v,cs= [v]/\Leaf (V0 W) (.sl .u32 l) v:=by
 obtain⟨l,h1,h2,h3⟩:=zie .u32 (by decide) (P:=fun x:Int=>0<=x/\x<4294967296) Tryz.underlying24 cc122 (fun n cs x h=>by
  obtain⟨a,rfl,_,hw⟩:=DataW.trod_int Tryz.underlying108 h;have hw:0<=a/\a<4294967296:=by
   have e1:IntKind.u32.min=0:=by decide
   have e2:IntKind.u32.max=4294967295:=by decide
   simp[Lit.wf]at hw;omega
  refine⟨rfl,a,hw,fun j u hu=>?_⟩
  match j,hu with
  |0,hu=>obtain rfl: .int .u32 a=u:=by simpa[Elt.cells]using hu
         exact⟨_,rfl,.int _ _⟩
  |j+1,hu=>simp[Elt.cells]at hu) hn
 exact⟨l,h1,h2,h3⟩
theorem zt1 {n:Nat} {cs:List Value} {x:DataW H×List MemPlace} (h:DataW.trod enc Tryz.prog W base sp held n 26 cs=some x):
 ∃d:Dy,(LB d.m/\d.m.length<9223372036854775808)/\ ∃v0 v1 v2,cs= [v0,v1,v2]/\Leaf (V0 W) (.bool d.neg) v0/\Leaf (V0 W) (.sl .u32 d.m) v1/\Leaf (V0 W) (.int .i64 d.e) v2:=by
 obtain⟨ys,m',rfl,_,hlen,hyl,hf⟩:=DataW.trod_struct Tryz.underlying26 h;rw[cc35]at hlen
 match cs,hlen,ys,hyl with
 | [v0,v1,v2],_,[y0,y1,y2],_=>
   have h0:=hf 0 _ rfl;have h1:=hf 1 _ rfl;have h2:=hf 2 _ rfl;simp[cc3,cc4,cc33]at h0 h1 h2;obtain⟨b,e0,_⟩:=DataW.trod_bool Tryz.underlying4 h0;obtain⟨l,hl,hll,v,e1,hv⟩:=zq3 h1;obtain⟨a,e2,_,_⟩:=DataW.trod_int Tryz.underlying3 h2;simp only[List.cons.injEq,and_true]at e0 e1 e2;subst e0;subst e1;subst e2;exact⟨⟨b,l,a⟩,⟨hl,hll⟩,_,_,_,rfl,.bool _,hv,.int _ _⟩
def LBI (x:Iv):Prop:=LB x.lo.m/\LB x.hi.m
theorem qby {n:Nat} {cs:List Value} {x:DataW H×List MemPlace} (h:DataW.trod enc Tryz.prog W base sp held n 28 cs=some x):
 cs.length=7/\ ∃x:Iv,RI x/\ ∀(j:Nat) u,(Elt.iv.cells x)[j]? =some u-> ∃v,cs[j]? =some v/\Leaf (V0 W) u v:=by
 obtain⟨ys,m',rfl,_,hlen,hyl,hf⟩:=DataW.trod_struct Tryz.underlying28 h;rw[cc37]at hlen
 match cs,hlen,ys,hyl with
 | [v0,v1,v2,v3,v4,v5,v6],_,[y0,y1,y2],_=>
   have h0:=hf 0 _ rfl;have h1:=hf 1 _ rfl;have h2:=hf 2 _ rfl;simp[cc35,cc4]at h0 h1 h2;obtain⟨a,ha,u0,u1,u2,e0,a0,a1,a2⟩:=zt1 h0;obtain⟨b,hb,w0,w1,w2,e1,b0,b1,b2⟩:=zt1 h1;obtain⟨c,e2,_⟩:=DataW.trod_bool Tryz.underlying4 h2;simp only[List.cons.injEq,and_true]at e0 e1 e2;obtain⟨rfl,rfl,rfl⟩:=e0;obtain⟨rfl,rfl,rfl⟩:=e1;subst e2;refine⟨rfl,⟨a,b,c⟩,⟨ha.1,hb.1,ha.2,hb.2⟩,fun j u hu=>?_⟩
   match j,hu with
   |0,hu=>obtain rfl: .bool a.neg=u:=by simpa[Elt.cells,ivC]using hu
          exact⟨_,rfl,a0⟩
   |1,hu=>obtain rfl: .sl .u32 a.m=u:=by simpa[Elt.cells,ivC]using hu
          exact⟨_,rfl,a1⟩
   |2,hu=>obtain rfl: .int .i64 a.e=u:=by simpa[Elt.cells,ivC]using hu
          exact⟨_,rfl,a2⟩
   |3,hu=>obtain rfl: .bool b.neg=u:=by simpa[Elt.cells,ivC]using hu
          exact⟨_,rfl,b0⟩
   |4,hu=>obtain rfl: .sl .u32 b.m=u:=by simpa[Elt.cells,ivC]using hu
          exact⟨_,rfl,b1⟩
   |5,hu=>obtain rfl: .int .i64 b.e=u:=by simpa[Elt.cells,ivC]using hu
          exact⟨_,rfl,b2⟩
   |6,hu=>obtain rfl: .bool c=u:=by simpa[Elt.cells,ivC]using hu
          exact⟨_,rfl,.bool _⟩
   |j+7,hu=>simp[Elt.cells,ivC]at hu
theorem zw6 {r:Reach} {b0:Nat} {v:Value} {d:DataW H} {ps:List MemPlace} (hval:Value.okWide Tryz.prog W r b0 23 v) (hd:DataW.Trod enc Tryz.prog W base sp held 23 v d ps):
 ∃l:List Iv,(∀x∈l,RI x)/\l.length<9223372036854775808/\ ∀(pt:Nat->Option Nat) (ow:Nat->Option Value),R ⟨V0 W,pt,ow⟩ (.sl .iv l) v:=by
 obtain⟨a0,len0,cap0,rfl⟩:=okWide_slice Tryz.underlying23 hval;obtain⟨n,hn⟩:=hd;obtain⟨l,h1,h2,v,e,h3⟩:=zie .iv (by decide) (P:=RI) Tryz.underlying23 cc37 (fun _ _ _ h=>qby h) hn;simp[Value.cells]at e;subst e;exact⟨l,h1,h2,fun pt ow=>zhl h3⟩
theorem zw5 {r:Reach} {b0:Nat} {v:Value} {d:DataW H} {ps:List MemPlace} (hval:Value.okWide Tryz.prog W r b0 23 v) (hd:DataW.Trod enc Tryz.prog W base sp held 23 v d ps):
 ∃l:List Iv,(∀x∈l,LBI x)/\l.length<9223372036854775808/\ ∀(pt:Nat->Option Nat) (ow:Nat->Option Value),R ⟨V0 W,pt,ow⟩ (.sl .iv l) v:=by
 obtain⟨l,h1,h2,h3⟩:=zw6 hval hd;exact⟨l,fun x hx=>⟨(h1 x hx).lo,(h1 x hx).hi⟩,h2,h3⟩
end
theorem ownY:ownKnob Tryz.prog.godebug=none:=by kernel_rfl
theorem gTab:Tryz.prog.globalNamed "math/bits.deBruijn32tab" =some 0:=by kernel_rfl
theorem zxq:(Tryz.prog.globals[0]?).map (·.type)=some 284:=by kernel_rfl
theorem cTab:Tryz.prog.cellsOf 284=32:=by kernel_rfl
theorem c5:Tryz.prog.cellsOf 5=1:=by kernel_rfl
theorem qel {W:World} (h:Lib.TabIs Tryz.prog W "math/bits.deBruijn32tab" .u8 (Lib.deBruijn32tab.map (fun(x:Nat)=>(x:Int)))):JT (fun _=>False) (zn W fun _=>False) W:=fun j hj=>by
 have hc:=h.cell gTab j (by rw[List.length_map];exact hj);have hv:=(zdb hc).2;have he:(Lib.deBruijn32tab.map (fun(x:Nat)=>(x:Int))).getD j 0=((Lib.deBruijn32tab.getD j 0:Nat):Int):=by
  simp[List.getD,hj]
 rw[he]at hv;exact hv
theorem hgJ {i:Nat} (hi: ¬i=qu):hget G0 i= .dead :=by
 simp only[hget];rw[(zq _ _).2 fun e=>hi e.symm]
theorem coreJ {W:World} (h:JT (fun _=>False) (zn W fun _=>False) W):Core (fun _=>False) (fun _=>none) (fun _=>none) (fun _=>False) G0 W:=
 ⟨fun _ h=>h.elim,fun _ _ h=>(by cases h),fun _ _ _ h _=>(by cases h),fun _ h=>h.elim,fun _ _ h=>(by cases h),fun _ _ h=>(by cases h),fun _ _ h=>(by cases h),fun i=>by
  by_cases hi:i=qu
  ·subst hi;exact⟨rfl,qdd,h⟩
  ·rw[hgJ hi];trivial⟩
theorem zsy {f:Nat} {A:List AV} (h:zkj Tryz.prog f G0 A (.bool true) G0) {W:World} {vs:List Value} (hJ:JT (fun _=>False) (zn W fun _=>False) W) (ha:Rs ⟨V0 W,fun _=>none,fun _=>none⟩ A vs):
 Calls Tryz.prog f vs.toArray W fun e W'=>e= .returned (.bool true)/\zvw W W':=by
 refine(h.2 W (fun _=>False) (fun _=>none) (fun _=>none) (fun _=>False) vs (coreJ hJ) (fun i l b cs T hl=>?_) ha).mono ?_
 ·by_cases hi:i=qu
  ·subst hi;have hl:Blk.gst JT= .cells l:=hl;cases hl
  ·rw[hgJ hi]at hl;cases hl
 ·rintro e W' ⟨v,M',pt',ow',S',rfl,_,_,hr,hl⟩;obtain rfl:v= .bool true:=hr;exact⟨rfl,hl.os,hl.output,hl.size,fun b hb=>hl.same b hb (fun i h=>by cases h) (fun h=>h)⟩
noncomputable def zgp (os:Os):World:=
 {World.holding Tryz.prog os ⟨#[],#[],[]⟩with heap:=(World.holding Tryz.prog os ⟨#[],#[],[]⟩).heap.modify 0 fun
  | .cells _ t frozen=> .cells (Lib.deBruijn32tab.map fun(x:Nat)=>Value.int .u8 x).toArray t frozen
  |o=>o}
theorem kIj8:laidOutB Tryz.pinned.checked.prog=true:=by kernel_rfl
theorem kJj8:mapsRowed Tryz.pinned.checked.prog=true:=by kernel_rfl
theorem kKj8:(Tryz.pinned.checked.prog.stops== [])=true:=by kernel_rfl
theorem kLj8:(Tryz.pinned.checked.prog.stopKnobs== [])=true:=by kernel_rfl
theorem kEj8:(Rows.evaluateReplacesRow.plainKeys==Tryz.pinned.checked.prog.plainKeys)=true:=by kernel_rfl
theorem kFj8:Tryz.pinned.checked.prog.stopsHeard=true:=by kernel_rfl
theorem kGj8:Tryz.pinned.checked.prog.mayEnter=true:=by kernel_rfl
theorem kHj8:(Rows.evaluateReplacesRow.lifted==Tryz.pinned.checked.prog.liftsFinal)=true:=by kernel_rfl
theorem kAj8:(Rows.evaluateReplacesRow.inPlace==Tryz.pinned.checked.prog.inPlace 8)=true:=by kernel_rfl
theorem kBj8:(Rows.evaluateReplacesRow.unfollowed==Tryz.pinned.checked.prog.unfollowed 8)=true:=by kernel_rfl
theorem kCj8:(Rows.evaluateReplacesRow.recurses==Tryz.pinned.checked.prog.recurses 8)=true:=by kernel_rfl
theorem kDj8:(Rows.evaluateReplacesRow.named==Tryz.pinned.checked.prog.varsNamed 8)=true:=by kernel_rfl
theorem zx8:joinedFacts Tryz.pinned.checked.prog 8 Tryz.f8 (OpenSpec.ofChange Rows.evaluateReplacesSpec).bare Rows.evaluateReplacesRow=true:=by
 unfold joinedFacts;simp only[kAj8,kBj8,kCj8,kDj8,kEj8,kFj8,kGj8,kHj8,kIj8,kJj8,kKj8,kLj8,Bool.and_true]
 kernel_rfl
section
variable {H:Type} {enc:TypeId×Value->H} {W:World} {base:Nat} {sp:Nat->Bool} {held:Bool}
end
theorem qam {W:World} (h:laidMetH Tryz.prog Rows.evaluateReplacesRow.laid W):JT (fun _=>False) (zn W fun _=>False) W:=
 qel (Lib.tabIs_of_head (rest:= []) gTab zxq Tryz.underlying284 Tryz.underlying5 c5 cTab h)
theorem zu5 (H:Type) (enc:TypeId×Value->H) (W:World) (base:Nat) (args:Array Value) (ds gs:List (DataW H)) (before:List MemPlace)
 (hval: ∀(j:Nat) t v,Tryz.f8.params[j]? =some t->args[j]? =some v->Value.okWide Tryz.prog W .any base t v)
 (hW:DataW.Whole enc Tryz.prog Tryz.f8.params.toList Rows.evaluateReplacesSpec.vars false W args.toList ds gs before) (hL:laidMetH Tryz.prog Rows.evaluateReplacesRow.laid W):
 Calls Tryz.prog 8 args W fun e W'=> ∃v,e= .returned v/\Rows.evaluateReplacesSpec.post enc Tryz.prog Tryz.f8 false true false false W args v W':=by
 have hW':=hW;obtain⟨p,q,hA0,hV,_,_,_⟩:=hW;obtain⟨rfl,_⟩:=trodVars_none hV;have hA:DataW.TrodAll enc Tryz.prog W 0 (fun _=>true) true Tryz.f8.params.toList args.toList ds p:=hA0;rw[Tryz.params8]at hA hval;obtain⟨v0,vs0,d0,ds0,p0,q0,hargs,rfl,rfl,h0,r0⟩:=trodAll_cons hA;obtain⟨v1,vs1,d1,ds1,p1,q1,hargs1,rfl,rfl,h1,r1⟩:=trodAll_cons r0;obtain⟨v2,vs2,d2,ds2,p2,q2,hargs2,rfl,rfl,h2,r2⟩:=trodAll_cons r1;obtain⟨v3,vs3,d3,ds3,p3,q3,hargs3,rfl,rfl,h3,r3⟩:=trodAll_cons r2;obtain⟨v4,vs4,d4,ds4,p4,q4,hargs4,rfl,rfl,h4,r4⟩:=trodAll_cons r3;obtain⟨v5,vs5,d5,ds5,p5,q5,hargs5,rfl,rfl,h5,r5⟩:=trodAll_cons r4;obtain⟨hargs6,rfl,rfl⟩:=trodAll_nil r5;subst hargs1;subst hargs2;subst hargs3;subst hargs4;subst hargs5;subst hargs6;obtain rfl:args= #[v0,v1,v2,v3,v4,v5]:=by cases args;simp_all
 obtain⟨a,ha,hRa⟩:=zk5 (hval 0 63 v0 rfl rfl) h0;obtain⟨ns,hns,hnl,hRn⟩:=zqy (hval 1 64 v1 rfl rfl) h1;obtain⟨xs,hx,hxl,hRx⟩:=zw5 (hval 2 23 v2 rfl rfl) h2;obtain⟨k,rfl,_,_,hkw⟩:=open_int Tryz.underlying5 (hval 3 5 v3 rfl rfl) h3;obtain⟨b,hb,hRb⟩:=zk5 (hval 4 63 v4 rfl rfl) h4;obtain⟨n,rfl,_,_,_⟩:=open_int Tryz.underlying3 (hval 5 3 v5 rfl rfl) h5;have hk:0<=k/\k<256:=by
  simp[Lit.wf,IntKind.min,IntKind.max,IntKind.signed,IntKind.bits]at hkw;omega
 refine(zsy (q8 a b ns xs k n ha hb hns hnl hxl hk hx) (qam hL) (vs:= [v0,v1,v2,.int .u8 k,v4,.int .i64 n]) ⟨hRa _ _,hRn _ _,hRx _ _,rfl,hRb _ _,rfl,trivial⟩).mono ?_;rintro e' W' ⟨rfl,hq⟩;exact⟨_,rfl,zqu hW' hq rfl (by rw[Tryz.params8];decide+kernel) rfl rfl rfl rfl⟩
noncomputable def witI:Array Value:= #[.agg #[.int .i64 0,.int .i64 0,.int .i64 0,.string ⟨#[]⟩,.int .i64 0,.slice none 0 0],.slice none 0 0,.slice none 0 0,.int .u8 0,.agg #[.int .i64 0,.int .i64 0,.int .i64 0,.string ⟨#[]⟩,.int .i64 0,.slice none 0 0],.int .i64 0]
theorem zxh (os:Os):laidMet Tryz.prog Rows.evaluateReplacesRow.laid ((zgp os).forCall (fun _ _=>0) ⟨#[],witI,[]⟩).memory :=
 laidMet_of_run' 6 (by kernel_rfl) (by kernel_rfl)
theorem qez (os:Os) {H:Type} (enc:TypeId×Value->H): ∃xs places,DataW.whole enc Tryz.prog ((zgp os).forCall (fun _ _=>0) ⟨#[],witI,[]⟩).memory Tryz.f8.params.toList Rows.evaluateReplacesSpec.vars false witI.toList 8=some (xs,[],places):=
 ⟨[.agg [.lit (.int .i64 0),.agg [.lit (.int .i64 0),.lit (.int .i64 0)],.lit (.string []),.lit (.int .i64 0),.nil],.nil,.nil,.lit (.int .u8 0),.agg [.lit (.int .i64 0),.agg [.lit (.int .i64 0),.lit (.int .i64 0)],.lit (.string []),.lit (.int .i64 0),.nil],.lit (.int .i64 0)],[],by kernel_rfl⟩
theorem zav (os:Os) (started:os.Started) (H:Type) (enc:TypeId×Value->H) (F:Stop.Interp):
 ReturnsInHanded {} Tryz.checked os 8 .any ((OpenSpec.ofChange Rows.evaluateReplacesSpec).preRow enc Tryz.prog Tryz.f8 Rows.evaluateReplacesRow.domain false Rows.evaluateReplacesRow.laid) (((OpenSpec.ofChange Rows.evaluateReplacesSpec).at F).post enc Tryz.prog Tryz.f8 false true false false):=by
 obtain⟨xs,places,hx⟩:=qez os enc;refine returnsInHanded_of_row (C:=Tryz.checked) (s:=OpenSpec.ofChange Rows.evaluateReplacesSpec) ownY started (by kernel_rfl) Tryz.func8
  (witness_row_at (enc:=enc) (C:=Tryz.checked) false (zgp os) witI rfl (by kernel_rfl) (by kernel_rfl) (by kernel_rfl)
    (OpenSpec.preRow_of_cond 8 hx (by kernel_rfl) (fun k hk=>by cases hk) (by kernel_rfl) (zxh os))) ?_
 intro W base args ds gs before hval hW _ _ _ hL _ _;exact zu5 H enc W base args ds gs before hval hW hL
theorem zbs:Rows.EvaluateReplacesSaid:=
 OpenClaim.holds_of_cond 8 Tryz.f8 rfl rfl rfl rfl rfl rfl rfl ⟨rfl,rfl,rfl,rfl,rfl⟩ rfl rfl rfl rfl rfl (by kernel_rfl) Tryz.func8 zx8
  (of_decide_eq_true (by kernel_rfl)) (by unfold Func.isWrapper;first|(rw[if_pos (by decide+kernel)];kernel_rfl)|(rw[if_neg (by decide+kernel)];exact⟨rfl,rfl⟩))
  (fun os started H enc _ F=>by rw[OpenClaim.pre_eq_preRow];exact zav os started H enc F)
theorem qfe (f:FuncId) (fn:Func) (hf:Tryz.pinned.checked.prog.funcNamed "flowpipe/flowpipelaw17.EvaluateReplaces" =some f) (hfn:Tryz.pinned.checked.prog.funcs[f]? =some fn):
 false=Tryz.pinned.checked.prog.looks []/\ ∀(j:Nat) t,fn.params[j]? =some t->Tryz.pinned.checked.prog.wantsStandIn t=false:=by
 obtain rfl:f=8:=Option.some.inj ((show Tryz.prog.funcNamed "flowpipe/flowpipelaw17.EvaluateReplaces" =some 8 by kernel_rfl).symm.trans hf) |>.symm
 obtain rfl:fn=Tryz.f8:=(Option.some.inj (Tryz.func8.symm.trans hfn)).symm;refine⟨by kernel_rfl,fun j t ht=>?_⟩;rw[Tryz.params8]at ht;have hm:=Array.mem_of_getElem? ht;obtain rfl|rfl|rfl|rfl|rfl|rfl:t=63\/t=64\/t=23\/t=5\/t=63\/t=3:=by simpa using hm
 ·exact(show Tryz.prog.wantsStandIn 63=false by kernel_rfl)
 ·exact(show Tryz.prog.wantsStandIn 64=false by kernel_rfl)
 ·exact(show Tryz.prog.wantsStandIn 23=false by kernel_rfl)
 ·exact(show Tryz.prog.wantsStandIn 5=false by kernel_rfl)
 ·exact(show Tryz.prog.wantsStandIn 63=false by kernel_rfl)
 ·exact(show Tryz.prog.wantsStandIn 3=false by kernel_rfl)
theorem hgE:false=Rows.evaluateReplacesRow.goesBy Tryz.pinned.checked.prog:=by kernel_rfl
theorem hwE:Rows.evaluateReplacesRow.wfByText (OpenSpec.ofChange Rows.evaluateReplacesSpec)=true:=by kernel_rfl
theorem hmE:Tryz.pinned.checked.prog.mainIs=some (Rows.evaluateReplacesCard.stood.harness.1,Rows.evaluateReplacesCard.stood.harness.2.toList):=by kernel_rfl
theorem evaluateReplaces_holds:Rows.EvaluateReplacesCardSaid:=
 Claim7.holds_tied_plain_at .later [] _ _ _ _ zbs (fun _ h=>by cases h) hwE (fun _ h=>by cases h) evaluateReplaces_row_tie rfl ⟨rfl,rfl⟩ hmE rfl qfe hgE
end Go.Proofs.YtbolipecnhlnnaaGreatDoor
