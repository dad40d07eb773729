/- intervals among the arguments; the rows' table. -/
import Derived.Test.YtbolipecnhlnnaaGreatDoorSOa
import Derived.Test.YtbolipecnhlnnaaGreatDoorCards
import Derived.Test.YtbolipecnhlnnaaGreatDoorTie
import Derived.Deep.DeepHandedRow
import Derived.Lib.LaidTab
import Derived.Test.YtbolipecnhlnnaaGreatDoorSNp
set_option linter.unusedVariables false
set_option linter.unusedSimpArgs false
open List renaming getElem?_eq_getElem->q4
open Go.Lib renaming deBruijn32tab->q5
open Go.Value renaming okWide->q6
namespace Go.Proofs.YtbolipecnhlnnaaGreatDoor
open Go Go.Sx Go.ChangeShapes Go.WideShapes Go.ChangeAt Go.WideMaps Go.WideElems Go.RowKit
set_option maxRecDepth 100000
theorem cc33:Tryz.prog.cellsOf 24=1:=by kernel_rfl
theorem cc35:Tryz.prog.cellsOf 26=3:=by kernel_rfl
theorem cc37:Tryz.prog.cellsOf 28=7:=by kernel_rfl
theorem cc122:Tryz.prog.cellsOf 108=1:=by kernel_rfl
theorem cc3:Tryz.prog.cellsOf 3=1:=by kernel_rfl
theorem cc4:Tryz.prog.cellsOf 4=1:=by kernel_rfl
section
variable {H:Type} {enc:TypeId×Value->H} {W:World} {base:Nat} {sp:Nat->Bool} {held:Bool}
theorem zep (k:Elt) (hk:0<k.size) {P:k.T->Prop} {t te:TypeId} (ht:Tryz.prog.underlying t=some (.slice te)) (hc:Tryz.prog.cellsOf te=k.size)
 (hel: ∀n cs x,DataW.trod enc Tryz.prog W base sp held n te cs=some x->cs.length=k.size/\ ∃e:k.T,P e/\ ∀(j:Nat) u,(k.cells e)[j]? =some u-> ∃v,cs[j]? =some v/\Leaf (V0 W) u v)
 {n:Nat} {cs:List Value} {x:DataW H×List MemPlace} (hn:DataW.trod enc Tryz.prog W base sp held n t cs=some x):
 ∃l:List k.T,(∀x∈l,P x)/\l.length<9223372036854775808/\ ∃v,cs= [v]/\Leaf (V0 W) (.sl k l) v:=by
 have hm:maxLen=9223372036854775807:=by decide
 have key: ∃l:List k.T,(∀x∈l,P x)/\l.length<=maxLen/\ ∃v,cs= [v]/\Leaf (V0 W) (.sl k l) v:=by
  rcases DataW.trod_slice ht hn with ⟨rfl,_⟩|⟨a,len0,cap0,elems,rest,m3,rfl,rfl,_,_,hlc,hcm,hel2,hat,_⟩
  .exact⟨[],by simp,by simp,_,rfl,.sl k [] none 0 0 0 0 rfl (Nat.le_refl _) (by decide) (fun h=>absurd rfl h) (by simp)⟩
  .by_cases hlen0:len0=0
   .subst hlen0;exact⟨[],by simp,by simp,_,rfl,.sl k [] (some a) 0 cap0 0 0 rfl (Nat.zero_le _) hcm (fun h=>absurd rfl h) (by simp)⟩
   .have hcs: ∀i,i<len0-> ∃ci,W.cells? base (a.add (i*k.size)) k.size=some ci/\ci.length=k.size/\ ∃e:k.T,P e/\ ∀(j:Nat) u,(k.cells e)[j]? =some u-> ∃v,ci[j]? =some v/\Leaf (V0 W) u v:=by
     intro i hi;have h5:=hat i hi;rw[hc,q4 (by omega),Option.bind_eq_some_iff]at h5;obtain⟨ci,hci,hti⟩:=h5;exact⟨ci,hci,hel m3 ci _ hti⟩
    have hspot:a.spot=none:=by
     obtain⟨ci,hci,hcl,_⟩:=hcs 0 (by omega);obtain⟨_,_,hcell⟩:=World.cells?_some hci;have h6:=hcell 0 (by omega);rw[q4 (by omega)]at h6;exact(zn8 (a:=a) (by simpa[Addr.add]using h6)).1
    obtain⟨b,o,spt⟩:=a;obtain rfl:spt=none:=hspot;have each: ∀i,i<len0-> ∃e:k.T,P e/\At (V0 W) k e b (o+i*k.size):=by
     intro i hi;obtain⟨ci,hci,hcl,e,hsm,hex⟩:=hcs i hi;obtain⟨_,_,hcell⟩:=World.cells?_some hci;have hv: ∀j,j<k.size-> ∃v,ci[j]? =some v/\zh9 (V0 W) b (o+i*k.size+j) v:=by
      intro j hj;have h6:=hcell j hj;rw[q4 (by omega),zp7,zp7]at h6;exact⟨_,q4 (by omega),(zn8 h6).2⟩
     refine⟨e,hsm,.mk k e b _ (fun j=>(ci[j]?).getD (.bool false)) ?_ ?_⟩
     .intro j hj;obtain⟨v,q1,q2⟩:=hv j hj;simp only[q1,Option.getD_some];exact q2
     .intro j u hu;obtain⟨v,q1,q2⟩:=hex j u hu;simp only[q1,Option.getD_some];exact q2
    obtain⟨l,hll,hl⟩:=zhl len0 each;refine⟨l,fun x hx=>?_,by omega,_,rfl,.sl k l (some ⟨b,o,none⟩) len0 cap0 b o hll.symm hlc hcm (fun _=>rfl) fun i x hx=>(hl i x hx).2⟩;obtain⟨i,hi⟩:=List.getElem?_of_mem hx;exact(hl i x hi).1
 obtain⟨l,h1,h2,h3⟩:=key;exact⟨l,h1,by omega,h3⟩
theorem zqu {n:Nat} {cs:List Value} {x:DataW H×List MemPlace} (hn:DataW.trod enc Tryz.prog W base sp held n 24 cs=some x):
 ∃l:List Int,LB l/\l.length<9223372036854775808/\ ∃v,cs= [v]/\Leaf (V0 W) (.sl .u32 l) v:=by
 obtain⟨l,h1,h2,h3⟩:=zep .u32 (by decide) (P:=fun x:Int=>0<=x/\x<4294967296) Tryz.underlying24 cc122 (fun n cs x h=>by
  obtain⟨a,rfl,_,hw⟩:=DataW.trod_int Tryz.underlying108 h;have hw:0<=a/\a<4294967296:=by
   have e1:IntKind.u32.min=0:=by decide
   have e2:IntKind.u32.max=4294967295:=by decide
   simp[Lit.wf]at hw;omega
  refine⟨rfl,a,hw,fun j u hu=>?_⟩
  match j,hu with
  |0,hu=>obtain rfl: .int .u32 a=u:=by simpa[Elt.cells]using hu
         exact⟨_,rfl,.int _ _⟩
  |j+1,hu=>simp[Elt.cells]at hu) hn
 exact⟨l,h1,h2,h3⟩
theorem zto {n:Nat} {cs:List Value} {x:DataW H×List MemPlace} (h:DataW.trod enc Tryz.prog W base sp held n 26 cs=some x):
 ∃d:Dy,(LB d.m/\d.m.length<9223372036854775808)/\ ∃v0 v1 v2,cs= [v0,v1,v2]/\Leaf (V0 W) (.bool d.neg) v0/\Leaf (V0 W) (.sl .u32 d.m) v1/\Leaf (V0 W) (.int .i64 d.e) v2:=by
 obtain⟨ys,m',rfl,_,hlen,hyl,hf⟩:=DataW.trod_struct Tryz.underlying26 h;rw[cc35]at hlen
 match cs,hlen,ys,hyl with
 | [v0,v1,v2],_,[y0,y1,y2],_=>
   have h0:=hf 0 _ rfl;have h1:=hf 1 _ rfl;have h2:=hf 2 _ rfl;simp[cc3,cc4,cc33]at h0 h1 h2;obtain⟨b,e0,_⟩:=DataW.trod_bool Tryz.underlying4 h0;obtain⟨l,hl,hll,v,e1,hv⟩:=zqu h1;obtain⟨a,e2,_,_⟩:=DataW.trod_int Tryz.underlying3 h2;simp only[List.cons.injEq,and_true]at e0 e1 e2;subst e0;subst e1;subst e2;exact⟨⟨b,l,a⟩,⟨hl,hll⟩,_,_,_,rfl,.bool _,hv,.int _ _⟩
theorem ztn {n:Nat} {cs:List Value} {x:DataW H×List MemPlace} (h:DataW.trod enc Tryz.prog W base sp held n 28 cs=some x):
 cs.length=7/\ ∃x:Iv,RI x/\ ∀(j:Nat) u,(Elt.iv.cells x)[j]? =some u-> ∃v,cs[j]? =some v/\Leaf (V0 W) u v:=by
 obtain⟨ys,m',rfl,_,hlen,hyl,hf⟩:=DataW.trod_struct Tryz.underlying28 h;rw[cc37]at hlen
 match cs,hlen,ys,hyl with
 | [v0,v1,v2,v3,v4,v5,v6],_,[y0,y1,y2],_=>
   have h0:=hf 0 _ rfl;have h1:=hf 1 _ rfl;have h2:=hf 2 _ rfl;simp[cc35,cc4]at h0 h1 h2;obtain⟨a,ha,u0,u1,u2,e0,a0,a1,a2⟩:=zto h0;obtain⟨b,hb,w0,w1,w2,e1,b0,b1,b2⟩:=zto h1;obtain⟨c,e2,_⟩:=DataW.trod_bool Tryz.underlying4 h2;simp only[List.cons.injEq,and_true]at e0 e1 e2;obtain⟨rfl,rfl,rfl⟩:=e0;obtain⟨rfl,rfl,rfl⟩:=e1;subst e2;refine⟨rfl,⟨a,b,c⟩,⟨ha.1,hb.1,ha.2,hb.2⟩,fun j u hu=>?_⟩
   match j,hu with
   |0,hu=>obtain rfl: .bool a.neg=u:=by simpa[Elt.cells,ivC]using hu
          exact⟨_,rfl,a0⟩
   |1,hu=>obtain rfl: .sl .u32 a.m=u:=by simpa[Elt.cells,ivC]using hu
          exact⟨_,rfl,a1⟩
   |2,hu=>obtain rfl: .int .i64 a.e=u:=by simpa[Elt.cells,ivC]using hu
          exact⟨_,rfl,a2⟩
   |3,hu=>obtain rfl: .bool b.neg=u:=by simpa[Elt.cells,ivC]using hu
          exact⟨_,rfl,b0⟩
   |4,hu=>obtain rfl: .sl .u32 b.m=u:=by simpa[Elt.cells,ivC]using hu
          exact⟨_,rfl,b1⟩
   |5,hu=>obtain rfl: .int .i64 b.e=u:=by simpa[Elt.cells,ivC]using hu
          exact⟨_,rfl,b2⟩
   |6,hu=>obtain rfl: .bool c=u:=by simpa[Elt.cells,ivC]using hu
          exact⟨_,rfl,.bool _⟩
   |j+7,hu=>simp[Elt.cells,ivC]at hu
end
theorem ownY:ownKnob Tryz.prog.godebug=none:=by kernel_rfl
theorem gTab:Tryz.prog.globalNamed "math/bits.deBruijn32tab" =some 0:=by kernel_rfl
theorem zxr:(Tryz.prog.globals[0]?).map (·.type)=some 284:=by kernel_rfl
theorem cTab:Tryz.prog.cellsOf 284=32:=by kernel_rfl
theorem c5:Tryz.prog.cellsOf 5=1:=by kernel_rfl
theorem qej {W:World} (h:Lib.TabIs Tryz.prog W "math/bits.deBruijn32tab" .u8 (q5.map (fun(x:Nat)=>(x:Int)))):JT (fun _=>False) (zp W fun _=>False) W:=fun j hj=>by
 have hc:=h.cell gTab j (by rw[List.length_map];exact hj);have hv:=(zn8 hc).2;have he:(q5.map (fun(x:Nat)=>(x:Int))).getD j 0=((q5.getD j 0:Nat):Int):=by
  simp[List.getD,hj]
 rw[he]at hv;exact hv
theorem hgJ {i:Nat} (hi: ¬i=qd):hget G0 i= .dead :=by
 simp only[hget];rw[(zr _ _).2 fun e=>hi e.symm]
theorem coreJ {W:World} (h:JT (fun _=>False) (zp W fun _=>False) W):Core (fun _=>False) (fun _=>none) (fun _=>none) (fun _=>False) G0 W:=
 ⟨fun _ h=>h.elim,fun _ _ h=>(by cases h),fun _ _ _ h _=>(by cases h),fun _ h=>h.elim,fun _ _ h=>(by cases h),fun _ _ h=>(by cases h),fun _ _ h=>(by cases h),fun i=>by
  by_cases hi:i=qd
  .subst hi;exact⟨rfl,qdc,h⟩
  .rw[hgJ hi];trivial⟩
theorem zsm {f:Nat} {A:List AV} (h:zkx Tryz.prog f G0 A (.bool true) G0) {W:World} {vs:List Value} (hJ:JT (fun _=>False) (zp W fun _=>False) W) (ha:Rs ⟨V0 W,fun _=>none,fun _=>none⟩ A vs):
 Calls Tryz.prog f vs.toArray W fun e W'=>e= .returned (.bool true)/\zvl W W':=by
 refine(h.2 W (fun _=>False) (fun _=>none) (fun _=>none) (fun _=>False) vs (coreJ hJ) (fun i l b cs T hl=>?_) ha).mono ?_
 .by_cases hi:i=qd
  .subst hi;have hl:Blk.gst JT= .cells l:=hl;cases hl
  .rw[hgJ hi]at hl;cases hl
 .rintro e W' ⟨v,M',pt',ow',S',rfl,_,_,hr,hl⟩;obtain rfl:v= .bool true:=hr;exact⟨rfl,hl.os,hl.output,hl.size,fun b hb=>hl.same b hb (fun i h=>by cases h) (fun h=>h)⟩
noncomputable def zg1 (os:Os):World:=
 {World.holding Tryz.prog os ⟨#[],#[],[]⟩with heap:=(World.holding Tryz.prog os ⟨#[],#[],[]⟩).heap.modify 0 fun
  | .cells _ t frozen=> .cells (q5.map fun(x:Nat)=>Value.int .u8 x).toArray t frozen
  |o=>o}
theorem kIj5:laidOutB Tryz.pinned.checked.prog=true:=by kernel_rfl
theorem kJj5:mapsRowed Tryz.pinned.checked.prog=true:=by kernel_rfl
theorem kKj5:(Tryz.pinned.checked.prog.stops== [])=true:=by kernel_rfl
theorem kLj5:(Tryz.pinned.checked.prog.stopKnobs== [])=true:=by kernel_rfl
theorem kEj5:(Rows.matexpDeterminantRow.plainKeys==Tryz.pinned.checked.prog.plainKeys)=true:=by kernel_rfl
theorem kFj5:Tryz.pinned.checked.prog.stopsHeard=true:=by kernel_rfl
theorem kGj5:Tryz.pinned.checked.prog.mayEnter=true:=by kernel_rfl
theorem kHj5:(Rows.matexpDeterminantRow.lifted==Tryz.pinned.checked.prog.liftsFinal)=true:=by kernel_rfl
theorem kAj5:(Rows.matexpDeterminantRow.inPlace==Tryz.pinned.checked.prog.inPlace 5)=true:=by kernel_rfl
theorem kBj5:(Rows.matexpDeterminantRow.unfollowed==Tryz.pinned.checked.prog.unfollowed 5)=true:=by kernel_rfl
theorem kCj5:(Rows.matexpDeterminantRow.recurses==Tryz.pinned.checked.prog.recurses 5)=true:=by kernel_rfl
theorem kDj5:(Rows.matexpDeterminantRow.named==Tryz.pinned.checked.prog.varsNamed 5)=true:=by kernel_rfl
theorem zx2:joinedFacts Tryz.pinned.checked.prog 5 Tryz.f5 (OpenSpec.ofChange Rows.matexpDeterminantSpec).bare Rows.matexpDeterminantRow=true:=by
 unfold joinedFacts;simp only[kAj5,kBj5,kCj5,kDj5,kEj5,kFj5,kGj5,kHj5,kIj5,kJj5,kKj5,kLj5,Bool.and_true]
 kernel_rfl
theorem cc23:Tryz.prog.cellsOf 23=1:=by kernel_rfl
section
variable {H:Type} {enc:TypeId×Value->H} {W:World} {base:Nat} {sp:Nat->Bool} {held:Bool}
theorem qbl {r:Reach} {b0:Nat} {v:Value} {d:DataW H} {ps:List MemPlace} (hval:q6 Tryz.prog W r b0 28 v) (hd:DataW.Trod enc Tryz.prog W base sp held 28 v d ps):
 ∃x:Iv,RI x/\ ∀(pt:Nat->Option Nat) (ow:Nat->Option Value),R ⟨V0 W,pt,ow⟩ (.agg (ivC x)) v:=by
 unfold q6 at hval;rw[Tryz.underlying28]at hval;obtain⟨cs,rfl,_,_⟩:=hval;obtain⟨n,hn⟩:=hd;obtain⟨hlen,x,hx,he⟩:=ztn hn;refine⟨x,hx,fun pt ow=>⟨cs,rfl,qhw _ _ ?_ he⟩⟩;rw[show cs.toList.length=7 from hlen];rfl
theorem zwr {r:Reach} {b0:Nat} {v:Value} {d:DataW H} {ps:List MemPlace} (hval:q6 Tryz.prog W r b0 22 v) (hd:DataW.Trod enc Tryz.prog W base sp held 22 v d ps):
 ∃m:Mx,RX m/\ ∀(pt:Nat->Option Nat) (ow:Nat->Option Value),R ⟨V0 W,pt,ow⟩ (.sl .vs m) v:=by
 obtain⟨a0,len0,cap0,rfl⟩:=okWide_slice Tryz.underlying22 hval;obtain⟨n,hn⟩:=hd;obtain⟨l,h1,h2,v,e,h3⟩:=zep .vs (by decide) (P:=fun r:List Iv=>(∀x∈r,RI x)/\r.length<9223372036854775808) Tryz.underlying22 cc23 (fun n cs x h=>by
  obtain⟨l,q1,q2,v,rfl,q3⟩:=zep .iv (by decide) (P:=RI) Tryz.underlying23 cc37 (fun _ _ _ h=>ztn h) h;refine⟨rfl,l,⟨q1,q2⟩,fun j u hu=>?_⟩
  match j,hu with
  |0,hu=>obtain rfl: .sl .iv l=u:=by simpa[Elt.cells]using hu
         exact⟨_,rfl,q3⟩
  |j+1,hu=>simp[Elt.cells]at hu) hn
 simp[Value.cells]at e;subst e;exact⟨l,⟨fun r hr=>(h1 r hr).1,fun r hr=>(h1 r hr).2,h2⟩,fun pt ow=>zmr h3⟩
end
theorem wfu8 {n:Int} (h:(Lit.int .u8 n).wf =true):0<=n/\n<=255:=by
 have e1:IntKind.u8.min=0:=by decide
 have e2:IntKind.u8.max=255:=by decide
 simp[Lit.wf]at h;omega
theorem qam {W:World} (h:laidMetH Tryz.prog Rows.matexpDeterminantRow.laid W):JT (fun _=>False) (zp W fun _=>False) W:=
 qej (Lib.tabIs_of_head (rest:= []) gTab zxr Tryz.underlying284 Tryz.underlying5 c5 cTab h)
theorem zuv (H:Type) (enc:TypeId×Value->H) (W:World) (base:Nat) (args:Array Value) (ds gs:List (DataW H)) (before:List MemPlace)
 (hval: ∀(j:Nat) t v,Tryz.f5.params[j]? =some t->args[j]? =some v->q6 Tryz.prog W .any base t v)
 (hW:DataW.Whole enc Tryz.prog Tryz.f5.params.toList Rows.matexpDeterminantSpec.vars false W args.toList ds gs before) (hL:laidMetH Tryz.prog Rows.matexpDeterminantRow.laid W):
 Calls Tryz.prog 5 args W fun e W'=> ∃v,e= .returned v/\Rows.matexpDeterminantSpec.post enc Tryz.prog Tryz.f5 false true false false W args v W':=by
 have hW':=hW;obtain⟨p,q,hA0,hV,_,_,_⟩:=hW;obtain⟨rfl,_⟩:=trodVars_none hV;have hA:DataW.TrodAll enc Tryz.prog W 0 (fun _=>true) true Tryz.f5.params.toList args.toList ds p:=hA0;rw[Tryz.params5]at hA hval;obtain⟨v0,vs0,d0,ds0,p0,q0,hargs,rfl,rfl,h0,r0⟩:=trodAll_cons hA;obtain⟨v1,vs1,d1,ds1,p1,q1,hargs1,rfl,rfl,h1,r1⟩:=trodAll_cons r0;obtain⟨v2,vs2,d2,ds2,p2,q2,hargs2,rfl,rfl,h2,r2⟩:=trodAll_cons r1;obtain⟨hargs3,rfl,rfl⟩:=trodAll_nil r2;subst hargs1;subst hargs2;subst hargs3;obtain rfl:args= #[v0,v1,v2]:=by cases args;simp_all
 obtain⟨a,hax,hRa⟩:=zwr (hval 0 22 v0 rfl rfl) h0;obtain⟨t,htx,hRt⟩:=qbl (hval 1 28 v1 rfl rfl) h1;obtain⟨P,rfl,_,_,wfP⟩:=open_int Tryz.underlying5 (hval 2 5 v2 rfl rfl) h2;refine(zsm (d5 a hax t htx (wfu8 wfP)) (qam hL) (vs:= [v0,v1,.int .u8 P]) ⟨hRa _ _,hRt _ _,rfl,trivial⟩).mono ?_;rintro e' W' ⟨rfl,hq⟩;exact⟨_,rfl,zqq hW' hq rfl (by rw[Tryz.params5];decide+kernel) rfl rfl rfl rfl⟩
noncomputable def witI:Array Value:= #[.slice none 0 0,.agg #[.bool false,.slice none 0 0,.int .i64 0,.bool false,.slice none 0 0,.int .i64 0,.bool false],.int .u8 0]
theorem zxd (os:Os):laidMet Tryz.prog Rows.matexpDeterminantRow.laid ((zg1 os).forCall (fun _ _=>0) ⟨#[],witI,[]⟩).memory :=
 laidMet_of_run' 3 (by kernel_rfl) (by kernel_rfl)
theorem qey (os:Os) {H:Type} (enc:TypeId×Value->H): ∃xs places,DataW.whole enc Tryz.prog ((zg1 os).forCall (fun _ _=>0) ⟨#[],witI,[]⟩).memory Tryz.f5.params.toList Rows.matexpDeterminantSpec.vars false witI.toList 8=some (xs,[],places):=
 ⟨[.nil,.agg [.agg [.lit (.bool false),.nil,.lit (.int .i64 0)],.agg [.lit (.bool false),.nil,.lit (.int .i64 0)],.lit (.bool false)],.lit (.int .u8 0)],[],by kernel_rfl⟩
theorem zau (os:Os) (started:os.Started) (H:Type) (enc:TypeId×Value->H) (F:Stop.Interp):
 ReturnsInHanded {} Tryz.checked os 5 .any ((OpenSpec.ofChange Rows.matexpDeterminantSpec).preRow enc Tryz.prog Tryz.f5 Rows.matexpDeterminantRow.domain false Rows.matexpDeterminantRow.laid) (((OpenSpec.ofChange Rows.matexpDeterminantSpec).at F).post enc Tryz.prog Tryz.f5 false true false false):=by
 obtain⟨xs,places,hx⟩:=qey os enc;refine returnsInHanded_of_row (C:=Tryz.checked) (s:=OpenSpec.ofChange Rows.matexpDeterminantSpec) ownY started (by kernel_rfl) Tryz.func5
  (witness_row_at (enc:=enc) (C:=Tryz.checked) false (zg1 os) witI rfl (by kernel_rfl) (by kernel_rfl) (by kernel_rfl)
    (OpenSpec.preRow_of_cond 8 hx (by kernel_rfl) (fun k hk=>by cases hk) (by kernel_rfl) (zxd os))) ?_
 intro W base args ds gs before hval hW _ _ _ hL _ _;exact zuv H enc W base args ds gs before hval hW hL
theorem zbi:Rows.MatexpDeterminantSaid:=
 OpenClaim.holds_of_cond 5 Tryz.f5 rfl rfl rfl rfl rfl rfl rfl ⟨rfl,rfl,rfl,rfl,rfl⟩ rfl rfl rfl rfl rfl (by kernel_rfl) Tryz.func5 zx2
  (Z0 (by kernel_rfl)) (by unfold Func.isWrapper;first|(rw[Z4 (by decide+kernel)];kernel_rfl)|(rw[Z5 (by decide+kernel)];exact⟨rfl,rfl⟩))
  (fun os started H enc _ F=>by rw[OpenClaim.pre_eq_preRow];exact zau os started H enc F)
theorem qe6 (f:FuncId) (fn:Func) (hf:Tryz.pinned.checked.prog.funcNamed "flowpipe/flowpipelaw38.MatexpDeterminant" =some f) (hfn:Tryz.pinned.checked.prog.funcs[f]? =some fn):
 false=Tryz.pinned.checked.prog.looks []/\ ∀(j:Nat) t,fn.params[j]? =some t->Tryz.pinned.checked.prog.wantsStandIn t=false:=by
 obtain rfl:f=5:=Option.some.inj ((show Tryz.prog.funcNamed "flowpipe/flowpipelaw38.MatexpDeterminant" =some 5 by kernel_rfl).symm.trans hf) |>.symm
 obtain rfl:fn=Tryz.f5:=(Option.some.inj (Tryz.func5.symm.trans hfn)).symm;refine⟨by kernel_rfl,fun j t ht=>?_⟩;rw[Tryz.params5]at ht;have hm:=Array.mem_of_getElem? ht;obtain rfl|rfl|rfl:t=22\/t=28\/t=5:=by simp at hm;omega
 .exact(show Tryz.prog.wantsStandIn 22=false by kernel_rfl)
 .exact(show Tryz.prog.wantsStandIn 28=false by kernel_rfl)
 .exact(show Tryz.prog.wantsStandIn 5=false by kernel_rfl)
theorem matexpDeterminant_holds:Rows.MatexpDeterminantCardSaid:=
 Claim7.holds_tied_plain_at .later [] _ _ _ _ zbi (fun _ h=>by cases h) (by kernel_rfl) (fun _ h=>by cases h) matexpDeterminant_row_tie rfl ⟨rfl,rfl⟩ (by kernel_rfl) rfl qe6 (by kernel_rfl)
