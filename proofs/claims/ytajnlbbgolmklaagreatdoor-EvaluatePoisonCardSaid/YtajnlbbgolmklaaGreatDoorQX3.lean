/-
  Seat of round r4: intervals among the arguments; the rows' table.
-/
import Derived.Test.YtajnlbbgolmklaaGreatDoorQOa
import Derived.Test.YtajnlbbgolmklaaGreatDoorQXa
import Derived.Test.YtajnlbbgolmklaaGreatDoorCards
import Derived.Test.YtajnlbbgolmklaaGreatDoorTie
import Derived.WalkKit
import Derived.ProofKit
import Derived.OpenShut
import Derived.Deep.DeepHandedRow
import Derived.Lib.LaidTab
set_option linter.unusedVariables false
set_option linter.unusedSimpArgs false
namespace Go.Proofs.YtajnlbbgolmklaaGreatDoor
open Go Go.Sx Go.ChangeShapes Go.WideShapes Go.ChangeAt Go.WideMaps Go.WideElems Go.RowKit
set_option maxRecDepth 100000
theorem cc33:Tryz.prog.cellsOf 33=1:=by kernel_rfl
theorem cc35:Tryz.prog.cellsOf 35=3:=by kernel_rfl
theorem cc37:Tryz.prog.cellsOf 37=7:=by kernel_rfl
theorem cc122:Tryz.prog.cellsOf 122=1:=by kernel_rfl
theorem cc3:Tryz.prog.cellsOf 3=1:=by kernel_rfl
theorem cc4:Tryz.prog.cellsOf 4=1:=by kernel_rfl
section
variable {H:Type} {enc:TypeId×Value→H} {W:World} {base:Nat} {sp:Nat→Bool} {held:Bool}
theorem zhj (k:Elt) (hk:0<k.size) {P:k.T→Prop} {t te:TypeId} (ht:Tryz.prog.underlying t=some (.slice te)) (hc:Tryz.prog.cellsOf te=k.size)
 (hel: ∀n cs x,DataW.trod enc Tryz.prog W base sp held n te cs=some x→cs.length=k.size∧ ∃e:k.T,P e∧ ∀(j:Nat) u,(k.cells e)[j]? =some u→ ∃v,cs[j]? =some v∧Leaf (V0 W) u v)
 {n:Nat} {cs:List Value} {x:DataW H×List MemPlace} (hn:DataW.trod enc Tryz.prog W base sp held n t cs=some x):
 ∃l:List k.T,(∀x∈l,P x)∧l.length<9223372036854775808∧ ∃v,cs= [v]∧Leaf (V0 W) (.sl k l) v:=by
 have hm:maxLen=9223372036854775807:=by decide
 have key: ∃l:List k.T,(∀x∈l,P x)∧l.length≤maxLen∧ ∃v,cs= [v]∧Leaf (V0 W) (.sl k l) v:=by
  rcases DataW.trod_slice ht hn with ⟨rfl,_⟩|⟨a,len0,cap0,elems,rest,m3,rfl,rfl,_,_,hlc,hcm,hel2,hat,_⟩
  ·exact⟨[],by simp,by simp,_,rfl,.sl k [] none 0 0 0 0 rfl (Nat.le_refl _) (by decide) (fun h=>absurd rfl h) (by simp)⟩
  ·by_cases hlen0:len0=0
   ·subst hlen0
    exact⟨[],by simp,by simp,_,rfl,.sl k [] (some a) 0 cap0 0 0 rfl (Nat.zero_le _) hcm (fun h=>absurd rfl h) (by simp)⟩
   ·have hcs: ∀i,i<len0→ ∃ci,W.cells? base (a.add (i*k.size)) k.size=some ci∧ci.length=k.size∧ ∃e:k.T,P e∧ ∀(j:Nat) u,(k.cells e)[j]? =some u→ ∃v,ci[j]? =some v∧Leaf (V0 W) u v:=by
     intro i hi
     have h5:=hat i hi
     rw[hc,List.getElem?_eq_getElem (by omega),Option.bind_eq_some_iff]at h5
     obtain⟨ci,hci,hti⟩:=h5
     exact⟨ci,hci,hel m3 ci _ hti⟩
    have hspot:a.spot=none:=by
     obtain⟨ci,hci,hcl,_⟩:=hcs 0 (by omega)
     obtain⟨_,_,hcell⟩:=World.cells?_some hci
     have h6:=hcell 0 (by omega)
     rw[List.getElem?_eq_getElem (by omega)]at h6
     exact(zcm (a:=a) (by simpa[Addr.add]using h6)).1
    obtain⟨b,o,spt⟩:=a
    obtain rfl:spt=none:=hspot
    have each: ∀i,i<len0→ ∃e:k.T,P e∧At (V0 W) k e b (o+i*k.size):=by
     intro i hi
     obtain⟨ci,hci,hcl,e,hsm,hex⟩:=hcs i hi
     obtain⟨_,_,hcell⟩:=World.cells?_some hci
     have hv: ∀j,j<k.size→ ∃v,ci[j]? =some v∧zes (V0 W) b (o+i*k.size+j) v:=by
      intro j hj
      have h6:=hcell j hj
      rw[List.getElem?_eq_getElem (by omega),zbs,zbs]at h6
      exact⟨_,List.getElem?_eq_getElem (by omega),(zcm h6).2⟩
     refine⟨e,hsm,.mk k e b _ (fun j=>(ci[j]?).getD (.bool false)) ?_ ?_⟩
     ·intro j hj
      obtain⟨v,q1,q2⟩:=hv j hj
      simp only[q1,Option.getD_some]
      exact q2
     ·intro j u hu
      obtain⟨v,q1,q2⟩:=hex j u hu
      simp only[q1,Option.getD_some]
      exact q2
    obtain⟨l,hll,hl⟩:=zab len0 each
    refine⟨l,fun x hx=>?_,by omega,_,rfl,.sl k l (some ⟨b,o,none⟩) len0 cap0 b o hll.symm hlc hcm (fun _=>rfl) fun i x hx=>(hl i x hx).2⟩
    obtain⟨i,hi⟩:=List.getElem?_of_mem hx
    exact(hl i x hi).1
 obtain⟨l,h1,h2,h3⟩:=key
 exact⟨l,h1,by omega,h3⟩
theorem zpu {n:Nat} {cs:List Value} {x:DataW H×List MemPlace} (hn:DataW.trod enc Tryz.prog W base sp held n 33 cs=some x):
 ∃l:List Int,LB l∧ ∃v,cs= [v]∧Leaf (V0 W) (.sl .u32 l) v:=by
 obtain⟨l,h1,_,h3⟩:=zhj .u32 (by decide) (P:=fun x:Int=>0≤x∧x<4294967296) Tryz.underlying33 cc122 (fun n cs x h=>by
  obtain⟨a,rfl,_,hw⟩:=DataW.trod_int Tryz.underlying122 h
  have hw:0≤a∧a<4294967296:=by
   have e1:IntKind.u32.min=0:=by decide
   have e2:IntKind.u32.max=4294967295:=by decide
   simp[Lit.wf]at hw;omega
  refine⟨rfl,a,hw,fun j u hu=>?_⟩
  match j,hu with
  |0,hu=>obtain rfl: .int .u32 a=u:=by simpa[Elt.cells]using hu
         exact⟨_,rfl,.int _ _⟩
  |j+1,hu=>simp[Elt.cells]at hu) hn
 exact⟨l,h1,h3⟩
theorem zsr {n:Nat} {cs:List Value} {x:DataW H×List MemPlace} (h:DataW.trod enc Tryz.prog W base sp held n 35 cs=some x):
 ∃d:Dy,LB d.m∧ ∃v0 v1 v2,cs= [v0,v1,v2]∧Leaf (V0 W) (.bool d.neg) v0∧Leaf (V0 W) (.sl .u32 d.m) v1∧Leaf (V0 W) (.int .i64 d.e) v2:=by
 obtain⟨ys,m',rfl,_,hlen,hyl,hf⟩:=DataW.trod_struct Tryz.underlying35 h
 rw[cc35]at hlen
 match cs,hlen,ys,hyl with
 | [v0,v1,v2],_,[y0,y1,y2],_=>
   have h0:=hf 0 _ rfl
   have h1:=hf 1 _ rfl
   have h2:=hf 2 _ rfl
   simp[cc3,cc4,cc33]at h0 h1 h2
   obtain⟨b,e0,_⟩:=DataW.trod_bool Tryz.underlying4 h0
   obtain⟨l,hl,v,e1,hv⟩:=zpu h1
   obtain⟨a,e2,_,_⟩:=DataW.trod_int Tryz.underlying3 h2
   simp only[List.cons.injEq,and_true]at e0 e1 e2
   subst e0;subst e1;subst e2
   exact⟨⟨b,l,a⟩,hl,_,_,_,rfl,.bool _,hv,.int _ _⟩
def LBI (x:Iv):Prop:=LB x.lo.m∧LB x.hi.m
theorem zsq {n:Nat} {cs:List Value} {x:DataW H×List MemPlace} (h:DataW.trod enc Tryz.prog W base sp held n 37 cs=some x):
 cs.length=7∧ ∃x:Iv,LBI x∧ ∀(j:Nat) u,(Elt.iv.cells x)[j]? =some u→ ∃v,cs[j]? =some v∧Leaf (V0 W) u v:=by
 obtain⟨ys,m',rfl,_,hlen,hyl,hf⟩:=DataW.trod_struct Tryz.underlying37 h
 rw[cc37]at hlen
 match cs,hlen,ys,hyl with
 | [v0,v1,v2,v3,v4,v5,v6],_,[y0,y1,y2],_=>
   have h0:=hf 0 _ rfl
   have h1:=hf 1 _ rfl
   have h2:=hf 2 _ rfl
   simp[cc35,cc4]at h0 h1 h2
   obtain⟨a,ha,u0,u1,u2,e0,a0,a1,a2⟩:=zsr h0
   obtain⟨b,hb,w0,w1,w2,e1,b0,b1,b2⟩:=zsr h1
   obtain⟨c,e2,_⟩:=DataW.trod_bool Tryz.underlying4 h2
   simp only[List.cons.injEq,and_true]at e0 e1 e2
   obtain⟨rfl,rfl,rfl⟩:=e0
   obtain⟨rfl,rfl,rfl⟩:=e1
   subst e2
   refine⟨rfl,⟨a,b,c⟩,⟨ha,hb⟩,fun j u hu=>?_⟩
   match j,hu with
   |0,hu=>obtain rfl: .bool a.neg=u:=by simpa[Elt.cells,ivC]using hu
          exact⟨_,rfl,a0⟩
   |1,hu=>obtain rfl: .sl .u32 a.m=u:=by simpa[Elt.cells,ivC]using hu
          exact⟨_,rfl,a1⟩
   |2,hu=>obtain rfl: .int .i64 a.e=u:=by simpa[Elt.cells,ivC]using hu
          exact⟨_,rfl,a2⟩
   |3,hu=>obtain rfl: .bool b.neg=u:=by simpa[Elt.cells,ivC]using hu
          exact⟨_,rfl,b0⟩
   |4,hu=>obtain rfl: .sl .u32 b.m=u:=by simpa[Elt.cells,ivC]using hu
          exact⟨_,rfl,b1⟩
   |5,hu=>obtain rfl: .int .i64 b.e=u:=by simpa[Elt.cells,ivC]using hu
          exact⟨_,rfl,b2⟩
   |6,hu=>obtain rfl: .bool c=u:=by simpa[Elt.cells,ivC]using hu
          exact⟨_,rfl,.bool _⟩
   |j+7,hu=>simp[Elt.cells,ivC]at hu
theorem zno {r:Reach} {b0:Nat} {v:Value} {d:DataW H} {ps:List MemPlace} (hval:Value.okWide Tryz.prog W r b0 28 v) (hd:DataW.Trod enc Tryz.prog W base sp held 28 v d ps):
 ∃l:List Iv,(∀x∈l,LBI x)∧l.length<9223372036854775808∧ ∀(pt:Nat→Option Nat) (ow:Nat→Option Value),R ⟨V0 W,pt,ow⟩ (.sl .iv l) v:=by
 obtain⟨a0,len0,cap0,rfl⟩:=okWide_slice Tryz.underlying28 hval
 obtain⟨n,hn⟩:=hd
 obtain⟨l,h1,h2,v,e,h3⟩:=zhj .iv (by decide) (P:=LBI) Tryz.underlying28 cc37 (fun _ _ _ h=>zsq h) hn
 simp[Value.cells]at e
 subst e
 exact⟨l,h1,h2,fun pt ow=>zgk h3⟩
end
theorem ownY:ownKnob Tryz.prog.godebug=none:=by kernel_rfl
theorem gTab:Tryz.prog.globalNamed "math/bits.deBruijn32tab" =some 0:=by kernel_rfl
theorem zoe:(Tryz.prog.globals[0]?).map (·.type)=some 246:=by kernel_rfl
theorem cTab:Tryz.prog.cellsOf 246=32:=by kernel_rfl
theorem c5:Tryz.prog.cellsOf 5=1:=by kernel_rfl
theorem zw1 {W:World} (h:Lib.TabIs Tryz.prog W "math/bits.deBruijn32tab" .u8 (Lib.deBruijn32tab.map (fun(x:Nat)=>(x:Int)))):JT (fun _=>False) (zn W fun _=>False) W:=fun j hj=>by
 have hc:=h.cell gTab j (by rw[List.length_map];exact hj)
 have hv:=(zcm hc).2
 have he:(Lib.deBruijn32tab.map (fun(x:Nat)=>(x:Int))).getD j 0=((Lib.deBruijn32tab.getD j 0:Nat):Int):=by
  simp[List.getD,hj]
 rw[he]at hv
 exact hv
theorem hgJ {i:Nat} (hi: ¬i=qo):hget G0 i= .dead :=by
 simp only[hget]
 rw[(zp _ _).2 fun e=>hi e.symm]
theorem coreJ {W:World} (h:JT (fun _=>False) (zn W fun _=>False) W):Core (fun _=>False) (fun _=>none) (fun _=>none) (fun _=>False) G0 W:=
 ⟨fun _ h=>h.elim,fun _ _ h=>(by cases h),fun _ _ _ h _=>(by cases h),fun _ h=>h.elim,fun _ _ h=>(by cases h),fun _ _ h=>(by cases h),fun _ _ h=>(by cases h),fun i=>by
  by_cases hi:i=qo
  ·subst hi;exact⟨rfl,qa1,h⟩
  ·rw[hgJ hi];trivial⟩
theorem zjw {f:Nat} {A:List AV} (h:ze9 Tryz.prog f G0 A (.bool true) G0) {W:World} {vs:List Value} (hJ:JT (fun _=>False) (zn W fun _=>False) W) (ha:Rs ⟨V0 W,fun _=>none,fun _=>none⟩ A vs):
 Calls Tryz.prog f vs.toArray W fun e W'=>e= .returned (.bool true)∧zt7 W W':=by
 refine(h.2 W (fun _=>False) (fun _=>none) (fun _=>none) (fun _=>False) vs (coreJ hJ) (fun i l b cs T hl=>?_) ha).mono ?_
 ·by_cases hi:i=qo
  ·subst hi
   have hl:Blk.gst JT= .cells l:=hl
   cases hl
  ·rw[hgJ hi]at hl;cases hl
 ·rintro e W' ⟨v,M',pt',ow',S',rfl,_,_,hr,hl⟩
  obtain rfl:v= .bool true:=hr
  exact⟨rfl,hl.os,hl.output,hl.size,fun b hb=>hl.same b hb (fun i h=>by cases h) (fun h=>h)⟩
noncomputable def xr (os:Os):World:=
 {World.holding Tryz.prog os ⟨#[],#[],[]⟩with heap:=(World.holding Tryz.prog os ⟨#[],#[],[]⟩).heap.modify 0 fun
  | .cells _ t frozen=> .cells (Lib.deBruijn32tab.map fun(x:Nat)=>Value.int .u8 x).toArray t frozen
  |o=>o}
end Go.Proofs.YtajnlbbgolmklaaGreatDoor

namespace Go.Proofs.YtajnlbbgolmklaaGreatDoor
open Go Go.Sx Go.ChangeShapes Go.WideShapes Go.ChangeAt Go.WideMaps Go.WideElems Go.RowKit
set_option maxRecDepth 100000
section
variable {H:Type} {enc:TypeId×Value→H} {W:World} {base:Nat} {sp:Nat→Bool} {held:Bool}
theorem zly {r:Reach} {b0:Nat} {v:Value} {d:DataW H} {ps:List MemPlace} (hval:Value.okWide Tryz.prog W r b0 37 v) (hd:DataW.Trod enc Tryz.prog W base sp held 37 v d ps):
 ∃x:Iv,LBI x∧ ∀(pt:Nat→Option Nat) (ow:Nat→Option Value),R ⟨V0 W,pt,ow⟩ (.agg (ivC x)) v:=by
 unfold Value.okWide at hval
 rw[Tryz.underlying37]at hval
 obtain⟨cs,rfl,_,_⟩:=hval
 obtain⟨n,hn⟩:=hd
 obtain⟨hlen,x,hx,he⟩:=zsq hn
 refine⟨x,hx,fun pt ow=>⟨cs,rfl,qaz _ _ ?_ he⟩⟩
 rw[show cs.toList.length=7 from hlen];rfl
end
end Go.Proofs.YtajnlbbgolmklaaGreatDoor
