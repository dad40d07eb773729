/- intervals among the arguments; the rows' table. -/
import Derived.Test.YtlbmkjbgfkgcmaaGreatDoorTOa
import Derived.Test.YtlbmkjbgfkgcmaaGreatDoorCards
import Derived.Test.YtlbmkjbgfkgcmaaGreatDoorTie
import Derived.Deep.DeepHandedRow
import Derived.Lib.LaidTab
import Derived.Test.YtlbmkjbgfkgcmaaGreatDoorTQf
set_option linter.all false
open List renaming getElem?_eq_getElem->q4,getElem?_of_mem->qC
open Option renaming getD_some->qA,bind_eq_some_iff->qB
open Go.Lib renaming deBruijn32tab->qE
open Go.Value renaming okWide->qF
open Go.World renaming cells?_some->qD,holding->qG
namespace Go.Proofs.YtlbmkjbgfkgcmaaGreatDoor
open Go Go.Sx Go.ChangeShapes Go.WideShapes Go.ChangeAt Go.WideMaps Go.WideElems Go.RowKit
set_option maxRecDepth 100000
theorem cc33:Tryz.prog.cellsOf 44=1:=Z
theorem cc35:Tryz.prog.cellsOf 46=3:=Z
theorem cc37:Tryz.prog.cellsOf 48=7:=Z
theorem cc122:Tryz.prog.cellsOf 101=1:=Z
theorem cc3:Tryz.prog.cellsOf 3=1:=Z
theorem cc4:Tryz.prog.cellsOf 4=1:=Z
section
variable {H:Type} {enc:TypeId×Value->H} {W:World} {base:Nat} {sp:Nat->Bool} {held:Bool}
theorem zir(k:Elt)(hk:0<k.size){P:k.T->Prop}{t te:TypeId}(ht:Tryz.prog.underlying t=some (.slice te))(hc:Tryz.prog.cellsOf te=k.size)
 (hel:∀n cs x,DataW.trod enc Tryz.prog W base sp held n te cs=some x->cs.length=k.size/\∃e:k.T,P e/\∀(j:Nat)u,(k.cells e)[j]? =some u->∃v,cs[j]? =some v/\Leaf (V0 W) u v)
 {n:Nat} {cs:List Value} {x:DataW H×List MemPlace} (hn:DataW.trod enc Tryz.prog W base sp held n t cs=some x):
 ∃l:List k.T,(∀x∈l,P x)/\l.length<9223372036854775808/\∃v,cs= [v]/\Leaf (V0 W) (.sl k l) v:=by
 have hm:maxLen=9223372036854775807:=OA;have key:∃l:List k.T,(∀x∈l,P x)/\l.length<=maxLen/\∃v,cs= [v]/\Leaf (V0 W) (.sl k l) v:=by
  rcases DataW.trod_slice ht hn with ⟨rfl,_⟩|⟨a,len0,cap0,elems,rest,m3,rfl,rfl,_,_,hlc,hcm,hel2,hat,_⟩
  .exact⟨[],OC,OC,_,rfl,.sl k [] none 0 0 0 0 rfl (Nat.le_refl _) OA (fun h=>absurd rfl h) OC⟩
  .by_cases hlen0:len0=0
   .subst hlen0;exact⟨[],OC,OC,_,rfl,.sl k [] (some a) 0 cap0 0 0 rfl (Nat.zero_le _) hcm (fun h=>absurd rfl h) OC⟩
   .have hcs:∀i,i<len0->∃ci,W.cells? base (a.add (i*k.size)) k.size=some ci/\ci.length=k.size/\∃e:k.T,P e/\∀(j:Nat)u,(k.cells e)[j]? =some u->∃v,ci[j]? =some v/\Leaf (V0 W) u v:=by
     intro i hi;have h5:=hat i hi;rw[hc,q4 O,qB]at h5;obtain⟨ci,hci,hti⟩:=h5;exact⟨ci,hci,hel m3 ci _ hti⟩
    have hspot:a.spot=none:=by
     obtain⟨ci,hci,hcl,_⟩:=hcs 0 O;obtain⟨_,_,hcell⟩:=qD hci;have h6:=hcell 0 O;rw[q4 O]at h6;exact(zhn (a:=a) (by simpa[Addr.add]using h6)).1
    obtain⟨b,o,spt⟩:=a;obtain rfl:spt=none:=hspot;have each:∀i,i<len0->∃e:k.T,P e/\At (V0 W) k e b (o+i*k.size):=by
     intro i hi;obtain⟨ci,hci,hcl,e,hsm,hex⟩:=hcs i hi;obtain⟨_,_,hcell⟩:=qD hci;have hv:∀j,j<k.size->∃v,ci[j]? =some v/\zb5 (V0 W) b (o+i*k.size+j) v:=by
      intro j hj;have h6:=hcell j hj;rw[q4 O,zf8,zf8]at h6;exact⟨_,q4 O,(zhn h6).2⟩
     refine⟨e,hsm,.mk k e b _ (fun j=>(ci[j]?).getD (.bool false)) ?_ ?_⟩
     .intro j hj;obtain⟨v,q1,q2⟩:=hv j hj;simp only[q1,qA];exact q2
     .intro j u hu;obtain⟨v,q1,q2⟩:=hex j u hu;simp only[q1,qA];exact q2
    obtain⟨l,hll,hl⟩:=zdd len0 each;refine⟨l,fun x hx=>?_,O,_,rfl,.sl k l (some ⟨b,o,none⟩) len0 cap0 b o hll.symm hlc hcm (fun _=>rfl) fun i x hx=>(hl i x hx).2⟩;obtain⟨i,hi⟩:=qC hx;exact(hl i x hi).1
 obtain⟨l,h1,h2,h3⟩:=key;exact⟨l,h1,O,h3⟩
theorem zqn{n:Nat}{cs:List Value}{x:DataW H×List MemPlace}(hn:DataW.trod enc Tryz.prog W base sp held n 44 cs=some x):
 ∃l:List Int,LB l/\l.length<9223372036854775808/\∃v,cs= [v]/\Leaf (V0 W) (.sl .u32 l) v:=by
 obtain⟨l,h1,h2,h3⟩:=zir .u32 OA (P:=fun x:Int=>0<=x/\x<4294967296) Tryz.underlying44 cc122 (fun n cs x h=>by
  obtain⟨a,rfl,_,hw⟩:=DataW.trod_int Tryz.underlying101 h;have hw:0<=a/\a<4294967296:=by
   have e1:IntKind.u32.min=0:=OA;have e2:IntKind.u32.max=4294967295:=OA;simp[Lit.wf]at hw;omega
  refine⟨rfl,a,hw,fun j u hu=>?_⟩
  match j,hu with
  |0,hu=>obtain rfl: .int .u32 a=u:=by simpa[Elt.cells]using hu
         exact⟨_,rfl,.int _ _⟩
  |j+1,hu=>simp[Elt.cells]at hu) hn
 exact⟨l,h1,h2,h3⟩
theorem ztj{n:Nat}{cs:List Value}{x:DataW H×List MemPlace}(h:DataW.trod enc Tryz.prog W base sp held n 46 cs=some x):
 ∃d:Dy,(LB d.m/\d.m.length<9223372036854775808)/\∃v0 v1 v2,cs= [v0,v1,v2]/\Leaf (V0 W) (.bool d.neg) v0/\Leaf (V0 W) (.sl .u32 d.m) v1/\Leaf (V0 W) (.int .i64 d.e) v2:=by
 obtain⟨ys,m',rfl,_,hlen,hyl,hf⟩:=DataW.trod_struct Tryz.underlying46 h;rw[cc35]at hlen
 match cs,hlen,ys,hyl with
 | [v0,v1,v2],_,[y0,y1,y2],_=>
   have h0:=hf 0 _ rfl;have h1:=hf 1 _ rfl;have h2:=hf 2 _ rfl;simp[cc3,cc4,cc33]at h0 h1 h2;obtain⟨b,e0,_⟩:=DataW.trod_bool Tryz.underlying4 h0;obtain⟨l,hl,hll,v,e1,hv⟩:=zqn h1;obtain⟨a,e2,_,_⟩:=DataW.trod_int Tryz.underlying3 h2;simp only[List.cons.injEq,and_true]at e0 e1 e2;subst e0;subst e1;subst e2;exact⟨⟨b,l,a⟩,⟨hl,hll⟩,_,_,_,rfl,.bool _,hv,.int _ _⟩
theorem qax{n:Nat}{cs:List Value}{x:DataW H×List MemPlace}(h:DataW.trod enc Tryz.prog W base sp held n 48 cs=some x):
 cs.length=7/\∃x:Iv,RI x/\∀(j:Nat)u,(Elt.iv.cells x)[j]? =some u->∃v,cs[j]? =some v/\Leaf (V0 W) u v:=by
 obtain⟨ys,m',rfl,_,hlen,hyl,hf⟩:=DataW.trod_struct Tryz.underlying48 h;rw[cc37]at hlen
 match cs,hlen,ys,hyl with
 | [v0,v1,v2,v3,v4,v5,v6],_,[y0,y1,y2],_=>
   have h0:=hf 0 _ rfl;have h1:=hf 1 _ rfl;have h2:=hf 2 _ rfl;simp[cc35,cc4]at h0 h1 h2;obtain⟨a,ha,u0,u1,u2,e0,a0,a1,a2⟩:=ztj h0;obtain⟨b,hb,w0,w1,w2,e1,b0,b1,b2⟩:=ztj h1;obtain⟨c,e2,_⟩:=DataW.trod_bool Tryz.underlying4 h2;simp only[List.cons.injEq,and_true]at e0 e1 e2;obtain⟨rfl,rfl,rfl⟩:=e0;obtain⟨rfl,rfl,rfl⟩:=e1;subst e2;refine⟨rfl,⟨a,b,c⟩,⟨ha.1,hb.1,ha.2,hb.2⟩,fun j u hu=>?_⟩
   match j,hu with
   |0,hu=>obtain rfl: .bool a.neg=u:=by simpa[Elt.cells,ivC]using hu
          exact⟨_,rfl,a0⟩
   |1,hu=>obtain rfl: .sl .u32 a.m=u:=by simpa[Elt.cells,ivC]using hu
          exact⟨_,rfl,a1⟩
   |2,hu=>obtain rfl: .int .i64 a.e=u:=by simpa[Elt.cells,ivC]using hu
          exact⟨_,rfl,a2⟩
   |3,hu=>obtain rfl: .bool b.neg=u:=by simpa[Elt.cells,ivC]using hu
          exact⟨_,rfl,b0⟩
   |4,hu=>obtain rfl: .sl .u32 b.m=u:=by simpa[Elt.cells,ivC]using hu
          exact⟨_,rfl,b1⟩
   |5,hu=>obtain rfl: .int .i64 b.e=u:=by simpa[Elt.cells,ivC]using hu
          exact⟨_,rfl,b2⟩
   |6,hu=>obtain rfl: .bool c=u:=by simpa[Elt.cells,ivC]using hu
          exact⟨_,rfl,.bool _⟩
   |j+7,hu=>simp[Elt.cells,ivC]at hu
theorem zwf{r:Reach}{b0:Nat}{v:Value}{d:DataW H}{ps:List MemPlace}(hval:qF Tryz.prog W r b0 26 v)(hd:DataW.Trod enc Tryz.prog W base sp held 26 v d ps):
 ∃l:List Iv,(∀x∈l,RI x)/\l.length<9223372036854775808/\∀(pt:Nat->Option Nat)(ow:Nat->Option Value),R ⟨V0 W,pt,ow⟩ (.sl .iv l) v:=by
 obtain⟨a0,len0,cap0,rfl⟩:=okWide_slice Tryz.underlying26 hval;obtain⟨n,hn⟩:=hd;obtain⟨l,h1,h2,v,e,h3⟩:=zir .iv OA (P:=RI) Tryz.underlying26 cc37 (fun _ _ _ h=>qax h) hn;simp[Value.cells]at e;subst e;exact⟨l,h1,h2,fun pt ow=>zht h3⟩
end
theorem ownY:ownKnob Tryz.prog.godebug=none:=Z
theorem gTab:Tryz.prog.globalNamed "math/bits.deBruijn32tab" =some 0:=Z
theorem zw6:(Tryz.prog.globals[0]?).map (·.type)=some 199:=Z
theorem cTab:Tryz.prog.cellsOf 199=32:=Z
theorem c5:Tryz.prog.cellsOf 5=1:=Z
theorem qdp{W:World}(h:Lib.TabIs Tryz.prog W "math/bits.deBruijn32tab" .u8 (qE.map (fun(x:Nat)=>(x:Int)))):JT (fun _=>False) (zo W fun _=>False) W:=fun j hj=>by
 have hc:=h.cell gTab j (by rw[List.length_map];exact hj);have hv:=(zhn hc).2;have he:(qE.map (fun(x:Nat)=>(x:Int))).getD j 0=((qE.getD j 0:Nat):Int):=by
  simp[List.getD,hj]
 rw[he]at hv;exact hv
theorem hgJ{i:Nat}(hi:¬i=qi):hget G0 i=.dead :=by
 simp only[hget];rw[(zt _ _).2 fun e=>hi e.symm]
theorem coreJ{W:World}(h:JT (fun _=>False) (zo W fun _=>False) W):Core (fun _=>False) (fun _=>none) (fun _=>none) (fun _=>False) G0 W:=
 ⟨fun _ h=>h.elim,fun _ _ h=>(by cases h),fun _ _ _ h _=>(by cases h),fun _ h=>h.elim,fun _ _ h=>(by cases h),fun _ _ h=>(by cases h),fun _ _ h=>(by cases h),fun i=>by
  by_cases hi:i=qi
  .subst hi;exact⟨rfl,qcg,h⟩
  .rw[hgJ hi];trivial⟩
theorem zsg{f:Nat}{A:List AV}(h:zh8 Tryz.prog f G0 A (.bool true) G0){W:World}{vs:List Value}(hJ:JT (fun _=>False) (zo W fun _=>False) W)(ha:Rs ⟨V0 W,fun _=>none,fun _=>none⟩ A vs):
 Calls Tryz.prog f vs.toArray W fun e W'=>e=.returned (.bool true)/\zu4 W W':=by
 refine(h.2 W (fun _=>False) (fun _=>none) (fun _=>none) (fun _=>False) vs (coreJ hJ) (fun i l b cs T hl=>?_) ha).mono ?_
 .by_cases hi:i=qi
  .subst hi;have hl:Blk.gst JT=.cells l:=hl;cases hl
  .rw[hgJ hi]at hl;cases hl
 .rintro e W' ⟨v,M',pt',ow',S',rfl,_,_,hr,hl⟩;obtain rfl:v=.bool true:=hr;exact⟨rfl,hl.os,hl.output,hl.size,fun b hb=>hl.same b hb (fun i h=>by cases h) (fun h=>h)⟩
noncomputable def zgs(os:Os):World:=
 {qG Tryz.prog os ⟨#[],#[],[]⟩with heap:=(qG Tryz.prog os ⟨#[],#[],[]⟩).heap.modify 0 fun
  |.cells _ t frozen=>.cells (qE.map fun(x:Nat)=>Value.int .u8 x).toArray t frozen
  |o=>o}
theorem kIj3:laidOutB Tryz.pinned.checked.prog=true:=Z
theorem kJj3:mapsRowed Tryz.pinned.checked.prog=true:=Z
theorem kKj3:(Tryz.pinned.checked.prog.stops== [])=true:=Z
theorem kLj3:(Tryz.pinned.checked.prog.stopKnobs== [])=true:=Z
theorem kEj3:(Rows.gradientTapesRow.plainKeys==Tryz.pinned.checked.prog.plainKeys)=true:=Z
theorem kFj3:Tryz.pinned.checked.prog.stopsHeard=true:=Z
theorem kGj3:Tryz.pinned.checked.prog.mayEnter=true:=Z
theorem kHj3:(Rows.gradientTapesRow.lifted==Tryz.pinned.checked.prog.liftsFinal)=true:=Z
theorem kAj3:(Rows.gradientTapesRow.inPlace==Tryz.pinned.checked.prog.inPlace 3)=true:=Z
theorem kBj3:(Rows.gradientTapesRow.unfollowed==Tryz.pinned.checked.prog.unfollowed 3)=true:=Z
theorem kCj3:(Rows.gradientTapesRow.recurses==Tryz.pinned.checked.prog.recurses 3)=true:=Z
theorem kDj3:(Rows.gradientTapesRow.named==Tryz.pinned.checked.prog.varsNamed 3)=true:=Z
theorem zxi:joinedFacts Tryz.pinned.checked.prog 3 Tryz.f3 (OpenSpec.ofChange Rows.gradientTapesSpec).bare Rows.gradientTapesRow=true:=by
 unfold joinedFacts;simp only[kAj3,kBj3,kCj3,kDj3,kEj3,kFj3,kGj3,kHj3,kIj3,kJj3,kKj3,kLj3,Bool.and_true]
 kernel_rfl
theorem c72:Tryz.prog.cellsOf 63=6:=Z
theorem c61:Tryz.prog.cellsOf 22=1:=Z
theorem c62:Tryz.prog.cellsOf 23=1:=Z
section
variable {H:Type} {enc:TypeId×Value->H} {W:World} {base:Nat} {sp:Nat->Bool} {held:Bool}
theorem zrd(k:Elt)(hk:0<k.size){P:k.T->Prop}{t te:TypeId}(ht:Tryz.prog.underlying t=some (.slice te))(hc:Tryz.prog.cellsOf te=k.size)
 (hel:∀n cs x,DataW.trod enc Tryz.prog W base sp held n te cs=some x->cs.length=k.size/\∃e:k.T,P e/\∀(j:Nat)u,(k.cells e)[j]? =some u->∃v,cs[j]? =some v/\Leaf (V0 W) u v)
 {n:Nat} {cs:List Value} {x:DataW H×List MemPlace} (hn:DataW.trod enc Tryz.prog W base sp held n t cs=some x):
 ∃v,cs= [v]/\∃l:List k.T,(∀x∈l,P x)/\l.length<=maxLen/\Leaf (V0 W) (.sl k l) v:=by
 rcases DataW.trod_slice ht hn with ⟨rfl,_⟩|⟨a,len0,cap0,elems,rest,m3,rfl,rfl,_,_,hlc,hcm,hel2,hat,_⟩
 .refine⟨_,rfl,?_⟩;exact⟨[],OC,OC,.sl k [] none 0 0 0 0 rfl (Nat.le_refl _) OA (fun h=>absurd rfl h) OC⟩
 .refine⟨_,rfl,?_⟩;by_cases hlen0:len0=0
  .subst hlen0;exact⟨[],OC,OC,.sl k [] (some a) 0 cap0 0 0 rfl (Nat.zero_le _) hcm (fun h=>absurd rfl h) OC⟩
  .have hcs:∀i,i<len0->∃ci,W.cells? base (a.add (i*k.size)) k.size=some ci/\ci.length=k.size/\∃e:k.T,P e/\∀(j:Nat)u,(k.cells e)[j]? =some u->∃v,ci[j]? =some v/\Leaf (V0 W) u v:=by
    intro i hi;have h5:=hat i hi;rw[hc,q4 O,qB]at h5;obtain⟨ci,hci,hti⟩:=h5;exact⟨ci,hci,hel m3 ci _ hti⟩
   have hspot:a.spot=none:=by
    obtain⟨ci,hci,hcl,_⟩:=hcs 0 O;obtain⟨_,_,hcell⟩:=qD hci;have h6:=hcell 0 O;rw[q4 O]at h6;exact(zhn (a:=a) (by simpa[Addr.add]using h6)).1
   obtain⟨b,o,spt⟩:=a;obtain rfl:spt=none:=hspot;have each:∀i,i<len0->∃e:k.T,P e/\At (V0 W) k e b (o+i*k.size):=by
    intro i hi;obtain⟨ci,hci,hcl,e,hsm,hex⟩:=hcs i hi;obtain⟨_,_,hcell⟩:=qD hci;have hv:∀j,j<k.size->∃v,ci[j]? =some v/\zb5 (V0 W) b (o+i*k.size+j) v:=by
     intro j hj;have h6:=hcell j hj;rw[q4 O,zf8,zf8]at h6;exact⟨_,q4 O,(zhn h6).2⟩
    refine⟨e,hsm,.mk k e b _ (fun j=>(ci[j]?).getD (.bool false)) ?_ ?_⟩
    .intro j hj;obtain⟨v,q1,q2⟩:=hv j hj;simp only[q1,qA];exact q2
    .intro j u hu;obtain⟨v,q1,q2⟩:=hex j u hu;simp only[q1,qA];exact q2
   obtain⟨l,hll,hl⟩:=zdd len0 each;refine⟨l,fun x hx=>?_,O,.sl k l (some ⟨b,o,none⟩) len0 cap0 b o hll.symm hlc hcm (fun _=>rfl) fun i x hx=>(hl i x hx).2⟩;obtain⟨i,hi⟩:=qC hx;exact(hl i x hi).1
theorem op_at(n:Nat)(cs:List Value)(x:DataW H×List MemPlace)(h:DataW.trod enc Tryz.prog W base sp held n 63 cs=some x):
 cs.length=Elt.op.size/\∃e:Elt.op.T,True/\∀(j:Nat)u,(Elt.op.cells e)[j]? =some u->∃v,cs[j]? =some v/\Leaf (V0 W) u v:=by
 obtain⟨ys,m',rfl,_,hlen,hyl,hf⟩:=DataW.trod_struct Tryz.underlying63 h;rw[c72]at hlen
 match cs,hlen,ys,hyl with
 | [v0,v1,v2,v3,v4,v5],_,[y0,y1,y2,y3,y4],_=>
   have h0:=hf 0 _ rfl;have h1:=hf 1 _ rfl;have h2:=hf 2 _ rfl;have h3:=hf 3 _ rfl;have h4:=hf 4 _ rfl;simp[c3,c23]at h0 h1 h2 h3 h4;obtain⟨k,e0,_,_⟩:=DataW.trod_int Tryz.underlying3 h0;obtain⟨a,e1,_,_⟩:=DataW.trod_int Tryz.underlying3 h1;obtain⟨b,e2,_,_⟩:=DataW.trod_int Tryz.underlying3 h2;obtain⟨p,e3,_,_⟩:=DataW.trod_int Tryz.underlying3 h3;obtain⟨zs,m1,_,_,_,hzl,hg⟩:=DataW.trod_struct Tryz.underlying61 h4
   match zs,hzl with
   | [z0,z1],_=>
     have g0:=hg 0 _ rfl;have g1:=hg 1 _ rfl;simp[c3]at g0 g1;obtain⟨c,e10,_,_⟩:=DataW.trod_int Tryz.underlying3 g0;obtain⟨d,e11,_,_⟩:=DataW.trod_int Tryz.underlying3 g1;simp only[List.cons.injEq,and_true]at e0 e1 e2 e3 e10 e11;subst e0;subst e1;subst e2;subst e3;subst e10;subst e11;refine⟨rfl,⟨k,a,b,p,⟨c,d⟩⟩,trivial,fun j u hu=>?_⟩
     match j,hu with
     |0,hu=>obtain rfl: .int .i64 k=u:=by simpa[Elt.cells]using hu
            exact⟨_,rfl,.int _ _⟩
     |1,hu=>obtain rfl: .int .i64 a=u:=by simpa[Elt.cells]using hu
            exact⟨_,rfl,.int _ _⟩
     |2,hu=>obtain rfl: .int .i64 b=u:=by simpa[Elt.cells]using hu
            exact⟨_,rfl,.int _ _⟩
     |3,hu=>obtain rfl: .int .i64 p=u:=by simpa[Elt.cells]using hu
            exact⟨_,rfl,.int _ _⟩
     |4,hu=>obtain rfl: .int .i64 c=u:=by simpa[Elt.cells]using hu
            exact⟨_,rfl,.int _ _⟩
     |5,hu=>obtain rfl: .int .i64 d=u:=by simpa[Elt.cells]using hu
            exact⟨_,rfl,.int _ _⟩
     |j+6,hu=>simp[Elt.cells]at hu
theorem qew(n:Nat)(cs:List Value)(x:DataW H×List MemPlace)(h:DataW.trod enc Tryz.prog W base sp held n 3 cs=some x):
 cs.length=Elt.int.size/\∃e:Elt.int.T,True/\∀(j:Nat)u,(Elt.int.cells e)[j]? =some u->∃v,cs[j]? =some v/\Leaf (V0 W) u v:=by
 obtain⟨k,rfl,_,_⟩:=DataW.trod_int Tryz.underlying3 h;refine⟨rfl,k,trivial,fun j u hu=>?_⟩
 match j,hu with
 |0,hu=>obtain rfl: .int .i64 k=u:=by simpa[Elt.cells]using hu
        exact⟨_,rfl,.int _ _⟩
 |j+1,hu=>simp[Elt.cells]at hu
theorem zs2{r:Reach}{b0:Nat}{v:Value}{d:DataW H}{ps:List MemPlace}(hval:qF Tryz.prog W r b0 25 v)(hd:DataW.Trod enc Tryz.prog W base sp held 25 v d ps):
 ∃t:Tp,t.ops.length<9223372036854775808/\t.outs.length<9223372036854775808/\∀(pt:Nat->Option Nat)(ow:Nat->Option Value),R ⟨V0 W,pt,ow⟩ (.agg (tpC t)) v:=by
 unfold qF at hval;rw[Tryz.underlying25]at hval;obtain⟨cs,rfl,_,_⟩:=hval;obtain⟨n,hn⟩:=hd;have hm:maxLen=9223372036854775807:=OA;have hn:DataW.trod enc Tryz.prog W base sp held n 25 cs.toList=some (d,ps):=hn;obtain⟨ys,m',_,_,hlen,hyl,hf⟩:=DataW.trod_struct Tryz.underlying25 hn;rw[(Z:Tryz.prog.cellsOf 25=3)]at hlen;obtain⟨cs⟩:=cs;simp only at hlen hf
 match cs,hlen,ys,hyl with
 | [v0,v1,v2],_,[y0,y1,y2],_=>
   have h0:=hf 0 _ rfl;have h1:=hf 1 _ rfl;have h2:=hf 2 _ rfl;simp[c3,c61,c62]at h0 h1 h2;obtain⟨k,e0,_,_⟩:=DataW.trod_int Tryz.underlying3 h0;obtain⟨w1,e1,ops,_,hl1,hf1⟩:=zrd .op OA (P:=fun _=>True) Tryz.underlying22 c72 op_at h1;obtain⟨w2,e2,outs,_,hl2,hf2⟩:=zrd .int OA (P:=fun _=>True) Tryz.underlying23 c3 qew h2;simp only[List.cons.injEq,and_true]at e0 e1 e2;subst e0;subst e1;subst e2;refine⟨⟨k,ops,outs⟩,by show ops.length<_;omega,by show outs.length<_;omega,fun pt ow=>⟨_,rfl,rfl,zht hf1,zht hf2,trivial⟩⟩
end
section
variable {H:Type} {enc:TypeId×Value->H} {W:World} {base:Nat} {sp:Nat->Bool} {held:Bool}
end
theorem zzu{W:World}(h:laidMetH Tryz.prog Rows.gradientTapesRow.laid W):JT (fun _=>False) (zo W fun _=>False) W:=
 qdp (Lib.tabIs_of_head (rest:= []) gTab zw6 Tryz.underlying199 Tryz.underlying5 c5 cTab h)
theorem zuf(H:Type)(enc:TypeId×Value->H)(W:World)(base:Nat)(args:Array Value)(ds gs:List (DataW H))(before:List MemPlace)
 (hval:∀(j:Nat)t v,Tryz.f3.params[j]? =some t->args[j]? =some v->qF Tryz.prog W .any base t v)
 (hW:DataW.Whole enc Tryz.prog Tryz.f3.params.toList Rows.gradientTapesSpec.vars false W args.toList ds gs before) (hL:laidMetH Tryz.prog Rows.gradientTapesRow.laid W):
 Calls Tryz.prog 3 args W fun e W'=>∃v,e=.returned v/\Rows.gradientTapesSpec.post enc Tryz.prog Tryz.f3 false true false false W args v W':=by
 have hW':=hW;obtain⟨p,q,hA0,hV,_,_,_⟩:=hW;obtain⟨rfl,_⟩:=trodVars_none hV;have hA:DataW.TrodAll enc Tryz.prog W 0 (fun _=>true) true Tryz.f3.params.toList args.toList ds p:=hA0;rw[Tryz.params3]at hA hval;obtain⟨v0,vs0,d0,ds0,p0,q0,hargs,rfl,rfl,h0,r0⟩:=trodAll_cons hA;obtain⟨v1,vs1,d1,ds1,p1,q1,hargs1,rfl,rfl,h1,r1⟩:=trodAll_cons r0;obtain⟨v2,vs2,d2,ds2,p2,q2,hargs2,rfl,rfl,h2,r2⟩:=trodAll_cons r1;obtain⟨v3,vs3,d3,ds3,p3,q3,hargs3,rfl,rfl,h3,r3⟩:=trodAll_cons r2;obtain⟨hargs4,rfl,rfl⟩:=trodAll_nil r3;subst hargs1;subst hargs2;subst hargs3;subst hargs4;obtain rfl:args= #[v0,v1,v2,v3]:=by cases args;simp_all
 obtain⟨t,ht1,ht2,hRt⟩:=zs2 (hval 0 25 v0 rfl rfl) h0;obtain⟨xs,hx,hxl,hRx⟩:=zwf (hval 1 26 v1 rfl rfl) h1;obtain⟨m,rfl,_,_,_⟩:=open_int Tryz.underlying3 (hval 2 3 v2 rfl rfl) h2;obtain⟨p,rfl,_,_,_⟩:=open_int Tryz.underlying3 (hval 3 3 v3 rfl rfl) h3;refine(zsg (q3t t xs m p ht1 ht2 hx hxl) (zzu hL) (vs:= [v0,v1,.int .i64 m,.int .i64 p]) ⟨hRt _ _,hRx _ _,rfl,rfl,trivial⟩).mono ?_;rintro e' W' ⟨rfl,hq⟩;exact⟨_,rfl,zqh hW' hq rfl (by rw[Tryz.params3];decide+kernel) rfl rfl rfl rfl⟩
noncomputable def witI:Array Value:= #[.agg #[.int .i64 0,.slice none 0 0,.slice none 0 0],.slice none 0 0,.int .i64 0,.int .i64 0]
theorem zwv(os:Os):laidMet Tryz.prog Rows.gradientTapesRow.laid ((zgs os).forCall (fun _ _=>0) ⟨#[],witI,[]⟩).memory :=
 laidMet_of_run' 4 Z Z
theorem qd3(os:Os){H:Type}(enc:TypeId×Value->H):∃xs places,DataW.whole enc Tryz.prog ((zgs os).forCall (fun _ _=>0) ⟨#[],witI,[]⟩).memory Tryz.f3.params.toList Rows.gradientTapesSpec.vars false witI.toList 8=some (xs,[],places):=
 ⟨[.agg [.lit (.int .i64 0),.nil,.nil],.nil,.lit (.int .i64 0),.lit (.int .i64 0)],[],Z⟩
theorem zcx(os:Os)(started:os.Started)(H:Type)(enc:TypeId×Value->H)(F:Stop.Interp):
 ReturnsInHanded {} Tryz.checked os 3 .any ((OpenSpec.ofChange Rows.gradientTapesSpec).preRow enc Tryz.prog Tryz.f3 Rows.gradientTapesRow.domain false Rows.gradientTapesRow.laid) (((OpenSpec.ofChange Rows.gradientTapesSpec).at F).post enc Tryz.prog Tryz.f3 false true false false):=by
 obtain⟨xs,places,hx⟩:=qd3 os enc;refine returnsInHanded_of_row (C:=Tryz.checked) (s:=OpenSpec.ofChange Rows.gradientTapesSpec) ownY started Z Tryz.func3
  (witness_row_at (enc:=enc) (C:=Tryz.checked) false (zgs os) witI rfl Z Z Z
    (OpenSpec.preRow_of_cond 8 hx Z (fun k hk=>by cases hk) Z (zwv os))) ?_
 intro W base args ds gs before hval hW _ _ _ hL _ _;exact zuf H enc W base args ds gs before hval hW hL
theorem zef:Rows.GradientTapesSaid:=
 OpenClaim.holds_of_cond 3 Tryz.f3 rfl rfl rfl rfl rfl rfl rfl ⟨rfl,rfl,rfl,rfl,rfl⟩ rfl rfl rfl rfl rfl Z Tryz.func3 zxi
  (Z0 Z) (by unfold Func.isWrapper;first|(rw[Z6 OB];kernel_rfl)|(rw[Z7 OB];exact⟨rfl,rfl⟩))
  (fun os started H enc _ F=>by rw[OpenClaim.pre_eq_preRow];exact zcx os started H enc F)
theorem qec(f:FuncId)(fn:Func)(hf:Tryz.pinned.checked.prog.funcNamed "flowpipe/flowpipelaw20.GradientTapes" =some f)(hfn:Tryz.pinned.checked.prog.funcs[f]? =some fn):
 false=Tryz.pinned.checked.prog.looks []/\∀(j:Nat)t,fn.params[j]? =some t->Tryz.pinned.checked.prog.wantsStandIn t=false:=by
 obtain rfl:f=3:=Option.some.inj ((show Tryz.prog.funcNamed "flowpipe/flowpipelaw20.GradientTapes" =some 3 by kernel_rfl).symm.trans hf) |>.symm
 obtain rfl:fn=Tryz.f3:=(Option.some.inj (Tryz.func3.symm.trans hfn)).symm;refine⟨Z,fun j t ht=>?_⟩;rw[Tryz.params3]at ht;have hm:=Array.mem_of_getElem? ht;obtain rfl|rfl|rfl:t=25\/t=26\/t=3:=by simp at hm;omega
 .exact(Z:Tryz.prog.wantsStandIn 25=false)
 .exact(Z:Tryz.prog.wantsStandIn 26=false)
 .exact(Z:Tryz.prog.wantsStandIn 3=false)
theorem hgE:false=Rows.gradientTapesRow.goesBy Tryz.pinned.checked.prog:=Z
theorem hwE:Rows.gradientTapesRow.wfByText (OpenSpec.ofChange Rows.gradientTapesSpec)=true:=Z
theorem hmE:Tryz.pinned.checked.prog.mainIs=some (Rows.gradientTapesCard.stood.harness.1,Rows.gradientTapesCard.stood.harness.2.toList):=Z
theorem gradientTapes_holds:Rows.GradientTapesCardSaid:=
 Claim7.holds_tied_plain_at .later [] _ _ _ _ zef (fun _ h=>by cases h) hwE (fun _ h=>by cases h) gradientTapes_row_tie rfl ⟨rfl,rfl⟩ hmE rfl qec hgE
