/- Trees in memory: what the reading of an argument gives the engine, and what a call that leaves the old memory alone gives a statement. -/
import Derived.Test.YthbgbmdmimejiaaGreatDoorMUa
import Derived.ReadAgain
import Derived.ChangeStays
import Derived.ProofKit
import Derived.OpenShut
import Derived.ChangeMaps5
import Derived.Test.YthbgbmdmimejiaaGreatDoorRows
import Derived.ChangeSame
import Derived.JoinedOf
import Derived.JoinedAt
import Derived.RowKit2
import Derived.RowKit3
set_option linter.all false
open List renaming getElem?_eq_getElem->q3,mem_append_left->q6
open Option renaming getD_some->q4,bind_eq_some_iff->q5
open Go.Value renaming okWide->q8,cells->qA
open Go.World renaming cells?_some->q7,cell?->q9
namespace Go.Proofs.YthbgbmdmimejiaaGreatDoor
open Go Go.Sx Go.ChangeShapes Go.WideShapes Go.ChangeAt Go.WideMaps Go.WideElems Go.RowKit Go.ChangeMaps
theorem c3:Tryz.prog.cellsOf 3=1:=Z
theorem c9:Tryz.prog.cellsOf 9=1:=Z
theorem c23:Tryz.prog.cellsOf 23=2:=Z
theorem c24:Tryz.prog.cellsOf 24=1:=Z
theorem c26:Tryz.prog.cellsOf 26=6:=Z
abbrev V0(W:World):yj:=zu W (fun _=>False)
theorem zbx{α:Type}{P:Nat->α->Prop}:∀(n:Nat),(∀i,i<n->∃x,P i x)->∃l:List α,l.length=n/\∀(i:Nat)x,l[i]? =some x->P i x
 |0,_=>⟨[],rfl,OC⟩
 |n+1,h=>by
  obtain⟨l,h1,h2⟩:=zbx n fun i hi=>h i O
  obtain⟨x,hx⟩:=h n O;refine⟨l++ [x],by simp[h1],fun i y hy=>?_⟩;by_cases hi:i<n
  .rw[List.getElem?_append_left O]at hy;exact h2 i y hy
  .rw[List.getElem?_append_right O]at hy;have hi2:i=n:=by
    have:=(List.getElem?_eq_some_iff.1 hy).1;simp at this;omega
   subst hi2;rw[h1,Nat.sub_self]at hy;simp at hy;rw[<-hy];exact hx
theorem zd7{W:World}{a:Addr}{v:Value}(h:W.cell? a=some v):a.spot=none/\zgw (V0 W) a.block a.off v:=by
 unfold q9 at h;split at h
 .rename_i cs T fr hb;split at h
  .cases h
  .rename_i hs;refine⟨by simpa using hs,cs,T,fr,⟨id,hb⟩,h⟩
 .cases h
theorem zdj(b o n:Nat):(⟨b,o,none⟩:Addr).add n=⟨b,o+n,none⟩:=by
 unfold Addr.add;split
 .rename_i h;subst h;rfl
 .rfl
theorem zi2{ρ:Env}{u:AV}{v:Value}(h:Leaf ρ.V u v):R ρ u v:=by
 cases h with
 |bool b=>rfl
 |int k n=>rfl
 |str s=>rfl
 |sl k xs ao n cap b o hn hc hm ha h=>exact .sl k xs ao n cap b o hn hc hm ha h
theorem qma{l:List Ex}(h:∀(i:Nat)x,l[i]? =some x->Sm x):SmL l:=by
 induction l with
 |nil=>exact trivial
 |cons y l ih=>exact⟨h 0 y rfl,ih fun i x hx=>h (i+1) x (by simpa using hx)⟩
set_option maxRecDepth 100000
section
variable {H:Type} {enc:TypeId×Value->H} {W:World} {base:Nat} {sp:Nat->Bool} {held:Bool}
def ExAt(W:World)(cs:List Value)(e:Ex):Prop:=Sm e/\∀(j:Nat)u,(exC e)[j]? =some u->∃v,cs[j]? =some v/\Leaf (V0 W) u v
theorem qfc(n:Nat):∀m,m<=n->∀(cs:List Value)(x:DataW H×List MemPlace),DataW.trod enc Tryz.prog W base sp held m 26 cs=some x->cs.length=6/\∃e:Ex,ExAt W cs e:=by
 induction n with
 |zero=>
  intro m hm cs x h;obtain rfl:m=0:=O;simp[DataW.trod]at h
 |succ n ih=>
  intro m hm cs x h;obtain⟨ys,m',rfl,_,hlen,hyl,hf⟩:=DataW.trod_struct Tryz.underlying26 h;rw[c26]at hlen
  match cs,hlen,ys,hyl with
  | [v0,v1,v2,v3,v4,v5],_,[y0,y1,y2,y3,y4],_=>
    have h0:=hf 0 _ rfl;have h1:=hf 1 _ rfl;have h2:=hf 2 _ rfl;have h3:=hf 3 _ rfl;have h4:=hf 4 _ rfl;simp[c3,c9,c23,c24]at h0 h1 h2 h3 h4;obtain⟨k,e0,_,_⟩:=DataW.trod_int Tryz.underlying3 h0;obtain⟨zs,m1,_,_,_,hzl,hg⟩:=DataW.trod_struct Tryz.underlying23 h1;obtain⟨s,e2,_,hs⟩:=DataW.trod_string Tryz.underlying9 h2;obtain⟨p,e3,_,_⟩:=DataW.trod_int Tryz.underlying3 h3
    match zs,hzl with
    | [z0,z1],_=>
      have g0:=hg 0 _ rfl;have g1:=hg 1 _ rfl;simp[c3]at g0 g1;obtain⟨qn,e10,_,_⟩:=DataW.trod_int Tryz.underlying3 g0;obtain⟨qd,e11,_,_⟩:=DataW.trod_int Tryz.underlying3 g1;simp only[List.cons.injEq,and_true]at e0 e2 e3 e10 e11;subst e0;subst e2;subst e3;subst e10;subst e11;have key:∃l:List Ex,SmL l/\l.length<=maxLen/\Leaf (V0 W) (.sl .ex l) v5:=by
       rcases DataW.trod_slice Tryz.underlying24 h4 with ⟨e5,_⟩|⟨a,len,cap,elems,rest,m3,rfl,e5,_,_,hlc,hcm,hel,hat,_⟩
       .simp only[List.cons.injEq,and_true]at e5;subst e5;exact⟨[],trivial,OC,.sl .ex [] none 0 0 0 0 rfl (Nat.le_refl _) OA (fun h=>absurd rfl h) OC⟩
       .simp only[List.cons.injEq,and_true]at e5;subst e5;by_cases hlen0:len=0
        .subst hlen0;exact⟨[],trivial,OC,.sl .ex [] (some a) 0 cap 0 0 rfl (Nat.zero_le _) hcm (fun h=>absurd rfl h) OC⟩
        .have hcs:∀i,i<len->∃ci,W.cells? base (a.add (i*6)) 6=some ci/\ci.length=6/\∃e:Ex,ExAt W ci e:=by
          intro i hi;have h5:=hat i hi;rw[c26,q3 O,q5]at h5;obtain⟨ci,hci,hti⟩:=h5;exact⟨ci,hci,ih m3 O ci _ hti⟩
         have hspot:a.spot=none:=by
          obtain⟨ci,hci,hcl,_⟩:=hcs 0 O;obtain⟨_,_,hcell⟩:=q7 hci;have h6:=hcell 0 O;rw[q3 O]at h6;exact(zd7 (a:=a) (by simpa[Addr.add]using h6)).1
         obtain⟨b,o,spt⟩:=a;obtain rfl:spt=none:=hspot;have each:∀i,i<len->∃e:Ex,Sm e/\At (V0 W) .ex e b (o+i*6):=by
          intro i hi;obtain⟨ci,hci,hcl,e,hsm,hex⟩:=hcs i hi;obtain⟨_,_,hcell⟩:=q7 hci;have hv:∀j,j<6->∃v,ci[j]? =some v/\zgw (V0 W) b (o+i*6+j) v:=by
           intro j hj;have h6:=hcell j hj;rw[q3 O,zdj,zdj]at h6;exact⟨_,q3 O,(zd7 h6).2⟩
          refine⟨e,hsm,.mk .ex e b _ (fun j=>(ci[j]?).getD (.bool false)) ?_ ?_⟩
          .intro j hj;obtain⟨v,q1,q2⟩:=hv j hj;simp only[q1,q4];exact q2
          .intro j u hu;obtain⟨v,q1,q2⟩:=hex j u hu;simp only[q1,q4];exact q2
         obtain⟨l,hll,hl⟩:=zbx len each;exact⟨l,qma fun i x hx=>(hl i x hx).1,O,.sl .ex l (some ⟨b,o,none⟩) len cap b o hll.symm hlc hcm (fun _=>rfl) fun i x hx=>(hl i x hx).2⟩
      obtain⟨l,hl1,hl2,hl3⟩:=key;refine⟨rfl,.mk k ⟨qn,qd⟩ s.data.toList p l,?_,?_⟩
      .have e1:s.data.toList.length=s.size:=Array.length_toList;have hm:maxLen=9223372036854775807:=OA;simp only[Sm];exact⟨O,O,hl1⟩
      .intro j u hu;have e1:s=⟨s.data.toList.toArray⟩:=OC
       match j,hu with
       |0,hu=>obtain rfl: .int .i64 k=u:=by simpa[exC,Ex.k]using hu
              exact⟨_,rfl,.int _ _⟩
       |1,hu=>obtain rfl: .int .i64 qn=u:=by simpa[exC,Ex.q]using hu
              exact⟨_,rfl,.int _ _⟩
       |2,hu=>obtain rfl: .int .i64 qd=u:=by simpa[exC,Ex.q]using hu
              exact⟨_,rfl,.int _ _⟩
       |3,hu=>obtain rfl: .str s.data.toList=u:=by simpa[exC,Ex.s]using hu
              refine⟨_,rfl,?_⟩;have h7:Leaf (V0 W) (.str s.data.toList) (.string ⟨s.data.toList.toArray⟩):=.str s.data.toList
              rwa [<-e1]at h7
       |4,hu=>obtain rfl: .int .i64 p=u:=by simpa[exC,Ex.p]using hu
              exact⟨_,rfl,.int _ _⟩
       |5,hu=>obtain rfl: .sl .ex l=u:=by simpa[exC,Ex.l]using hu
              exact⟨_,rfl,hl3⟩
       |j+6,hu=>simp[exC]at hu
theorem qmb{ρ:Env}:∀(us:List AV)(vs:List Value),us.length=vs.length->(∀(j:Nat)u,us[j]? =some u->∃v,vs[j]? =some v/\Leaf ρ.V u v)->Rs ρ us vs
 | [],[],_,_=>trivial
 | [],_::_,h,_=>by simp at h
 | _::_,[],h,_=>by simp at h
 |u::us,v::vs,h,hj=>by
  refine⟨?_,qmb us vs (by simpa using h) fun j w hw=>by simpa using hj (j+1) w (by simpa using hw)⟩;obtain⟨v',h1,h2⟩:=hj 0 u rfl;obtain rfl:v=v':=by simpa using h1
  exact zi2 h2
theorem zv1{r:Reach}{b0:Nat}{v:Value}{d:DataW H}{ps:List MemPlace}(hval:q8 Tryz.prog W r b0 26 v)(hd:DataW.Trod enc Tryz.prog W base sp held 26 v d ps):
 ∃e:Ex,Sm e/\∀(pt:Nat->Option Nat)(ow:Nat->Option Value),R ⟨V0 W,pt,ow⟩ (.agg (exC e)) v:=by
 unfold q8 at hval;rw[Tryz.underlying26]at hval;obtain⟨cs,rfl,_,_⟩:=hval;obtain⟨n,hn⟩:=hd;obtain⟨hlen,e,hsm,he⟩:=qfc n n (Nat.le_refl _) _ _ hn;refine⟨e,hsm,fun pt ow=>⟨cs,rfl,qmb _ _ ?_ he⟩⟩;rw[show cs.toList.length=6 from hlen];rfl
end
def zyr(W W':World):Prop:=W'.os=W.os/\W'.output=W.output/\W.heap.size<=W'.heap.size/\∀b,b<W.heap.size->W'.heap[b]? =W.heap[b]?
end Go.Proofs.YthbgbmdmimejiaaGreatDoor

namespace Go.Proofs.YthbgbmdmimejiaaGreatDoor
open Go Go.Sx Go.ChangeShapes Go.WideShapes Go.ChangeAt Go.WideMaps Go.WideElems Go.RowKit
theorem kids:Kids Tryz.prog (· <Tryz.prog.types.size):=kids_rows Z Z
theorem full:∀t e,t<Tryz.prog.types.size->Tryz.prog.underlying t=some (.slice e)->0<Tryz.prog.cellsOf e:=slices_full_of Tryz.prog Z
section
variable {H:Type} {enc:TypeId×Value->H} {W W':World}
theorem zsw(hq:zyr W W'){p:MemPlace}(hp:p.block<W.heap.size):W.sameAt W' p:=by
 cases p with
 |cell b off=>
  have:=hq.2.2.2 b hp;show W'.cell? ⟨b,off,none⟩=W.cell? ⟨b,off,none⟩;unfold q9;rw[this]
 |map b=>exact hq.2.2.2 b hp
theorem stays(hq:zyr W W'){sp:Nat->Bool}(hsp:∀b,b<W.heap.size->sp b=true):∀ {ts:List TypeId}{vs:List Value}{ds:List (DataW H)}{ps:List MemPlace},(∀t∈ts,t<Tryz.prog.types.size)->
 DataW.TrodAll enc Tryz.prog W 0 (fun _=>true) true ts vs ds ps->(∀p∈ps,p.block<W.heap.size)->DataW.TrodAll enc Tryz.prog W' 0 sp true ts vs ds ps
 | [],[],[],_,_,h,_=>h
 | _::_,_::_,_::_,_,hT,⟨p,q,⟨n,h1⟩,h2,e⟩,hs=>
   ⟨p,q,⟨n,DataW.trod_stays kids (fun {t e}ht hu=>full t e ht hu) OC (hT _ OC) h1 (fun x hx=>zsw hq (hs x (by rw[e];exact q6 _ hx))) (fun x hx=>hsp _ (hs x (by rw[e];exact q6 _ hx)))⟩,
     stays hq hsp (fun t ht=>hT t (by simp[ht])) h2 (fun x hx=>hs x (by rw[e];exact List.mem_append_right _ hx)),e⟩
theorem zsx(hq:zyr W W')(may:MemPlace->Prop):W.keptBut W' may:=by
 refine⟨hq.1,hq.2.1,fun i hi=>?_⟩;have:=hq.2.2.2 i hi;rw[this]
 cases W.heap[i]? with
 |none=>rfl
 |some o=>cases o<;>simp
theorem zsz{f:Func}{s:ChangeSpec}{args:Array Value}{ds:List (DataW H)}{before:List MemPlace}
 (hW:DataW.Whole enc Tryz.prog f.params.toList s.vars false W args.toList ds [] before) (hq:zyr W W') (hv:s.vars= []) (hT:∀t∈f.params.toList,t<Tryz.prog.types.size)
 (hr:f.resultTypes= #[4]) (h1:(s.fn H (ds++ [])).results = [.lit (.bool true)]) (h2:(s.fn H (ds++ [])).args =ds) (h3:(s.fn H (ds++ [])).vars = []):
 s.post enc Tryz.prog f false true false false W args (.bool true) W':=by
 have hW':=hW;obtain⟨p,q,hA,hV,hps,_,_⟩:=hW;have hold:∀p∈before,p.block<W.heap.size:=fun p hp=>hW'.lt p hp
 rw[hv]at hV;obtain⟨_,rfl⟩:=trodVars_none hV;refine⟨ds,[],before,[],p,[],hW',?_,?_,?_,World.keptBut_mono (fun p hp=>⟨hp,?_⟩) (zsx hq (· ∈before)),fun h=>(by cases h)⟩
 .rw[hr,h1];exact trodAll_mk1 (shut_bool Tryz.underlying4 _)
 .rw[h2];exact stays hq (fun b hb=>by simpa using hb) hT hA (fun x hx=>hold x (by rw[hps];simp[hx]))
 .rw[h3,hv];rfl
 .rw[hps]at hp;exact .inr (by simpa using hp)
end
set_option maxRecDepth 100000
section
variable {H:Type} {enc:TypeId×Value->H} {W:World} {base:Nat} {sp:Nat->Bool} {held:Bool}
theorem zs1(k:Elt)(hk:0<k.size){P:k.T->Prop}{t te:TypeId}(ht:Tryz.prog.underlying t=some (.slice te))(hc:Tryz.prog.cellsOf te=k.size)
 (hel:∀n cs x,DataW.trod enc Tryz.prog W base sp held n te cs=some x->cs.length=k.size/\∃e:k.T,P e/\∀(j:Nat)u,(k.cells e)[j]? =some u->∃v,cs[j]? =some v/\Leaf (V0 W) u v)
 {r:Reach} {b0:Nat} {v:Value} {d:DataW H} {ps:List MemPlace} (hval:q8 Tryz.prog W r b0 t v) (hd:DataW.Trod enc Tryz.prog W base sp held t v d ps):
 ∃l:List k.T,(∀x∈l,P x)/\l.length<9223372036854775808/\∀(pt:Nat->Option Nat)(ow:Nat->Option Value),R ⟨V0 W,pt,ow⟩ (.sl k l) v:=by
 obtain⟨a0,len0,cap0,rfl⟩:=okWide_slice ht hval;obtain⟨n,hn⟩:=hd;have hm:maxLen=9223372036854775807:=OA;have key:∃l:List k.T,(∀x∈l,P x)/\l.length<=maxLen/\Leaf (V0 W) (.sl k l) (.slice a0 len0 cap0):=by
  rcases DataW.trod_slice ht hn with ⟨e5,_⟩|⟨a,len,cap,elems,rest,m3,rfl,e5,_,_,hlc,hcm,hel2,hat,_⟩
  .simp[qA]at e5;obtain⟨rfl,rfl,rfl⟩:=e5;exact⟨[],OC,OC,.sl k [] none 0 0 0 0 rfl (Nat.le_refl _) OA (fun h=>absurd rfl h) OC⟩
  .simp[qA]at e5;obtain⟨rfl,rfl,rfl⟩:=e5;by_cases hlen0:len0=0
   .subst hlen0;exact⟨[],OC,OC,.sl k [] (some a) 0 cap0 0 0 rfl (Nat.zero_le _) hcm (fun h=>absurd rfl h) OC⟩
   .have hcs:∀i,i<len0->∃ci,W.cells? base (a.add (i*k.size)) k.size=some ci/\ci.length=k.size/\∃e:k.T,P e/\∀(j:Nat)u,(k.cells e)[j]? =some u->∃v,ci[j]? =some v/\Leaf (V0 W) u v:=by
     intro i hi;have h5:=hat i hi;rw[hc,q3 O,q5]at h5;obtain⟨ci,hci,hti⟩:=h5;exact⟨ci,hci,hel m3 ci _ hti⟩
    have hspot:a.spot=none:=by
     obtain⟨ci,hci,hcl,_⟩:=hcs 0 O;obtain⟨_,_,hcell⟩:=q7 hci;have h6:=hcell 0 O;rw[q3 O]at h6;exact(zd7 (a:=a) (by simpa[Addr.add]using h6)).1
    obtain⟨b,o,spt⟩:=a;obtain rfl:spt=none:=hspot;have each:∀i,i<len0->∃e:k.T,P e/\At (V0 W) k e b (o+i*k.size):=by
     intro i hi;obtain⟨ci,hci,hcl,e,hsm,hex⟩:=hcs i hi;obtain⟨_,_,hcell⟩:=q7 hci;have hv:∀j,j<k.size->∃v,ci[j]? =some v/\zgw (V0 W) b (o+i*k.size+j) v:=by
      intro j hj;have h6:=hcell j hj;rw[q3 O,zdj,zdj]at h6;exact⟨_,q3 O,(zd7 h6).2⟩
     refine⟨e,hsm,.mk k e b _ (fun j=>(ci[j]?).getD (.bool false)) ?_ ?_⟩
     .intro j hj;obtain⟨v,q1,q2⟩:=hv j hj;simp only[q1,q4];exact q2
     .intro j u hu;obtain⟨v,q1,q2⟩:=hex j u hu;simp only[q1,q4];exact q2
    obtain⟨l,hll,hl⟩:=zbx len0 each;refine⟨l,fun x hx=>?_,O,.sl k l (some ⟨b,o,none⟩) len0 cap0 b o hll.symm hlc hcm (fun _=>rfl) fun i x hx=>(hl i x hx).2⟩;obtain⟨i,hi⟩:=List.getElem?_of_mem hx;exact(hl i x hi).1
 obtain⟨l,h1,h2,h3⟩:=key;exact⟨l,h1,O,fun pt ow=>zi2 h3⟩
theorem zs2{r:Reach}{b0:Nat}{v:Value}{d:DataW H}{ps:List MemPlace}(hval:q8 Tryz.prog W r b0 27 v)(hd:DataW.Trod enc Tryz.prog W base sp held 27 v d ps):
 ∃l:List zn,(∀x∈l,x.length<9223372036854775808)/\l.length<9223372036854775808/\∀(pt:Nat->Option Nat)(ow:Nat->Option Value),R ⟨V0 W,pt,ow⟩ (.sl .str l) v:=by
 refine zs1 .str OA (P:=fun x:zn=>x.length<9223372036854775808) Tryz.underlying27 c9 (fun n cs x h=>?_) hval hd;obtain⟨s,rfl,_,hs⟩:=DataW.trod_string Tryz.underlying9 h;have e1:s.data.toList.length=s.size:=Array.length_toList;have hm:maxLen=9223372036854775807:=OA;refine⟨rfl,s.data.toList,by show s.data.toList.length<_;omega,fun j u hu=>?_⟩
 match j,hu with
 |0,hu=>obtain rfl: .str s.data.toList=u:=by simpa[Elt.cells]using hu
        refine⟨_,rfl,?_⟩;have h7:Leaf (V0 W) (.str s.data.toList) (.string ⟨s.data.toList.toArray⟩):=.str s.data.toList;have e2:s=⟨s.data.toList.toArray⟩:=OC
        rwa [<-e2]at h7
 |j+1,hu=>simp[Elt.cells]at hu
end
section
variable {H:Type} {enc:TypeId×Value->H} {W:World} {base:Nat} {sp:Nat->Bool} {held:Bool}
end
