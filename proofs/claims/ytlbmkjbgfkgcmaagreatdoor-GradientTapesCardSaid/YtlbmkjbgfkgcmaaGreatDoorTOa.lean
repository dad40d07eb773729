/- Trees in memory: what the reading of an argument gives the engine, and what a call that leaves the old memory alone gives a statement. -/
import Derived.Test.YtlbmkjbgfkgcmaaGreatDoorTUa
import Derived.ReadAgain
import Derived.ChangeStays
import Derived.ProofKit
import Derived.OpenShut
import Derived.ChangeMaps5
import Derived.Test.YtlbmkjbgfkgcmaaGreatDoorRows
import Derived.ChangeSame
import Derived.JoinedOf
import Derived.JoinedAt
import Derived.RowKit2
import Derived.RowKit3
set_option linter.all false
namespace Go.Proofs.YtlbmkjbgfkgcmaaGreatDoor
open Go Go.Sx Go.ChangeShapes Go.WideShapes Go.ChangeAt Go.WideMaps Go.WideElems Go.RowKit Go.ChangeMaps
theorem c3:Tryz.prog.cellsOf 3=1:=Z
theorem c23:Tryz.prog.cellsOf 61=2:=Z
abbrev V0(W:World):kf:=zo W (fun _=>False)
theorem zdd{α:Type}{P:Nat->α->Prop}:∀(n:Nat),(∀i,i<n->∃x,P i x)->∃l:List α,l.length=n/\∀(i:Nat)x,l[i]? =some x->P i x
 |0,_=>⟨[],rfl,OC⟩
 |n+1,h=>by
  obtain⟨l,h1,h2⟩:=zdd n fun i hi=>h i O
  obtain⟨x,hx⟩:=h n O;refine⟨l++ [x],by simp[h1],fun i y hy=>?_⟩;by_cases hi:i<n
  .rw[List.getElem?_append_left O]at hy;exact h2 i y hy
  .rw[List.getElem?_append_right O]at hy;have hi2:i=n:=by
    have:=(List.getElem?_eq_some_iff.1 hy).1;simp at this;omega
   subst hi2;rw[h1,Nat.sub_self]at hy;simp at hy;rw[<-hy];exact hx
theorem zhn{W:World}{a:Addr}{v:Value}(h:W.cell? a=some v):a.spot=none/\zb5 (V0 W) a.block a.off v:=by
 unfold World.cell? at h;split at h
 .rename_i cs T fr hb;split at h
  .cases h
  .rename_i hs;refine⟨by simpa using hs,cs,T,fr,⟨id,hb⟩,h⟩
 .cases h
theorem zf8(b o n:Nat):(⟨b,o,none⟩:Addr).add n=⟨b,o+n,none⟩:=by
 unfold Addr.add;split
 .rename_i h;subst h;rfl
 .rfl
theorem zht{ρ:Env}{u:AV}{v:Value}(h:Leaf ρ.V u v):R ρ u v:=R.of_leaf h
set_option maxRecDepth 100000
section
variable {H:Type} {enc:TypeId×Value->H} {W:World} {base:Nat} {sp:Nat->Bool} {held:Bool}
end
def zu4(W W':World):Prop:=W'.os=W.os/\W'.output=W.output/\W.heap.size<=W'.heap.size/\∀b,b<W.heap.size->W'.heap[b]? =W.heap[b]?
end Go.Proofs.YtlbmkjbgfkgcmaaGreatDoor

namespace Go.Proofs.YtlbmkjbgfkgcmaaGreatDoor
open Go Go.Sx Go.ChangeShapes Go.WideShapes Go.ChangeAt Go.WideMaps Go.WideElems Go.RowKit
theorem kids:Kids Tryz.prog (· <Tryz.prog.types.size):=kids_rows Z Z
theorem full:∀t e,t<Tryz.prog.types.size->Tryz.prog.underlying t=some (.slice e)->0<Tryz.prog.cellsOf e:=slices_full_of Tryz.prog Z
section
variable {H:Type} {enc:TypeId×Value->H} {W W':World}
theorem zqf(hq:zu4 W W'){p:MemPlace}(hp:p.block<W.heap.size):W.sameAt W' p:=by
 cases p with
 |cell b off=>
  have:=hq.2.2.2 b hp;show W'.cell? ⟨b,off,none⟩=W.cell? ⟨b,off,none⟩;unfold World.cell?;rw[this]
 |map b=>exact hq.2.2.2 b hp
theorem stays(hq:zu4 W W'){sp:Nat->Bool}(hsp:∀b,b<W.heap.size->sp b=true):∀ {ts:List TypeId}{vs:List Value}{ds:List (DataW H)}{ps:List MemPlace},(∀t∈ts,t<Tryz.prog.types.size)->
 DataW.TrodAll enc Tryz.prog W 0 (fun _=>true) true ts vs ds ps->(∀p∈ps,p.block<W.heap.size)->DataW.TrodAll enc Tryz.prog W' 0 sp true ts vs ds ps
 | [],[],[],_,_,h,_=>h
 | _::_,_::_,_::_,_,hT,⟨p,q,⟨n,h1⟩,h2,e⟩,hs=>
   ⟨p,q,⟨n,DataW.trod_stays kids (fun {t e}ht hu=>full t e ht hu) OC (hT _ OC) h1 (fun x hx=>zqf hq (hs x (by rw[e];exact List.mem_append_left _ hx))) (fun x hx=>hsp _ (hs x (by rw[e];exact List.mem_append_left _ hx)))⟩,
     stays hq hsp (fun t ht=>hT t (by simp[ht])) h2 (fun x hx=>hs x (by rw[e];exact List.mem_append_right _ hx)),e⟩
theorem zqg(hq:zu4 W W')(may:MemPlace->Prop):W.keptBut W' may:=by
 refine⟨hq.1,hq.2.1,fun i hi=>?_⟩;have:=hq.2.2.2 i hi;rw[this]
 cases W.heap[i]? with
 |none=>rfl
 |some o=>cases o<;>simp
theorem zqh{f:Func}{s:ChangeSpec}{args:Array Value}{ds:List (DataW H)}{before:List MemPlace}
 (hW:DataW.Whole enc Tryz.prog f.params.toList s.vars false W args.toList ds [] before) (hq:zu4 W W') (hv:s.vars= []) (hT:∀t∈f.params.toList,t<Tryz.prog.types.size)
 (hr:f.resultTypes= #[4]) (h1:(s.fn H (ds++ [])).results = [.lit (.bool true)]) (h2:(s.fn H (ds++ [])).args =ds) (h3:(s.fn H (ds++ [])).vars = []):
 s.post enc Tryz.prog f false true false false W args (.bool true) W':=by
 have hW':=hW;obtain⟨p,q,hA,hV,hps,_,_⟩:=hW;have hold:∀p∈before,p.block<W.heap.size:=fun p hp=>hW'.lt p hp
 rw[hv]at hV;obtain⟨_,rfl⟩:=trodVars_none hV;refine⟨ds,[],before,[],p,[],hW',?_,?_,?_,World.keptBut_mono (fun p hp=>⟨hp,?_⟩) (zqg hq (· ∈before)),fun h=>(by cases h)⟩
 .rw[hr,h1];exact trodAll_mk1 (shut_bool Tryz.underlying4 _)
 .rw[h2];exact stays hq (fun b hb=>by simpa using hb) hT hA (fun x hx=>hold x (by rw[hps];simp[hx]))
 .rw[h3,hv];rfl
 .rw[hps]at hp;exact .inr (by simpa using hp)
end
set_option maxRecDepth 100000
section
variable {H:Type} {enc:TypeId×Value->H} {W:World} {base:Nat} {sp:Nat->Bool} {held:Bool}
end
section
variable {H:Type} {enc:TypeId×Value->H} {W:World} {base:Nat} {sp:Nat->Bool} {held:Bool}
end
