/-
  Names: the classes of bytes, words, keywords.
-/
import Derived.Test.YtbolipecnhlnnaaGreatDoorQUa
import Derived.Laws.Externs
import Derived.Tactics
import Derived.WalkKit
import Derived.Test.YtbolipecnhlnnaaGreatDoorQSxW
import Derived.Test.YtbolipecnhlnnaaGreatDoorQSxY
set_option linter.unusedVariables false
set_option linter.unusedSimpArgs false
namespace Go.Proofs.YtbolipecnhlnnaaGreatDoor
open Go Go.Sx
set_option maxRecDepth 100000
set_option maxHeartbeats 1000000
theorem zko.pure {P:Program} {f:Nat} {H:Hp} {A:List AV} {r:AV} (hE:Ent P f)
 (h: ∀(ρ:Env) (vs:List Value) (w:World),Rs ρ A vs->Calls P f vs.toArray w fun e w'=>(∃v,e= .returned v/\R ρ r v)/\w'=w):zko P f H A r H:=by
 refine⟨hE,fun w M pt ow S vs hcore hcont hargs=>?_⟩;refine(h _ vs w hargs).mono ?_;rintro e w' ⟨⟨v,rfl,hr⟩,rfl⟩;exact⟨v,M,pt,ow,S,rfl,hcore,hcont,hr,⟨rfl,rfl,rfl,Nat.le_refl _,fun _ _ _ _=>rfl,fun _ h=>h,fun _ h=> .inl h,fun _ h=> .inl h,fun _ _ h=> .inl h,fun _ _ h=> .inl h⟩⟩
theorem cbI {Pc K:List Blk->AV->Prop} (bs:List Blk) (b:Bool) (hc:Pc bs (.bool b)) (h1:b=true->K bs (.bool true)) (h2:b=false->K bs (.bool false)): ∃bs' r,Pc bs' r/\K bs' r:=by
 cases b
 ·exact⟨bs,_,hc,h2 rfl⟩
 ·exact⟨bs,_,hc,h1 rfl⟩
set_option maxHeartbeats 4000000
set_option maxHeartbeats 8000000
theorem zp {α:Type} {l:List α} {i:Nat} {x:α} (h:l[i]? =some x):l.drop i=x::l.drop (i+1):=by
 obtain⟨hi,hx⟩:=List.getElem?_eq_some_iff.1 h;rw[←hx];exact List.drop_eq_getElem_cons hi
def ixP {α:Type} (p:α->Bool):List α->Nat->Int
 | [],_=> -1
 |x::l,i=>if p x then i else ixP p l (i+1)
theorem zbq {α:Type} (p:α->Bool): ∀(l:List α) (i:Nat),0<=ixP p l i<->l.any p=true
 | [],i=>by simp[ixP]
 |x::l,i=>by
  have ih:=zbq p l (i+1);by_cases h:p x=true
  ·simp[ixP,h]
  ·simp only[ixP,if_neg h,ih,List.any_cons];simp[h]
end Go.Proofs.YtbolipecnhlnnaaGreatDoor
