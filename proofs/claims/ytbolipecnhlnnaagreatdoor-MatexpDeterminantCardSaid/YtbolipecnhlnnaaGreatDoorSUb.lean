/- Names: the classes of bytes, words, keywords. -/
import Derived.Test.YtbolipecnhlnnaaGreatDoorSUa
import Derived.Laws.Externs
import Derived.Tactics
set_option linter.unusedVariables false
set_option linter.unusedSimpArgs false
namespace Go.Proofs.YtbolipecnhlnnaaGreatDoor
open Go Go.Sx
set_option maxRecDepth 100000
set_option maxHeartbeats 1000000
theorem cbI {Pc K:List Blk->AV->Prop} (bs:List Blk) (b:Bool) (hc:Pc bs (.bool b)) (h1:b=true->K bs (.bool true)) (h2:b=false->K bs (.bool false)): ∃bs' r,Pc bs' r/\K bs' r:=by
 cases b
 .exact⟨bs,_,hc,h2 rfl⟩
 .exact⟨bs,_,hc,h1 rfl⟩
set_option maxHeartbeats 4000000
set_option maxHeartbeats 8000000
theorem zt {α:Type} {l:List α} {i:Nat} {x:α} (h:l[i]? =some x):l.drop i=x::l.drop (i+1):=by
 obtain⟨hi,hx⟩:=List.getElem?_eq_some_iff.1 h;rw[<-hx];exact List.drop_eq_getElem_cons hi
def ixP {α:Type} (p:α->Bool):List α->Nat->Int
 | [],_=> -1
 |x::l,i=>if p x then i else ixP p l (i+1)
theorem zbx {α:Type} (p:α->Bool): ∀(l:List α) (i:Nat),0<=ixP p l i<->l.any p=true
 | [],i=>by simp[ixP]
 |x::l,i=>by
  have ih:=zbx p l (i+1);by_cases h:p x=true
  .simp[ixP,h]
  .simp only[ixP,Z5 h,ih,List.any_cons];simp[h]
