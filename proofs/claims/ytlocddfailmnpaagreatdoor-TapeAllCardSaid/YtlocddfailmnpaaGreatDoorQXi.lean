/-
  evaluate.Apply for all operations.
-/
import Derived.Test.YtlocddfailmnpaaGreatDoorQXe
import Derived.Test.YtlocddfailmnpaaGreatDoorQXg
import Derived.Test.YtlocddfailmnpaaGreatDoorQXa
import Derived.Test.YtlocddfailmnpaaGreatDoorQWx
import Derived.Test.YtlocddfailmnpaaGreatDoorQUb
set_option linter.unusedVariables false
set_option linter.unusedSimpArgs false
namespace Go.Proofs.YtlocddfailmnpaaGreatDoor
open Go Go.Sx
set_option maxRecDepth 100000
set_option maxHeartbeats 8000000
def fxA (k:Int) (x:Iv) (p:Int):Iv:=if k=9 then zxa x p else if k=10 then zw7 x p else if k=11 then ciI x false p else ciI x true p
def Kt (k:Int):Prop:=3≤k∧k≤13
theorem CI_fx (k:Int) {x:Iv} (hx:RI x) (p:Int):CI (fxA k x p):=by
 unfold fxA
 split
 ·exact qez _ _
 split
 ·exact qev _ _
 split
 ·exact qe1 hx _ _
 ·exact qe1 hx _ _
theorem x25 (k n:Int) (x y:Iv) (hx:RI x) (p:Int) (hk:k=9∨k=10∨k=11∨k=12):Fn 13 G0 [.int .i64 k,.int .i64 n,.agg (ivC x),.agg (ivC y),.int .i64 p] (.agg (ivC (fxA k x p))) G0:=by
 have a1:=x33 x hx p
 have a2:=x34 x hx p
 have a3:=c35 x hx p
 have a4:=c36 x hx p
 rcases hk with rfl|rfl|rfl|rfl
 ·show Fn 13 G0 _ (.agg (ivC (zxa x p))) G0
  generalize zxa x p=R at*
  refine fnT hT6 hmx Tryz.func13 rfl rfl (ex:= []) ?_;conv=>whnf
  refine gZc a1 ?_;conv=>whnf
  exact⟨lr rfl,leG⟩
 ·show Fn 13 G0 _ (.agg (ivC (zw7 x p))) G0
  generalize zw7 x p=R at*
  refine fnT hT6 hmx Tryz.func13 rfl rfl (ex:= []) ?_;conv=>whnf
  refine gZc a2 ?_;conv=>whnf
  exact⟨lr rfl,leG⟩
 ·show Fn 13 G0 _ (.agg (ivC (ciI x false p))) G0
  generalize ciI x false p=R at*
  refine fnT hT6 hmx Tryz.func13 rfl rfl (ex:= []) ?_;conv=>whnf
  refine gZc a3 ?_;conv=>whnf
  exact⟨lr rfl,leG⟩
 ·show Fn 13 G0 _ (.agg (ivC (ciI x true p))) G0
  generalize ciI x true p=R at*
  refine fnT hT6 hmx Tryz.func13 rfl rfl (ex:= []) ?_;conv=>whnf
  refine gZc a4 ?_;conv=>whnf
  exact⟨lr rfl,leG⟩
theorem qat (p:Int):ApK fxA Kt p:=fun k n x y hk hx hy=>by
 by_cases h:9≤k∧k≤12
 ·have e:apI fxA k n x y p=fxA k x p:=by
   unfold apI
   rw[if_neg (by omega),if_neg (by omega),if_neg (by omega),if_neg (by omega),if_neg (by omega),if_neg (by omega),if_neg (by omega),if_pos h]
  rw[e]
  exact⟨x25 k n x y hx p (by omega),CI_fx k hx p⟩
 ·have hk:Ka k:=by unfold Kt at hk;unfold Ka;omega
  exact⟨i52 hk n x y hx hy p,CI_ap hk n y p hx⟩
end Go.Proofs.YtlocddfailmnpaaGreatDoor

namespace Go.Proofs.YtlocddfailmnpaaGreatDoor
open Go Go.Sx
set_option maxHeartbeats 2000000
theorem qel: ∀ {e:Ex},VT e→VK Kt e
 | _,.num r h=> .num r h
 | _,.var s h=> .var s h
 | _,.un k a h1 h2=> .un k a (by unfold K1 at h1;unfold Kt;omega) h1 (qel h2)
 | _,.pow n a h1 h2 h3=> .pow n a (by unfold Kt;omega) h1 h2 (qel h3)
 | _,.bin k a b h1 h2 h3=> .bin k a b (by unfold K2 at h1;unfold Kt;omega) h1 (qel h2) (qel h3)
end Go.Proofs.YtlocddfailmnpaaGreatDoor

namespace Go.Proofs.YtlocddfailmnpaaGreatDoor
open Go Go.Sx
set_option maxRecDepth 100000
set_option maxHeartbeats 8000000
theorem x16 (e:Ex) (he:Sm e) (ns:List zg) (xs:List Iv) (hx: ∀x∈xs,RI x) (h1:ns.length<9223372036854775808) (h2:xs.length<9223372036854775808) (p:Int):
 Fn 11 G0 [.agg (exC e),.sl .str ns,.sl .iv xs,.int .i64 p] (.agg (ivC (zua fxA e ns xs p))) G0:=i8 (fun p _=>qat p) e he (fun h=>qel (zjn h)) ns xs hx h1 h2 p
end Go.Proofs.YtlocddfailmnpaaGreatDoor

namespace Go.Proofs.YtlocddfailmnpaaGreatDoor
open Go Go.Sx
set_option maxRecDepth 100000
set_option maxHeartbeats 8000000
theorem qbi {fx:Int→Iv→Int→Iv} {e:Ex} {ns:List zg} {xs:List Iv} {p:Int} (h1:enB ns xs=true) (h2:okT e=true) (h3:pcB p=true) (h4:(evE fx p (zdk ns xs []) e).2=true):zua fx e ns xs p=(evE fx p (zdk ns xs []) e).1:=by
 unfold zua;rw[if_pos ⟨⟨h1,h2,h3⟩,h4⟩]
theorem qbg {fx:Int→Iv→Int→Iv} {e:Ex} {ns:List zg} {xs:List Iv} {p:Int} (h: ¬pcB p=true):zua fx e ns xs p=wI0:=by
 unfold zua;rw[if_neg fun c=>h c.1.2.2]
end Go.Proofs.YtlocddfailmnpaaGreatDoor

namespace Go.Proofs.YtlocddfailmnpaaGreatDoor
open Go Go.Sx
set_option maxRecDepth 100000
set_option maxHeartbeats 8000000
end Go.Proofs.YtlocddfailmnpaaGreatDoor
