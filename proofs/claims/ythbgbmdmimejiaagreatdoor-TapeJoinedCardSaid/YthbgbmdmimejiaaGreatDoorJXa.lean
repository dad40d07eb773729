/- The natural extension contains exact values, and is isotone. -/
import Derived.Test.YthbgbmdmimejiaaGreatDoorJYl
import Derived.Test.YthbgbmdmimejiaaGreatDoorJYe
set_option linter.all false
namespace Go.Proofs.YthbgbmdmimejiaaGreatDoor
open Go Go.Sx
set_option maxHeartbeats 2000000
set_option maxRecDepth 100000
set_option maxHeartbeats 8000000
def T8:Tab:= {T6 with nb:=(84,1)::T6.nb,gl:=T6.gl}
theorem hT8:TabOK Tryz.prog T8:=ze7 Z Z
theorem fY8{f:Nat}{fn:Func}{c:Code}(a:Tryz.prog.funcs[f]?=some fn)(b:fn.body=some c){H H':Hp}{A:List AV}{r:AV}{X:Prop}(k:X)(d:(fn.name == "runtime.NumGoroutine")=false:=by first|rfl)(e:(fnC T8 [] c fn.ntmps H A H' fun Y=>kz T8 (CN Tryz.prog) c true Y (fun Y=>zdp T8 fn.results.toList [] r H' Y) (fun _ _=>False) (fun Y=>zdp T8 fn.results.toList [] r H' Y))=X:=by conv=>lhs;whnf):zcm Tryz.prog f H A r H':=fnT hT8 hmx a b d (e.mpr k)
theorem fZ8{f:Nat}{fn:Func}{c:Code}(a:Tryz.prog.funcs[f]?=some fn)(b:fn.body=some c)(d:(fn.name == "runtime.NumGoroutine")=false){H H':Hp}{A:List AV}{r:AV}(h:fnC T8 [] c fn.ntmps H A H' fun Y=>kz T8 (CN Tryz.prog) c true Y (fun Y=>zdp T8 fn.results.toList [] r H' Y) (fun _ _=>False) (fun Y=>zdp T8 fn.results.toList [] r H' Y)):zcm Tryz.prog f H A r H':=fnT hT8 hmx a b d h
theorem x13(l:List Iv)(hl:l.length<=1000000)(h0:l≠ []):Fn 84 [] [.sl .iv l] (.own 2000000) [(2000000,.buf 35 .iv l)]:=by
 refine fnT hT8 hmx Tryz.func84 rfl rfl (ex:= [7]) ?_;conv=>whnf
 refine⟨fun h=>absurd h h0,fun _=>?_⟩;conv=>whnf
 refine⟨OE,?_⟩;conv=>whnf
 exact⟨lr rfl,lh1 (bb0 OC) lh0⟩
