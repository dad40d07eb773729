/- The natural extension contains exact values, and is isotone. -/
import Derived.Test.YthbgbmdmimejiaaGreatDoorMYl
import Derived.Test.YthbgbmdmimejiaaGreatDoorMYe
set_option linter.all false
namespace Go.Proofs.YthbgbmdmimejiaaGreatDoor
open Go Go.Sx
set_option maxHeartbeats 2000000
theorem zir(r:Rt){p:Int}(hp:pcB p=true):VI (zxo r p)/\(rOk r=true->inI (rv r) (zxo r p)):=by
 unfold zxo;by_cases h:rOk r=true
 .rw[Z4 h];have hb:=zcm h;unfold rIn at hb;have vn:=jo r.n O;have vd:=jo r.d O;have hd:dv (wx r.d)≠0:=by
   rw[je];exact zbd O
  have R:=znz vn vd (qaa hd) (qe hp);have e:dv (wx r.n)/dv (wx r.d)=rv r:=by rw[je,je];rfl
  rw[e]at R;have hc:CI (ve (ut (wx r.n) (wx r.d) p.toNat false) (ut (wx r.n) (wx r.d) p.toNat true)):=uz (za4 _ _ _ _ (qe hp)) (za4 _ _ _ _ (qe hp));exact⟨zsu R R hc Rat.le_refl,fun _=>zzy R R Rat.le_refl Rat.le_refl⟩
 .rw[Z5 h];exact⟨.inr rfl,fun c=>absurd c h⟩
theorem qh2:VI zI:=.inl ⟨rfl,qg,qg,OA⟩
theorem zos(q:Rat):∀n,rpw q n=q^n
 |0=>by rw[Rat.pow_zero];rfl
 |n+1=>by rw[Rat.pow_succ,<-zos q n];rfl
set_option maxRecDepth 100000
set_option maxHeartbeats 8000000
def T8:Tab:= {T6 with nb:=(84,1)::T6.nb,gl:=T6.gl}
theorem hT8:TabOK Tryz.prog T8:=zmf Z Z
theorem fY8{f:Nat}{fn:Func}{c:Code}(a:Tryz.prog.funcs[f]?=some fn)(b:fn.body=some c){H H':Hp}{A:List AV}{r:AV}{X:Prop}(k:X)(d:(fn.name == "runtime.NumGoroutine")=false:=by first|rfl)(e:(fnC T8 [] c fn.ntmps H A H' fun Y=>zbn T8 (CN Tryz.prog) c true Y (fun Y=>zf0 T8 fn.results.toList [] r H' Y) (fun _ _=>False) (fun Y=>zf0 T8 fn.results.toList [] r H' Y))=X:=by conv=>lhs;whnf):zi3 Tryz.prog f H A r H':=fnT hT8 hmx a b d (e.mpr k)
theorem fZ8{f:Nat}{fn:Func}{c:Code}(a:Tryz.prog.funcs[f]?=some fn)(b:fn.body=some c)(d:(fn.name == "runtime.NumGoroutine")=false){H H':Hp}{A:List AV}{r:AV}(h:fnC T8 [] c fn.ntmps H A H' fun Y=>zbn T8 (CN Tryz.prog) c true Y (fun Y=>zf0 T8 fn.results.toList [] r H' Y) (fun _ _=>False) (fun Y=>zf0 T8 fn.results.toList [] r H' Y)):zi3 Tryz.prog f H A r H':=fnT hT8 hmx a b d h
