/-
  The natural extension contains exact values, and is isotone.
-/
import Derived.Test.YtbolipecnhlnnaaGreatDoorRYl
import Derived.Test.YtbolipecnhlnnaaGreatDoorRYz
import Derived.Test.YtbolipecnhlnnaaGreatDoorRVa
import Derived.Test.YtbolipecnhlnnaaGreatDoorRYy
import Derived.Test.YtbolipecnhlnnaaGreatDoorRYe
set_option linter.unusedVariables false
set_option linter.unusedSimpArgs false
namespace Go.Proofs.YtbolipecnhlnnaaGreatDoor
open Go Go.Sx
set_option maxHeartbeats 2000000
inductive All2 {α β:Type} (R:α->β->Prop):List α->List β->Prop
 |nil:All2 R [] []
 |cons {a b l m}:R a b->All2 R l m->All2 R (a::l) (b::m)
theorem zuy (r:Rt) {p:Int} (hp:pcB p=true):VI (zuz r p)/\(rOk r=true->inI (rv r) (zuz r p)):=by
 unfold zuz;by_cases h:rOk r=true
 ·rw[if_pos h];have hb:=zcr h;unfold rIn at hb;have vn:=ju r.n (by omega);have vd:=ju r.d (by omega);have hd:dv (wx r.d)≠0:=by
   rw[jr];exact qe1 (by omega)
  have R:=zl9 vn vd (zw8 hd) (qr hp);have e:dv (wx r.n)/dv (wx r.d)=rv r:=by rw[jr,jr];rfl
  rw[e]at R;have hc:CI (wa (kq (wx r.n) (wx r.d) p.toNat false) (kq (wx r.n) (wx r.d) p.toNat true)):=kw (xy _ _ _ _ (qr hp)) (xy _ _ _ _ (qr hp));exact⟨zqr R R hc Rat.le_refl,fun _=>qa8 R R Rat.le_refl Rat.le_refl⟩
 ·rw[if_neg h];exact⟨.inr rfl,fun c=>absurd c h⟩
theorem qd0:VI zI:= .inl ⟨rfl,qf,qf,by decide⟩
set_option maxRecDepth 100000
set_option maxHeartbeats 8000000
def T8:Tab:= {T6 with nb:=(43,1)::T6.nb,gl:=T6.gl}
theorem hT8:TabOK Tryz.prog T8:=zko (by kernel_rfl) (by kernel_rfl)
theorem fZ8{f:Nat}{fn:Func}{c:Code}(a:Tryz.prog.funcs[f]?=some fn)(b:fn.body=some c)(d:(fn.name == "runtime.NumGoroutine")=false){H H':Hp}{A:List AV}{r:AV}(h:fnC T8 [] c fn.ntmps H A H' fun σ=>zae T8 (CN Tryz.prog) c true σ (fun σ=>zhy T8 fn.results.toList [] r H' σ) (fun _ _=>False) (fun σ=>zhy T8 fn.results.toList [] r H' σ)):zkj Tryz.prog f H A r H':=fnT hT8 hmx a b d h
def lgV (x:Iv):Bool:=decide (20<x.lo.m.length)||decide (20<x.hi.m.length)
theorem x49 (x:Iv):Fn 93 [] [.agg (ivC x)] (.bool (lgV x)) []:=by
 obtain⟨⟨x1,x2,x3⟩,⟨x4,x5,x6⟩,x7⟩:=x;obtain⟨A,hA⟩: ∃A,lgV ⟨⟨x1,x2,x3⟩,⟨x4,x5,x6⟩,x7⟩=A:=⟨_,rfl⟩;rw[hA];simp only[lgV]at hA;show Fn 93 [] [.agg [.bool x1,.sl .u32 x2,.int .i64 x3,.bool x4,.sl .u32 x5,.int .i64 x6,.bool x7]] _ [];refine fnT hT8 hmx Tryz.func93 rfl rfl (ex:= []) ?_;conv=>whnf
 refine brI (fun h1=>?_) (fun h1=>?_)
 ·have h1:=of_decide_eq_true h1;conv=>whnf
  exact⟨ab0 (by rw[←hA,decide_eq_true (show 20<x2.length by omega)];rfl),lh0⟩
 ·have h1:=of_decide_eq_false h1;rw[decide_eq_false (show ¬20<x2.length by omega)]at hA;conv=>whnf
  refine⟨ab0 ?_,lh0⟩;rw[←hA,Bool.false_or,Bool.eq_iff_iff,decide_eq_true_eq,decide_eq_true_eq];omega
theorem x104 (l:List Iv) (hlen:l.length<9223372036854775808):Fn 118 [] [.sl .iv l,.fn 93 []] (.int .i64 (ixP lgV l 0)) []:=by
 refine fnT hT8 hmx Tryz.func118 rfl rfl (ex:= []) ?_;conv=>whnf
 refine⟨Nat,fun i=>i<=l.length/\ixP lgV (l.drop i) i=ixP lgV l 0,fun i=> [(8,.int .i64 i)],fun _=> [],fun i=>l.length-i,0,⟨by simp,rfl⟩,?_,fun i hi=>?_⟩
 ·((conv=>whnf);refine And.intro ?_ ?_;repeat' first|refine lc ?_ ?_|exact la0|exact lr rfl|exact ln0|refine lh1 ?_ ?_|exact lh0|exact bf0|exact bd0|refine bc0 ?_|exact bm0 rfl|exact bg0 rfl|exact li0 rfl|refine lg0 ?_|refine lt0 ?_|fail)
 (refine⟨by kernel_rfl,?_⟩;(conv=>whnf))
 obtain⟨hi1,hi2⟩:=hi;refine brI (fun h1=>?_) (fun h1=>?_)
 ·conv=>whnf
  have hi:i<l.length:=by simp only[decide_eq_true_eq]at h1;omega
  refine⟨⟨by omega,by omega⟩,fun(x:Iv) hx=>?_⟩;have hx:l[i]? =some x:=by simpa using hx
  rw[wq hx]at hi2;simp only[ixP]at hi2;have h49:=x49 x;generalize lgV x=B at h49 hi2;conv=>whnf
  refine cbI [] B h49 (fun h2=>?_) (fun h2=>?_)
  ·conv=>whnf
   rw[if_pos h2]at hi2;exact⟨ai0 hi2,lh0⟩
  ·conv=>whnf
   rw[if_neg (by rw[h2];simp)]at hi2;refine⟨i+1,⟨by omega,hi2⟩,by show l.length-(i+1)<l.length-i;omega,?_⟩
   ((conv=>whnf);refine And.intro ?_ ?_;repeat' first|refine lc ?_ ?_|exact la0|exact lr rfl|exact ln0|refine lh1 ?_ ?_|exact lh0|exact bf0|exact bd0|refine bc0 ?_|exact bm0 rfl|exact bg0 rfl|exact li0 rfl|refine lg0 ?_|refine lt0 ?_|fail)
   exact ai0 (by rw[wI (by omega)];omega)
 ·conv=>whnf
  have hi: ¬i<l.length:=by simp only[decide_eq_false_iff_not]at h1;omega
  rw[List.drop_of_length_le (by omega)]at hi2;exact⟨ai0 hi2,lh0⟩
theorem x48 (l:List Iv) (hlen:l.length<9223372036854775808):Fn 50 [] [.sl .iv l,.fn 93 []] (.bool (l.any lgV)) []:=by
 refine fnT hT8 hmx Tryz.func50 rfl rfl (ex:= []) ?_;conv=>whnf
 refine gZn (x104 l hlen) ?_;conv=>whnf
 exact⟨ab0 (by rw[Bool.eq_iff_iff,decide_eq_true_eq];exact zj2 lgV l 0),lh0⟩
def grB (ns:List ze) (xs:List Iv) (p:Int):Bool:=
 if 20<ns.length then true else if 20<xs.length then true else if 64<p/\p<=512 then true else xs.any lgV
theorem qcb {ns:List ze} {xs:List Iv} {p:Int} (h:grB ns xs p=false):ns.length<=20/\xs.length<=20/\ ∀x∈xs,x.lo.m.length<=20/\x.hi.m.length<=20:=by
 unfold grB at h;split at h
 ·cases h
 split at h
 ·cases h
 split at h
 ·cases h
 refine⟨by omega,by omega,fun x hx=>?_⟩;have:=List.any_eq_false.1 h x hx;unfold lgV at this;simp only[Bool.or_eq_true,decide_eq_true_eq,not_or]at this;omega
theorem x10 (ns:List ze) (xs:List Iv) (p:Int) (h1:ns.length<9223372036854775808) (h2:xs.length<9223372036854775808):
 Fn 31 [] [.sl .str ns,.sl .iv xs,.int .i64 p] (.bool (grB ns xs p)) []:=by
 have h48:=x48 xs h2;obtain⟨A,hA⟩: ∃A,grB ns xs p=A:=⟨_,rfl⟩;rw[hA];unfold grB at hA;generalize xs.any lgV=B at h48 hA;refine fnT hT8 hmx Tryz.func31 rfl rfl (ex:= []) ?_;conv=>whnf
 refine brI (fun k1=>?_) (fun k1=>?_)
 ·have k1:=of_decide_eq_true k1;rw[if_pos (by omega)]at hA;conv=>whnf
  exact⟨ab0 hA,lh0⟩
 have k1:=of_decide_eq_false k1;rw[if_neg (by omega)]at hA;conv=>whnf
 refine brI (fun k2=>?_) (fun k2=>?_)
 ·have k2:=of_decide_eq_true k2;rw[if_pos (by omega)]at hA;conv=>whnf
  exact⟨ab0 hA,lh0⟩
 have k2:=of_decide_eq_false k2;rw[if_neg (by omega)]at hA;conv=>whnf
 refine brI (fun k3=>?_) (fun k3=>?_)
 ·have k3:=of_decide_eq_true k3;conv=>whnf
  refine brI (fun k4=>?_) (fun k4=>?_)
  ·have k4:=of_decide_eq_true k4;rw[if_pos (by omega)]at hA;conv=>whnf
   exact⟨ab0 hA,lh0⟩
  ·have k4:=of_decide_eq_false k4;rw[if_neg (by omega)]at hA;subst hA;conv=>whnf
   refine gZn h48 ?_;conv=>whnf
   exact⟨lr rfl,lh0⟩
 ·have k3:=of_decide_eq_false k3;rw[if_neg (by omega)]at hA;subst hA;conv=>whnf
  refine gZn h48 ?_;conv=>whnf
  exact⟨lr rfl,lh0⟩
theorem x13 (l:List Iv) (hl:l.length<=1000000) (h0:l≠ []):Fn 43 [] [.sl .iv l] (.own 2000000) [(2000000,.buf 28 .iv l)]:=by
 refine fnT hT8 hmx Tryz.func43 rfl rfl (ex:= [7]) ?_;conv=>whnf
 refine⟨fun h=>absurd h h0,fun _=>?_⟩;conv=>whnf
 refine⟨by simp;omega,?_⟩;conv=>whnf
 exact⟨lr rfl,lh1 (bb0 (by simp)) lh0⟩
end Go.Proofs.YtbolipecnhlnnaaGreatDoor
