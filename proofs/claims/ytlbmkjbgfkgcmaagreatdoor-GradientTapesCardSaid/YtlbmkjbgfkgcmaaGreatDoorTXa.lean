/- The natural extension contains exact values, and is isotone. -/
import Derived.Test.YtlbmkjbgfkgcmaaGreatDoorTYl
set_option linter.all false
namespace Go.Proofs.YtlbmkjbgfkgcmaaGreatDoor
open Go Go.Sx
set_option maxHeartbeats 2000000
set_option maxRecDepth 100000
set_option maxHeartbeats 8000000
def T8:Tab:= {T6 with nb:=(18,1)::T6.nb,gl:=T6.gl}
theorem hT8:TabOK Tryz.prog T8:=zfd Z Z
theorem fY8{f:Nat}{fn:Func}{c:Code}(a:Tryz.prog.funcs[f]?=some fn)(b:fn.body=some c){H H':Hp}{A:List AV}{r:AV}{X:Prop}(k:X)(d:(fn.name == "runtime.NumGoroutine")=false:=by first|rfl)(e:(fnC T8 [] c fn.ntmps H A H' fun Y=>zau T8 (CN Tryz.prog) c true Y (fun Y=>ze3 T8 fn.results.toList [] r H' Y) (fun _ _=>False) (fun Y=>ze3 T8 fn.results.toList [] r H' Y))=X:=by conv=>lhs;whnf):zh8 Tryz.prog f H A r H':=fnT hT8 hmx a b d (e.mpr k)
theorem fZ8{f:Nat}{fn:Func}{c:Code}(a:Tryz.prog.funcs[f]?=some fn)(b:fn.body=some c)(d:(fn.name == "runtime.NumGoroutine")=false){H H':Hp}{A:List AV}{r:AV}(h:fnC T8 [] c fn.ntmps H A H' fun Y=>zau T8 (CN Tryz.prog) c true Y (fun Y=>ze3 T8 fn.results.toList [] r H' Y) (fun _ _=>False) (fun Y=>ze3 T8 fn.results.toList [] r H' Y)):zh8 Tryz.prog f H A r H':=fnT hT8 hmx a b d h
theorem x13(l:List Iv)(hl:l.length<=1000000)(h0:l≠ []):Fn 18 [] [.sl .iv l] (.own 2000000) [(2000000,.buf 48 .iv l)]:=by
 refine fnT hT8 hmx Tryz.func18 rfl rfl (ex:= [7]) ?_;conv=>whnf
 refine⟨fun h=>absurd h h0,fun _=>?_⟩;conv=>whnf
 refine⟨OE,?_⟩;conv=>whnf
 exact⟨lr rfl,lh1 (bb0 OC) lh0⟩
theorem y247(l:List Int)(hl:l.length<=1000000):Fn 158 [] [.sl .u32 l] (.sl .u32 (trL l)) []:=by
 refine fY4 Tryz.func158 rfl ?_;refine⟨Nat,fun n=>n<=l.length/\trN l n=trN l l.length,fun n=> [(3,.int .i64 n)],fun _=> [],fun n=>n,l.length,⟨Nat.le_refl _,rfl⟩,?_,fun n hn=>?_⟩
 .exact KZ0
 refine gYe ?_;obtain⟨hn1,hn2⟩:=hn;refine brI (fun h1=>?_) (fun h1=>?_)
 .have h1:0<n:=by simp only[Z4]at h1;omega
  obtain⟨m,rfl⟩:∃m,n=m+1:=⟨n-1,O⟩;have hw:IntKind.i64.wrap (((m+1:Nat):Int)-1)=(m:Int):=by rw[wI O];omega
  conv=>whnf
  rw[hw];refine⟨⟨O,O⟩,fun x hx=>?_⟩;have hx:l[m]? =some x:=by simpa using hx
  simp only[trN,hx,Option.getD_some]at hn2;conv=>whnf
  refine brI (fun h2=>?_) (fun h2=>?_)
  .have h2:x=0:=by simpa using h2
   rw[Z6 h2]at hn2;conv=>whnf
   refine⟨m,⟨O,hn2⟩,by show m<m+1;omega,?_⟩;exact KZ0
  .have h2:¬x=0:=by simpa using h2
   rw[Z7 h2]at hn2;conv=>whnf
   refine⟨⟨O,O,O⟩,?_⟩;conv=>whnf
   refine⟨OE,?_⟩;conv=>whnf
   exact⟨vp (by rw[trL,<-hn2];try simp),lh0⟩
 .have h1:n=0:=by simp only[Z5]at h1;omega
  subst h1;simp only[trN]at hn2;conv=>whnf
  refine⟨⟨O,O,O⟩,?_⟩;conv=>whnf
  refine⟨OC,?_⟩;conv=>whnf
  exact⟨vp (by rw[trL,<-hn2];try simp),lh0⟩
theorem y59(a:List Int)(ha:a.length<9223372036854775808):Fn 156 [] [.sl .u32 a,.sl .u32 a] (.int .i64 0) []:=by
 refine fY4 Tryz.func156 rfl ?_;refine brI (fun h1=>?_) (fun _=>?_)
 .have h1:((a.length:Int) != (a.length:Int))=true:=h1;simp at h1
 conv=>whnf
 refine⟨Nat,fun n=>n<=a.length,fun n=> [(5,.int .i64 (n-1))],fun _=> [],fun n=>n,a.length,Nat.le_refl _,?_,fun n hn=>?_⟩
 .exact KZ0
 refine gYe ?_;refine brI (fun h1=>?_) (fun h1=>?_)
 .have h1:0<n:=by simp only[Z4]at h1;omega
  obtain⟨m,rfl⟩:∃m,n=m+1:=⟨n-1,O⟩;have hm:(((m+1:Nat):Int)-1)=m:=O;conv=>whnf
  rw[hm];refine⟨⟨O,O⟩,fun x hx=>?_⟩;have hx:a[m]? =some x:=by simpa using hx
  conv=>whnf
  refine⟨⟨O,O⟩,fun y hy=>?_⟩;have hy:a[m]? =some y:=by simpa using hy
  obtain rfl:x=y:=by rw[hx]at hy;exact Option.some.inj hy
  conv=>whnf
  refine gYd ?_;refine brI (fun h2=>by simp at h2) (fun _=>?_);conv=>whnf
  refine⟨⟨O,O⟩,fun x' hx'=>?_⟩;have hx':a[m]? =some x':=by simpa using hx'
  conv=>whnf
  refine⟨⟨O,O⟩,fun y' hy'=>?_⟩;have hy':a[m]? =some y':=by simpa using hy'
  obtain rfl:x'=y':=by rw[hx']at hy';exact Option.some.inj hy'
  conv=>whnf
  refine gYd ?_;refine brI (fun h2=>by simp at h2) (fun _=>?_);conv=>whnf
  refine⟨m,by show m<=a.length;omega,by show m<m+1;omega,?_⟩;exact KZ0
 .conv=>whnf
  exact⟨lr rfl,lh0⟩
def sgR(d:Dy):Int:=if d.m.length=0 then 0 else if d.neg=true then-1 else 1
