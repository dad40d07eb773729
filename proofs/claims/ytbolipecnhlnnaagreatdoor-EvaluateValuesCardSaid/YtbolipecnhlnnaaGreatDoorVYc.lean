/- Intervals of small numbers: interval.Valid, known, Neg, Add, Sub, Mul. -/
import Derived.Test.YtbolipecnhlnnaaGreatDoorVYa
import Derived.Test.YtbolipecnhlnnaaGreatDoorVVa
set_option linter.all false
namespace Go.Proofs.YtbolipecnhlnnaaGreatDoor
open Go Go.Sx
set_option maxRecDepth 100000
set_option maxHeartbeats 8000000
def i01:Iv:=⟨d0,d1,false⟩
def im1:Iv:=⟨dm,d1,false⟩
theorem y247(l:List Int)(hl:l.length<=1000000):Fn 199 [] [.sl .u32 l] (.sl .u32 (trL l)) []:=by
 refine fY4 Tryz.func199 rfl ?_;refine⟨Nat,fun n=>n<=l.length/\trN l n=trN l l.length,fun n=> [(3,.int .i64 n)],fun _=> [],fun n=>n,l.length,⟨Nat.le_refl _,rfl⟩,?_,fun n hn=>?_⟩
 .exact KZ0
 refine gYe ?_;obtain⟨hn1,hn2⟩:=hn;refine brI (fun h1=>?_) (fun h1=>?_)
 .have h1:0<n:=by simp only[Z2]at h1;omega
  obtain⟨m,rfl⟩:∃m,n=m+1:=⟨n-1,O⟩;have hw:IntKind.i64.wrap (((m+1:Nat):Int)-1)=(m:Int):=by rw[wI O];omega
  conv=>whnf
  rw[hw];refine⟨⟨O,O⟩,fun x hx=>?_⟩;have hx:l[m]? =some x:=by simpa using hx
  simp only[trN,hx,Option.getD_some]at hn2;conv=>whnf
  refine brI (fun h2=>?_) (fun h2=>?_)
  .have h2:x=0:=by simpa using h2
   rw[Z4 h2]at hn2;conv=>whnf
   refine⟨m,⟨O,hn2⟩,by show m<m+1;omega,?_⟩;exact KZ0
  .have h2:¬x=0:=by simpa using h2
   rw[Z5 h2]at hn2;conv=>whnf
   refine⟨⟨O,O,O⟩,?_⟩;conv=>whnf
   refine⟨OE,?_⟩;conv=>whnf
   exact⟨wb (by rw[trL,<-hn2];try simp),lh0⟩
 .have h1:n=0:=by simp only[Z3]at h1;omega
  subst h1;simp only[trN]at hn2;conv=>whnf
  refine⟨⟨O,O,O⟩,?_⟩;conv=>whnf
  refine⟨OC,?_⟩;conv=>whnf
  exact⟨wb (by rw[trL,<-hn2];try simp),lh0⟩
theorem y59(a:List Int)(ha:a.length<9223372036854775808):Fn 196 [] [.sl .u32 a,.sl .u32 a] (.int .i64 0) []:=by
 refine fY4 Tryz.func196 rfl ?_;refine brI (fun h1=>?_) (fun _=>?_)
 .have h1:((a.length:Int) != (a.length:Int))=true:=h1;simp at h1
 conv=>whnf
 refine⟨Nat,fun n=>n<=a.length,fun n=> [(5,.int .i64 (n-1))],fun _=> [],fun n=>n,a.length,Nat.le_refl _,?_,fun n hn=>?_⟩
 .exact KZ0
 refine gYe ?_;refine brI (fun h1=>?_) (fun h1=>?_)
 .have h1:0<n:=by simp only[Z2]at h1;omega
  obtain⟨m,rfl⟩:∃m,n=m+1:=⟨n-1,O⟩;have hm:(((m+1:Nat):Int)-1)=m:=O;conv=>whnf
  rw[hm];refine⟨⟨O,O⟩,fun x hx=>?_⟩;have hx:a[m]? =some x:=by simpa using hx
  conv=>whnf
  refine⟨⟨O,O⟩,fun y hy=>?_⟩;have hy:a[m]? =some y:=by simpa using hy
  obtain rfl:x=y:=by rw[hx]at hy;exact Option.some.inj hy
  conv=>whnf
  refine gYd ?_;refine brI (fun h2=>by simp at h2) (fun _=>?_);conv=>whnf
  refine⟨⟨O,O⟩,fun x' hx'=>?_⟩;have hx':a[m]? =some x':=by simpa using hx'
  conv=>whnf
  refine⟨⟨O,O⟩,fun y' hy'=>?_⟩;have hy':a[m]? =some y':=by simpa using hy'
  obtain rfl:x'=y':=by rw[hx']at hy';exact Option.some.inj hy'
  conv=>whnf
  refine gYd ?_;refine brI (fun h2=>by simp at h2) (fun _=>?_);conv=>whnf
  refine⟨m,by show m<=a.length;omega,by show m<m+1;omega,?_⟩;exact KZ0
 .conv=>whnf
  exact⟨lr rfl,lh0⟩
def sgR(d:Dy):Int:=if d.m.length=0 then 0 else if d.neg=true then-1 else 1
def xE:Ex:=zjn [120]
def eA:Ex:=opE 4 0 [opE 5 0 [xE,xE],xE]
theorem y7(s:zg):Fn 88 [] [.str s] (.agg (exC (zjn s))) []:=by
 refine fY4 Tryz.func88 rfl ?_;exact⟨lg0 (lc (lr rfl) (lc (lr rfl) (lc (lr rfl) (lc (lr rfl) (lc (lr rfl) (lc (li0 rfl) ln0)))))),lh0⟩
theorem y9(k:Int)(l:List Ex):Fn 89 [] [.int .i64 k,.sl .ex l] (.agg (exC (opE k 0 l))) []:=by
 refine fY4 Tryz.func89 rfl ?_;exact⟨lr rfl,lh0⟩
theorem y11(n:Int):Fn 37 [] [.int .i64 n] (.agg (exC (zge ⟨n,1⟩))) []:=by
 refine fY4 Tryz.func37 rfl ?_;exact⟨lg0 (lc (lr rfl) (lc (lr rfl) (lc (lr rfl) (lc (lr rfl) (lc (lr rfl) (lc (li0 rfl) ln0)))))),lh0⟩
def eB:Ex:=opE 6 0 [zge ⟨1,1⟩,opE 4 0 [zjn [120],zge ⟨1,1⟩]]
