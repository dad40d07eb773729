/- The natural extension contains exact values, and is isotone. -/
import Derived.Test.YtbolipecnhlnnaaGreatDoorSYl
set_option linter.unusedVariables false
set_option linter.unusedSimpArgs false
open Rat renaming le_refl->q0,le_trans->q1
namespace Go.Proofs.YtbolipecnhlnnaaGreatDoor
open Go Go.Sx
set_option maxHeartbeats 2000000
theorem zI_VI:VI zI:= .inl ⟨rfl,qb,qb,by decide⟩
theorem qbv (a b:Dy):dv (xt a b)<=dv a/\dv (xt a b)<=dv b:=by
 unfold xt;by_cases h:qf a b<=0
 .rw[Z4 h];exact⟨q0,uh.1 h⟩
 .rw[Z5 h];exact⟨zi4.1 (by omega),q0⟩
theorem qbs (a b:Dy):dv a<=dv (yx a b)/\dv b<=dv (yx a b):=by
 unfold yx;by_cases h:0<=qf a b
 .rw[Z4 h];exact⟨q0,zi4.1 h⟩
 .rw[Z5 h];exact⟨uh.1 (by omega),q0⟩
theorem zt4 {x y:Iv} (hx:KI x) (hy:KI y):KI ⟨xt x.lo y.lo,yx x.hi y.hi,false⟩:=
 ⟨rfl,zvk hx.lo hy.lo,zob hx.hi hy.hi,uh.2 (q1 (qbv x.lo y.lo).1 (q1 hx.dle (qbs x.hi y.hi).1))⟩
theorem zkd {x y:Iv} (hx:RI x) (hy:RI y):VI (zbj x y):=by
 unfold zbj;by_cases h:(kB x&&kB y)=true
 .rw[Z4 h];obtain⟨a,b⟩:=(zdw hx hy).1 h;exact .inl (zt4 a b)
 .rw[Z5 h];exact .inr rfl
set_option maxRecDepth 100000
set_option maxHeartbeats 8000000
theorem y247 (l:List Int) (hl:l.length<=1000000):Fn 199 [] [.sl .u32 l] (.sl .u32 (trL l)) []:=by
 refine fnT hT4 hmx Tryz.func199 rfl rfl (ex:= []) ?_;conv=>whnf
 refine⟨Nat,fun n=>n<=l.length/\trN l n=trN l l.length,fun n=> [(3,.int .i64 n)],fun _=> [],fun n=>n,l.length,⟨Nat.le_refl _,rfl⟩,?_,fun n hn=>?_⟩
 ·((conv=>whnf);refine And.intro ?_ ?_;repeat' first|refine lc ?_ ?_|exact la0|exact lr rfl|exact ln0|refine lh1 ?_ ?_|exact lh0|exact bf0|exact bd0|refine bc0 ?_|exact bm0 rfl|exact bg0 rfl|exact li0 rfl|refine lg0 ?_|refine lt0 ?_|fail)
 (refine⟨by kernel_rfl,?_⟩;(conv=>whnf))
 obtain⟨hn1,hn2⟩:=hn;refine brI (fun h1=>?_) (fun h1=>?_)
 .have h1:0<n:=by simp only[Z2]at h1;omega
  obtain⟨m,rfl⟩: ∃m,n=m+1:=⟨n-1,by omega⟩;have hw:IntKind.i64.wrap (((m+1:Nat):Int)-1)=(m:Int):=by rw[wI (by omega)];omega
  conv=>whnf
  rw[hw];refine⟨⟨by omega,by omega⟩,fun x hx=>?_⟩;have hx:l[m]? =some x:=by simpa using hx
  simp only[trN,hx,Option.getD_some]at hn2;conv=>whnf
  refine brI (fun h2=>?_) (fun h2=>?_)
  .have h2:x=0:=by simpa using h2
   rw[Z4 h2]at hn2;conv=>whnf
   refine⟨m,⟨by omega,hn2⟩,by show m<m+1;omega,?_⟩
   ((conv=>whnf);refine And.intro ?_ ?_;repeat' first|refine lc ?_ ?_|exact la0|exact lr rfl|exact ln0|refine lh1 ?_ ?_|exact lh0|exact bf0|exact bd0|refine bc0 ?_|exact bm0 rfl|exact bg0 rfl|exact li0 rfl|refine lg0 ?_|refine lt0 ?_|fail)
   exact ai0 hw
  .have h2: ¬x=0:=by simpa using h2
   rw[Z5 h2]at hn2;conv=>whnf
   refine⟨⟨by omega,by omega,by omega⟩,?_⟩;conv=>whnf
   refine⟨by simp;omega,?_⟩;conv=>whnf
   exact⟨un (by rw[trL,<-hn2];try simp),lh0⟩
 .have h1:n=0:=by simp only[Z3]at h1;omega
  subst h1;simp only[trN]at hn2;conv=>whnf
  refine⟨⟨by omega,by omega,by omega⟩,?_⟩;conv=>whnf
  refine⟨by simp,?_⟩;conv=>whnf
  exact⟨un (by rw[trL,<-hn2];try simp),lh0⟩
def sgR (d:Dy):Int:=if d.m.length=0 then 0 else if d.neg=true then-1 else 1
