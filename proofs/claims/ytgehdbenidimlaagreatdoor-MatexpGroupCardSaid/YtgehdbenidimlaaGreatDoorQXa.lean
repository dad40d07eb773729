/-
  The natural extension contains exact values, and is isotone.
-/
import Derived.Test.YtgehdbenidimlaaGreatDoorQYl
import Derived.Test.YtgehdbenidimlaaGreatDoorQYy
import Derived.Test.YtgehdbenidimlaaGreatDoorQVa
import Derived.Test.YtgehdbenidimlaaGreatDoorQUb
import Derived.Test.YtgehdbenidimlaaGreatDoorQUa
import Derived.Test.YtgehdbenidimlaaGreatDoorQYa
import Derived.Test.YtgehdbenidimlaaGreatDoorQZz
set_option linter.unusedVariables false
set_option linter.unusedSimpArgs false
namespace Go.Proofs.YtgehdbenidimlaaGreatDoor
open Go Go.Sx
set_option maxHeartbeats 2000000
theorem zI_VI:VI zI:= .inl ⟨rfl,qc,qc,by decide⟩
theorem qat (a b:Dy):dv (zaf a b)<=dv a/\dv (zaf a b)<=dv b:=by
 unfold zaf;by_cases h:qa a b<=0
 ·rw[if_pos h];exact⟨Rat.le_refl,jk.1 h⟩
 ·rw[if_neg h];exact⟨zik.1 (by omega),Rat.le_refl⟩
theorem qar (a b:Dy):dv a<=dv (yg a b)/\dv b<=dv (yg a b):=by
 unfold yg;by_cases h:0<=qa a b
 ·rw[if_pos h];exact⟨Rat.le_refl,zik.1 h⟩
 ·rw[if_neg h];exact⟨jk.1 (by omega),Rat.le_refl⟩
theorem ztk {x y:Iv} (hx:KI x) (hy:KI y):KI ⟨zaf x.lo y.lo,yg x.hi y.hi,false⟩:=
 ⟨rfl,qb4 hx.lo hy.lo,znr hx.hi hy.hi,jk.2 (Rat.le_trans (qat x.lo y.lo).1 (Rat.le_trans hx.dle (qar x.hi y.hi).1))⟩
theorem zjr {x y:Iv} (hx:RI x) (hy:RI y):VI (zax x y):=by
 unfold zax;by_cases h:(kB x&&kB y)=true
 ·rw[if_pos h];obtain⟨a,b⟩:=(zdo hx hy).1 h;exact .inl (ztk a b)
 ·rw[if_neg h];exact .inr rfl
def zu3 (x y:Iv):Bool:=(viB x&&viB y)&&(y.all||(!x.all&&decide (qa y.lo x.lo<=0)&&decide (qa x.hi y.hi<=0)))
theorem qa5 {x y:Iv} (hx:VI x) (hy:VI y) (h:subI' x y):zu3 x y=true:=by
 unfold zu3;rw[(wl hx.ri).2 hx,(wl hy.ri).2 hy];rcases h with h|⟨h1,_,h2,h3⟩
 ·simp[h]
 ·simp[h1,jk.2 h2,jk.2 h3]
set_option maxRecDepth 100000
set_option maxHeartbeats 8000000
def ltB (c:Int):Bool:=decide (97<=c/\c<=122)||decide (65<=c/\c<=90)
def T8:Tab:= {T6 with nb:=T6.nb,gl:=T6.gl}
theorem hT8:TabOK Tryz.prog T8:=zf5 (by kernel_rfl) (by kernel_rfl)
theorem fZ8{f:Nat}{fn:Func}{c:Code}(a:Tryz.prog.funcs[f]?=some fn)(b:fn.body=some c)(d:(fn.name == "runtime.NumGoroutine")=false){H H':Hp}{A:List AV}{r:AV}(h:fnC T8 [] c fn.ntmps H A H' fun σ=>zbj T8 (CN Tryz.prog) c true σ (fun σ=>zhp T8 fn.results.toList [] r H' σ) (fun _ _=>False) (fun σ=>zhp T8 fn.results.toList [] r H' σ)):zme Tryz.prog f H A r H':=fnT hT8 hmx a b d h
theorem x15 (x y:Iv) (hx:RI x) (hy:RI y) (vx:VI x) (vy:VI y):Fn 79 [] [.agg (ivC x),.agg (ivC y)] (.bool (zu3 x y)) []:=by
 have hA:zu3 x y=((viB x&&viB y)&&(y.all||(!x.all&&decide (qa y.lo x.lo<=0)&&decide (qa x.hi y.hi<=0)))):=rfl;have h1:=i51 x hx;have h2:=i51 y hy;rw[(wl hx).2 vx]at hA h1;rw[(wl hy).2 vy]at hA h2;generalize zu3 x y=A at hA⊢;by_cases ay:y.all=true
 ·rw[ay]at hA;simp at hA;subst hA;clear hx hy vx vy;obtain⟨⟨x1,x2,x3⟩,⟨x4,x5,x6⟩,x7⟩:=x;obtain⟨⟨y1,y2,y3⟩,⟨y4,y5,y6⟩,y7⟩:=y;obtain rfl:y7=true:=ay;have h1:Fn 83 [] [.agg [.bool x1,.sl .u32 x2,.int .i64 x3,.bool x4,.sl .u32 x5,.int .i64 x6,.bool x7]] (.bool true) []:=h1;have h2:Fn 83 [] [.agg [.bool y1,.sl .u32 y2,.int .i64 y3,.bool y4,.sl .u32 y5,.int .i64 y6,.bool true]] (.bool true) []:=h2;show Fn 79 [] [.agg [.bool x1,.sl .u32 x2,.int .i64 x3,.bool x4,.sl .u32 x5,.int .i64 x6,.bool x7],.agg [.bool y1,.sl .u32 y2,.int .i64 y3,.bool y4,.sl .u32 y5,.int .i64 y6,.bool true]] _ [];refine fnT hT8 hmx Tryz.func79 rfl rfl (ex:= []) ?_;conv=>whnf
  refine gZn h1 ?_;conv=>whnf
  refine gZn h2 ?_;conv=>whnf
  exact⟨lr rfl,lh0⟩
 have ky:=(un vy).1 (by simpa using ay);have ay:y.all=false:=ky.all;by_cases ax:x.all=true
 ·rw[ax,ay]at hA;simp at hA;subst hA;clear hx hy vx vy ky;obtain⟨⟨x1,x2,x3⟩,⟨x4,x5,x6⟩,x7⟩:=x;obtain⟨⟨y1,y2,y3⟩,⟨y4,y5,y6⟩,y7⟩:=y;obtain rfl:y7=false:=ay;obtain rfl:x7=true:=ax;have h1:Fn 83 [] [.agg [.bool x1,.sl .u32 x2,.int .i64 x3,.bool x4,.sl .u32 x5,.int .i64 x6,.bool true]] (.bool true) []:=h1;have h2:Fn 83 [] [.agg [.bool y1,.sl .u32 y2,.int .i64 y3,.bool y4,.sl .u32 y5,.int .i64 y6,.bool false]] (.bool true) []:=h2;show Fn 79 [] [.agg [.bool x1,.sl .u32 x2,.int .i64 x3,.bool x4,.sl .u32 x5,.int .i64 x6,.bool true],.agg [.bool y1,.sl .u32 y2,.int .i64 y3,.bool y4,.sl .u32 y5,.int .i64 y6,.bool false]] _ [];refine fnT hT8 hmx Tryz.func79 rfl rfl (ex:= []) ?_;conv=>whnf
  refine gZn h1 ?_;conv=>whnf
  refine gZn h2 ?_;conv=>whnf
  exact⟨lr rfl,lh0⟩
 have kx:=(un vx).1 (by simpa using ax);have ax:x.all=false:=kx.all;have c1:=v81 ky.lo kx.lo;have c2:=v81 kx.hi ky.hi;rw[ax,ay]at hA;generalize qa y.lo x.lo=C at hA c1;generalize qa x.hi y.hi=D at hA c2;clear hx hy vx vy kx ky;obtain⟨⟨x1,x2,x3⟩,⟨x4,x5,x6⟩,x7⟩:=x;obtain⟨⟨y1,y2,y3⟩,⟨y4,y5,y6⟩,y7⟩:=y;obtain rfl:y7=false:=ay;obtain rfl:x7=false:=ax;have h1:Fn 83 [] [.agg [.bool x1,.sl .u32 x2,.int .i64 x3,.bool x4,.sl .u32 x5,.int .i64 x6,.bool false]] (.bool true) []:=h1;have h2:Fn 83 [] [.agg [.bool y1,.sl .u32 y2,.int .i64 y3,.bool y4,.sl .u32 y5,.int .i64 y6,.bool false]] (.bool true) []:=h2;have c1:Fn 86 [] [.agg [.bool y1,.sl .u32 y2,.int .i64 y3],.agg [.bool x1,.sl .u32 x2,.int .i64 x3]] (.int .i64 C) []:=c1;have c2:Fn 86 [] [.agg [.bool x4,.sl .u32 x5,.int .i64 x6],.agg [.bool y4,.sl .u32 y5,.int .i64 y6]] (.int .i64 D) []:=c2;show Fn 79 [] [.agg [.bool x1,.sl .u32 x2,.int .i64 x3,.bool x4,.sl .u32 x5,.int .i64 x6,.bool false],.agg [.bool y1,.sl .u32 y2,.int .i64 y3,.bool y4,.sl .u32 y5,.int .i64 y6,.bool false]] _ [];refine fnT hT8 hmx Tryz.func79 rfl rfl (ex:= []) ?_;conv=>whnf
 refine gZn h1 ?_;conv=>whnf
 refine gZn h2 ?_;conv=>whnf
 refine gZn c1 ?_;conv=>whnf
 refine brI (fun k1=>?_) (fun k1=>?_)
 ·have k1:=of_decide_eq_true k1;conv=>whnf
  refine gZn c2 ?_;conv=>whnf
  exact⟨ab0 (by rw[hA,decide_eq_true k1];simp),lh0⟩
 ·have k1:=of_decide_eq_false k1;conv=>whnf
  exact⟨ab0 (by rw[hA,decide_eq_false k1];simp),lh0⟩
theorem y247 (l:List Int) (hl:l.length<=1000000):Fn 143 [] [.sl .u32 l] (.sl .u32 (trL l)) []:=by
 refine fnT hT4 hmx Tryz.func143 rfl rfl (ex:= []) ?_;conv=>whnf
 refine⟨Nat,fun n=>n<=l.length/\trN l n=trN l l.length,fun n=> [(3,.int .i64 n)],fun _=> [],fun n=>n,l.length,⟨Nat.le_refl _,rfl⟩,?_,fun n hn=>?_⟩
 ·((conv=>whnf);refine And.intro ?_ ?_;repeat' first|refine lc ?_ ?_|exact la0|exact lr rfl|exact ln0|refine lh1 ?_ ?_|exact lh0|exact bf0|exact bd0|refine bc0 ?_|exact bm0 rfl|exact bg0 rfl|exact li0 rfl|refine lg0 ?_|refine lt0 ?_|fail)
 (refine⟨by kernel_rfl,?_⟩;(conv=>whnf))
 obtain⟨hn1,hn2⟩:=hn;refine brI (fun h1=>?_) (fun h1=>?_)
 ·have h1:0<n:=by simp only[decide_eq_true_eq]at h1;omega
  obtain⟨m,rfl⟩: ∃m,n=m+1:=⟨n-1,by omega⟩;have hw:IntKind.i64.wrap (((m+1:Nat):Int)-1)=(m:Int):=by rw[wI (by omega)];omega
  conv=>whnf
  rw[hw];refine⟨⟨by omega,by omega⟩,fun x hx=>?_⟩;have hx:l[m]? =some x:=by simpa using hx
  simp only[trN,hx,Option.getD_some]at hn2;conv=>whnf
  refine brI (fun h2=>?_) (fun h2=>?_)
  ·have h2:x=0:=by simpa using h2
   rw[if_pos h2]at hn2;conv=>whnf
   refine⟨m,⟨by omega,hn2⟩,by show m<m+1;omega,?_⟩
   ((conv=>whnf);refine And.intro ?_ ?_;repeat' first|refine lc ?_ ?_|exact la0|exact lr rfl|exact ln0|refine lh1 ?_ ?_|exact lh0|exact bf0|exact bd0|refine bc0 ?_|exact bm0 rfl|exact bg0 rfl|exact li0 rfl|refine lg0 ?_|refine lt0 ?_|fail)
   exact ai0 hw
  ·have h2: ¬x=0:=by simpa using h2
   rw[if_neg h2]at hn2;conv=>whnf
   refine⟨⟨by omega,by omega,by omega⟩,?_⟩;conv=>whnf
   refine⟨by simp;omega,?_⟩;conv=>whnf
   exact⟨kq (by rw[trL,←hn2];try simp),lh0⟩
 ·have h1:n=0:=by simp only[decide_eq_false_iff_not]at h1;omega
  subst h1;simp only[trN]at hn2;conv=>whnf
  refine⟨⟨by omega,by omega,by omega⟩,?_⟩;conv=>whnf
  refine⟨by simp,?_⟩;conv=>whnf
  exact⟨kq (by rw[trL,←hn2];try simp),lh0⟩
def sgR (d:Dy):Int:=if d.m.length=0 then 0 else if d.neg=true then-1 else 1
end Go.Proofs.YtgehdbenidimlaaGreatDoor
