/- evaluate.Apply for all operations. -/
import Derived.Test.YtbolipecnhlnnaaGreatDoorVXf
import Derived.Test.YtbolipecnhlnnaaGreatDoorVXh
import Derived.Test.YtbolipecnhlnnaaGreatDoorVYc
set_option linter.all false
open List renaming length_cons->q0
namespace Go.Proofs.YtbolipecnhlnnaaGreatDoor
open Go Go.Sx
set_option maxRecDepth 100000
set_option maxHeartbeats 8000000
def fxA(k:Int)(x:Iv)(p:Int):Iv:=if k=9 then zw3 x p else if k=10 then zy1 x p else if k=11 then ciI x false p else ciI x true p
def Kt(k:Int):Prop:=3<=k/\k<=13
theorem CI_fx(k:Int){x:Iv}(hx:RI x)(p:Int):CI (fxA k x p):=by
 grind[fxA,qmj,qmg,qml]
theorem x25(k n:Int)(x y:Iv)(hx:RI x)(p:Int)(hk:k=9\/k=10\/k=11\/k=12):Fn 177 G0 [.int .i64 k,.int .i64 n,.agg (ivC x),.agg (ivC y),.int .i64 p] (.agg (ivC (fxA k x p))) G0:=by
 have a1:=x33 x hx p;have a2:=x34 x hx p;have a3:=c35 x hx p;have a4:=c36 x hx p;rcases hk with rfl|rfl|rfl|rfl
 .show Fn 177 G0 _ (.agg (ivC (zw3 x p))) G0;generalize zw3 x p=R at*;refine fY6 Tryz.func177 rfl ?_;refine gYc a1 ?_;exact⟨lr rfl,leG⟩
 .show Fn 177 G0 _ (.agg (ivC (zy1 x p))) G0;generalize zy1 x p=R at*;refine fY6 Tryz.func177 rfl ?_;refine gYc a2 ?_;exact⟨lr rfl,leG⟩
 .show Fn 177 G0 _ (.agg (ivC (ciI x false p))) G0;generalize ciI x false p=R at*;refine fY6 Tryz.func177 rfl ?_;refine gYc a3 ?_;exact⟨lr rfl,leG⟩
 .show Fn 177 G0 _ (.agg (ivC (ciI x true p))) G0;generalize ciI x true p=R at*;refine fY6 Tryz.func177 rfl ?_;refine gYc a4 ?_;exact⟨lr rfl,leG⟩
theorem ApKt(p:Int):ApK fxA Kt p:=fun k n x y hk hx hy=>by
 by_cases h:9<=k/\k<=12
 .have e:apI fxA k n x y p=fxA k x p:=by
   grind[apI]
  grind[x25,CI_fx]
 grind[Ka,Kt,i52,qb2]
theorem gput{V:Type}(x y:zg)(r z:V):∀es:List (zg×V),zgz .str x z (zby .str y r es)=if x=y then r else zgz .str x z es
 | []=>by
   simp_all[zby,zgz,zd3]
 |(k,v)::es=>by
  simp only[zby];by_cases h:y=k
  .subst h;rw[show zl0 .str y y=true by rw[zd3];simp]
   simp_all[cond_true,zgz,zd3]
  .rw[show zl0 .str y k=false by rw[zd3];simp[h]];simp only[cond_false,zgz,zd3];by_cases h2:x=k
   .grind
   .simp[h2,gput x y r z es]
theorem qav{V:Type}(x y:zg)(r:V):∀es:List (zg×V),zds .str x (zby .str y r es)=(decide (x=y)||zds .str x es)
 | []=>by simp[zby,zds,zd3]
 |(k,v)::es=>by
  simp only[zby];by_cases h:y=k
  .simp_all[zl0,zd3,cond_true,zds]
  .rw[show zl0 .str y k=false by rw[zd3];simp[h]];simp only[cond_false,zds,zd3,qav x y r es];grind
theorem lput{V:Type}(y:zg)(r:V):∀es:List (zg×V),(zby .str y r es).length =if zds .str y es=true then es.length else es.length+1
 | []=>by simp[zby,zds]
 |(k,v)::es=>by
  have ih:=lput y r es;grind[zl0,zds,zby]
theorem zme:∀(ns:List zg)(xs:List Iv)(es:zdx),(xk ns xs es).length <=es.length+ns.length
 | [],xs,es=>by grind[xk]
 | _::_,[],es=>by simp[xk]
 |n::ns,x::xs,es=>by
  have h1:=zme ns xs (zby .str n x es);grind[zfb,xk,q0]
theorem zrs{t:zg}:∀(ns:List zg)(xs:List Iv)(es:zdx),(xk ns xs es).length =es.length+ns.length->zds .str t es=true->zgz .str t zI (xk ns xs es)=zgz .str t zI es
 | [],xs,es,_,_=>by cases xs<;>rfl
 |n::ns,[],es,h,_=>rfl
 |n::ns,x::xs,es,h,ht=>by
  have h1:=zme ns xs (zby .str n x es);have h2:=lput n x es;simp only[xk,q0]at h⊢;have hn:zds .str n es=false:=by
   grind
  rw[Z5 (by simp[hn])]at h2;rw[zrs ns xs _ O (by rw[qav,ht];simp),gput,Z5 (by grind)]
theorem qc5{t:zg}{v:Iv}:∀(ns:List zg)(xs:List Iv)(es:zdx)(i:Nat),ns[i]? =some t->xs[i]? =some v->(xk ns xs es).length =es.length+ns.length->zgz .str t zI (xk ns xs es)=v
 | [],_,_,_,h,_,_=>by simp at h
 | _::_,[],_,_,_,h,_=>by simp at h
 |n::ns,x::xs,es,i,h,g,hl=>by
  have h1:=zme ns xs (zby .str n x es);have h2:=zfb n x es;simp only[xk,q0]at hl⊢
  cases i with
  |zero=>
   simp at h g;subst h;subst g;rw[zrs ns xs _ O (by rw[qav];simp),gput,Z4 rfl]
  |succ i=>exact qc5 ns xs _ i (by simpa using h) (by simpa using g) O
theorem qhf:∀ {e:Ex},VT e->VK Kt e
 | _,.num r h=>.num r h
 | _,.var s h=>.var s h
 | _,.un k a h1 h2=>.un k a (by grind[K1,Kt]) h1 (qhf h2)
 | _,.pow n a h1 h2 h3=>.pow n a (by unfold Kt;omega) h1 h2 (qhf h3)
 | _,.bin k a b h1 h2 h3=>.bin k a b (by grind[K2,Kt]) h1 (qhf h2) (qhf h3)
theorem x103(d:Dy)(hl:d.m.length<9223372036854775808):Fn 174 [] [.agg (dyC d),.agg (dyC d)] (.bool true) []:=by
 have h:=y59 d.m hl;obtain⟨s,m,e⟩:=d;cases s
 all_goals
  refine fY8 Tryz.func174 rfl ?_;refine brI (fun _=>?_) (fun c=>?_)
  rotate_left
  .exact absurd (show(e==e)=true by simp) (by rw[show(e==e)=false from c];simp)
  conv=>whnf
  refine brI (fun _=>?_) (fun c=>?_)
  rotate_left
  .exact absurd (show((m.length:Int)==(m.length:Int))=true by simp) (by rw[show((m.length:Int)==(m.length:Int))=false from c];simp)
  conv=>whnf
  refine gYn h ?_;exact⟨lr rfl,lh0⟩
theorem x20(x:Iv)(h1:x.lo.m.length<9223372036854775808)(h2:x.hi.m.length<9223372036854775808):Fn 38 [] [.agg (ivC x),.agg (ivC x)] (.bool true) []:=by
 have c1:=x103 x.lo h1;have c2:=x103 x.hi h2;have h:Fn 92 [] [.agg (ivC x),.agg (ivC x)] (.bool true) []:=by
  obtain⟨a,b,c⟩:=x;cases c
  all_goals
   refine fY8 Tryz.func92 rfl ?_;refine gYn c1 ?_;refine gYn c2 ?_;exact⟨lr rfl,lh0⟩
 refine fY8 Tryz.func38 rfl ?_;refine gYn h ?_;exact⟨lr rfl,lh0⟩
theorem x16(e:Ex)(he:Sm e)(ns:List zg)(xs:List Iv)(hx:∀x∈xs,RI x)(h1:ns.length<9223372036854775808)(h2:xs.length<9223372036854775808)(p:Int):
 Fn 32 G0 [.agg (exC e),.sl .str ns,.sl .iv xs,.int .i64 p] (.agg (ivC (zjb fxA e ns xs p))) G0:=i8 (fun p _=>ApKt p) e he (fun h=>qhf (zh9 h)) ns xs hx h1 h2 p
theorem zyn(e:Ex)(ns:List zg)(xs:List Iv)(hx:∀x∈xs,RI x)(p:Int):RI (zjb fxA e ns xs p):=by
 unfold zjb;split
 .rename_i c;exact(i26 c.1.2.2 (ApKt p) (zhl ns xs [] hx fun q hq=>by cases hq) (qhf (zh9 c.1.2.1))).2
 .exact zp5
