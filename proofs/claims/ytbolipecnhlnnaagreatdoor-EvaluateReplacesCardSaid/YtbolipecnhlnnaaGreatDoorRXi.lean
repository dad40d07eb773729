/-
  evaluate.Apply for all operations.
-/
import Derived.Test.YtbolipecnhlnnaaGreatDoorRXf
import Derived.Test.YtbolipecnhlnnaaGreatDoorRXh
import Derived.Test.YtbolipecnhlnnaaGreatDoorRXa
import Derived.Test.YtbolipecnhlnnaaGreatDoorRYe
import Derived.Test.YtbolipecnhlnnaaGreatDoorRVa
import Derived.Test.YtbolipecnhlnnaaGreatDoorRYc
set_option linter.unusedVariables false
set_option linter.unusedSimpArgs false
open List renaming length_cons->q2
namespace Go.Proofs.YtbolipecnhlnnaaGreatDoor
open Go Go.Sx
set_option maxRecDepth 100000
set_option maxHeartbeats 8000000
def fxA (k:Int) (x:Iv) (p:Int):Iv:=if k=9 then zrb x p else if k=10 then zrp x p else if k=11 then ciI x false p else ciI x true p
def Kt (k:Int):Prop:=3<=k/\k<=13
theorem CI_fx (k:Int) {x:Iv} (hx:RI x) (p:Int):CI (fxA k x p):=by
 unfold fxA;split
 ·exact qhx _ _
 split
 ·exact qhu _ _
 split
 ·exact qh0 hx _ _
 ·exact qh0 hx _ _
theorem x25 (k n:Int) (x y:Iv) (hx:RI x) (p:Int) (hk:k=9\/k=10\/k=11\/k=12):Fn 177 G0 [.int .i64 k,.int .i64 n,.agg (ivC x),.agg (ivC y),.int .i64 p] (.agg (ivC (fxA k x p))) G0:=by
 have a1:=x33 x hx p;have a2:=x34 x hx p;have a3:=c35 x hx p;have a4:=c36 x hx p;rcases hk with rfl|rfl|rfl|rfl
 ·show Fn 177 G0 _ (.agg (ivC (zrb x p))) G0;generalize zrb x p=R at*;refine fnT hT6 hmx Tryz.func177 rfl rfl (ex:= []) ?_;conv=>whnf
  refine gZc a1 ?_;conv=>whnf
  exact⟨lr rfl,leG⟩
 ·show Fn 177 G0 _ (.agg (ivC (zrp x p))) G0;generalize zrp x p=R at*;refine fnT hT6 hmx Tryz.func177 rfl rfl (ex:= []) ?_;conv=>whnf
  refine gZc a2 ?_;conv=>whnf
  exact⟨lr rfl,leG⟩
 ·show Fn 177 G0 _ (.agg (ivC (ciI x false p))) G0;generalize ciI x false p=R at*;refine fnT hT6 hmx Tryz.func177 rfl rfl (ex:= []) ?_;conv=>whnf
  refine gZc a3 ?_;conv=>whnf
  exact⟨lr rfl,leG⟩
 ·show Fn 177 G0 _ (.agg (ivC (ciI x true p))) G0;generalize ciI x true p=R at*;refine fnT hT6 hmx Tryz.func177 rfl rfl (ex:= []) ?_;conv=>whnf
  refine gZc a4 ?_;conv=>whnf
  exact⟨lr rfl,leG⟩
theorem ApKt (p:Int):ApK fxA Kt p:=fun k n x y hk hx hy=>by
 by_cases h:9<=k/\k<=12
 ·have e:apI fxA k n x y p=fxA k x p:=by
   unfold apI;rw[if_neg (by omega),if_neg (by omega),if_neg (by omega),if_neg (by omega),if_neg (by omega),if_neg (by omega),if_neg (by omega),if_pos h]
  rw[e];exact⟨x25 k n x y hx p (by omega),CI_fx k hx p⟩
 ·have hk:Ka k:=by unfold Kt at hk;unfold Ka;omega
  exact⟨i52 hk n x y hx hy p,CI_ap hk n y p hx⟩
theorem gput {V:Type} (x y:ze) (r z:V): ∀es:List (ze×V),zb4 .str x z (zba .str y r es)=if x=y then r else zb4 .str x z es
 | []=>by
   simp only[zba,zb4,zam];by_cases h:x=y<;>simp[h]
 |(k,v)::es=>by
  simp only[zba];by_cases h:y=k
  ·subst h;rw[show zig .str y y=true by rw[zam];simp];simp only[cond_true,zb4,zam];by_cases h2:x=y<;>simp[h2]
  ·rw[show zig .str y k=false by rw[zam];simp[h]];simp only[cond_false,zb4,zam];by_cases h2:x=k
   ·subst h2;have: ¬x=y:=fun c=>h c.symm
    simp[this]
   ·simp[h2,gput x y r z es]
theorem qf8 {V:Type} (x y:ze) (r:V): ∀es:List (ze×V),zc3 .str x (zba .str y r es)=(decide (x=y)||zc3 .str x es)
 | []=>by simp[zba,zc3,zam]
 |(k,v)::es=>by
  simp only[zba];by_cases h:y=k
  ·subst h;rw[show zig .str y y=true by rw[zam];simp];simp only[cond_true,zc3,zam];by_cases h2:x=y<;>simp[h2]
  ·rw[show zig .str y k=false by rw[zam];simp[h]];simp only[cond_false,zc3,zam,qf8 x y r es];by_cases h2:x=k<;>simp[h2]
theorem lput {V:Type} (y:ze) (r:V): ∀es:List (ze×V),(zba .str y r es).length =if zc3 .str y es=true then es.length else es.length+1
 | []=>by simp[zba,zc3]
 |(k,v)::es=>by
  have ih:=lput y r es;cases c:zig .str y k<;>cases d:zc3 .str y es<;>simp[zba,zc3,c,d,ih]
theorem znn: ∀(ns:List ze) (xs:List Iv) (es:za5),(yk ns xs es).length <=es.length+ns.length
 | [],xs,es=>by cases xs<;>simp[yk]
 | _::_,[],es=>by simp[yk]
 |n::ns,x::xs,es=>by
  have h1:=znn ns xs (zba .str n x es);have h2:=zdv n x es;simp only[yk,q2];omega
theorem zpi {t:ze}: ∀(ns:List ze) (xs:List Iv) (es:za5),(yk ns xs es).length =es.length+ns.length->zc3 .str t es=true->zb4 .str t zI (yk ns xs es)=zb4 .str t zI es
 | [],xs,es,_,_=>by cases xs<;>rfl
 |n::ns,[],es,h,_=>rfl
 |n::ns,x::xs,es,h,ht=>by
  have h1:=znn ns xs (zba .str n x es);have h2:=lput n x es;simp only[yk,q2]at h⊢;have hn:zc3 .str n es=false:=by
   cases c:zc3 .str n es with
   |false=>rfl
   |true=>rw[if_pos c]at h2;omega
  rw[if_neg (by simp[hn])]at h2;rw[zpi ns xs _ (by omega) (by rw[qf8,ht];simp),gput,if_neg (by rintro rfl;rw[hn]at ht;cases ht)]
theorem zub {t:ze} {v:Iv}: ∀(ns:List ze) (xs:List Iv) (es:za5) (i:Nat),ns[i]? =some t->xs[i]? =some v->(yk ns xs es).length =es.length+ns.length->zb4 .str t zI (yk ns xs es)=v
 | [],_,_,_,h,_,_=>by simp at h
 | _::_,[],_,_,_,h,_=>by simp at h
 |n::ns,x::xs,es,i,h,g,hl=>by
  have h1:=znn ns xs (zba .str n x es);have h2:=zdv n x es;simp only[yk,q2]at hl⊢
  cases i with
  |zero=>
   simp at h g;subst h;subst g;rw[zpi ns xs _ (by omega) (by rw[qf8];simp),gput,if_pos rfl]
  |succ i=>exact zub ns xs _ i (by simpa using h) (by simpa using g) (by omega)
def zyj (t:ze) (es es':za5):Prop:=All2 (fun a b=>a.1=b.1/\(a.1≠t->a.2=b.2)) es es'
theorem zx0 {t:ze} {es es':za5} (h:zyj t es es'):es.length=es'.length:=by
 induction h with
 |nil=>rfl
 |cons _ _ ih=>simp[ih]
theorem zx1 {t:ze} {es es':za5} (h:zyj t es es') (s:ze):zc3 .str s es=zc3 .str s es':=by
 induction h with
 |nil=>rfl
 |cons hab _ ih=>
  rename_i a b l l' _;obtain⟨y,v⟩:=a;obtain⟨y',v'⟩:=b;obtain⟨rfl,_⟩:=hab;simp only[zc3,ih]
theorem zx2 {t:ze} {es es':za5} (h:zyj t es es') {s:ze} (hs:s≠t):zb4 .str s zI es=zb4 .str s zI es':=by
 induction h with
 |nil=>rfl
 |cons hab _ ih=>
  rename_i a b l l' _;obtain⟨y,v⟩:=a;obtain⟨y',v'⟩:=b;obtain⟨rfl,h2⟩:=hab;simp only[zb4,zam];by_cases c:s=y
  ·subst c;have:=h2 hs;simp only at this;simp[this]
  ·simp[c,ih]
theorem zxz {t:ze} {es es':za5} (h:zyj t es es') (n:ze) {x y:Iv} (hxy:n≠t->x=y):zyj t (zba .str n x es) (zba .str n y es'):=by
 induction h with
 |nil=>exact .cons ⟨rfl,hxy⟩ .nil
 |cons hab ht ih=>
  rename_i a b l l';obtain⟨k,v⟩:=a;obtain⟨k',v'⟩:=b;obtain⟨rfl,h2⟩:=hab;simp only[zba]
  cases zig .str n k with
  |true=>exact .cons ⟨rfl,hxy⟩ ht
  |false=>exact .cons ⟨rfl,h2⟩ ih
theorem zpo {t:ze}: ∀(ns:List ze) (xs ys:List Iv) (es es':za5),xs.length=ys.length->(∀(i:Nat) (n:ze),ns[i]? =some n->n≠t->xs[i]? =ys[i]?)->zyj t es es'->zyj t (yk ns xs es) (yk ns ys es')
 | [],xs,ys,es,es',_,_,h=>by cases xs<;>cases ys<;>exact h
 | _::_,[],[],es,es',_,_,h=>h
 | _::_,[],_::_,_,_,hl,_,_=>by simp at hl
 | _::_,_::_,[],_,_,hl,_,_=>by simp at hl
 |n::ns,x::xs,y::ys,es,es',hl,hv,h=>
  zpo ns xs ys _ _ (by simpa using hl) (fun i m h1 h2=>by simpa using hv (i+1) m (by simpa using h1) h2) (zxz h n fun c=>by simpa using hv 0 n rfl c)
theorem zh6 {k n:Int} {l:List Ex} {y:Ex} (hk:k≠2) (hy:y∈zfe (opE k n l)) (h2:y.k=2):y∈zdp l:=by
 simp only[opE,zfe,List.mem_cons]at hy;rcases hy with rfl|hy
 ·exact absurd h2 hk
 ·exact hy
theorem ng_w:zff wI0=wI0:=by simp[zff,zq6]
theorem qc6 {k n p:Int} {y:Iv} (hk:K1 k\/k=8\/K2 k):apI fxA k n wI0 y p=wI0:=by
 have e3: ∀z,uk wI0 z p=wI0:=fun z=>by simp[uk,zq6]
 unfold K1 K2 at hk;obtain rfl|rfl|rfl|rfl|rfl|rfl|rfl|rfl|rfl|rfl|rfl:k=3\/k=4\/k=5\/k=6\/k=7\/k=8\/k=9\/k=10\/k=11\/k=12\/k=13:=by omega
 ·exact e3 y
 ·exact e3 (zff y)
 ·show zac wI0 y p=wI0;simp[zac,zq6]
 ·show ym wI0 y p=wI0;simp[ym,zq6]
 ·exact ng_w
 ·show zkk wI0 n p=wI0;simp[zkk,zq6]
 ·show zrb wI0 p=wI0;simp[zrb,ftB,zq6]
 ·show zrp wI0 p=wI0;simp[zrp,ftB,zq6]
 ·show ciI wI0 false p=wI0;simp[ciI,zq6]
 ·show ciI wI0 true p=wI0;simp[ciI,zq6]
 ·show zcz wI0 p=wI0;simp[zcz,zq6]
theorem ap_w2 {k n p:Int} {x:Iv} (hk:K2 k):apI fxA k n x wI0 p=wI0:=by
 have e3:uk x wI0 p=wI0:=by simp[uk,zq6]
 unfold K2 at hk;obtain rfl|rfl|rfl|rfl:=hk
 ·exact e3
 ·show uk x (zff wI0) p=wI0;rw[ng_w,e3]
 ·show zac x wI0 p=wI0;simp[zac,zq6]
 ·show ym x wI0 p=wI0;simp[ym,zq6]
theorem okw:okI wI0=wI0:=by unfold okI;split<;>rfl
theorem zun {p:Int} {t:ze} {es:za5} (h:zb4 .str t zI es=wI0) {K:Int->Prop} {e:Ex} (he:VK K e):(∃y∈zfe e,y.k=2/\y.s=t)->(evE fxA p es e).2=true->(evE fxA p es e).1=wI0:=by
 induction he with
 |num r _=>
  rintro⟨y,hy,h1,_⟩ _;simp[zhs,zfe,zdp]at hy;subst hy;cases h1
 |var s _=>
  rintro⟨y,hy,_,h2⟩ _;simp[zi5,zfe,zdp]at hy;subst hy;obtain rfl:s=t:=h2;rw[ziw,h];exact okw
 |un k a _ h1 _ ih=>
  rintro⟨y,hy,h2,h3⟩ hv;have hk:k≠1/\k≠2:=by unfold K1 at h1;omega
  have:=zh6 hk.2 hy h2;rw[za2 _ _ _ _ _ _ hk]at hv⊢;split at hv
  ·rename_i c;rw[if_pos c,ih ⟨y,by simpa[zdp]using this,h2,h3⟩ c];exact qc6 (k:=k) (n:=0) (p:=p) (y:=zI) (.inl h1)
  ·cases hv
 |pow n a _ _ _ _ ih=>
  rintro⟨y,hy,h2,h3⟩ hv;have:=zh6 (by decide) hy h2;rw[za2 _ _ _ _ _ _ (by decide)]at hv⊢;split at hv
  ·rename_i c;rw[if_pos c,ih ⟨y,by simpa[zdp]using this,h2,h3⟩ c];exact qc6 (k:=8) (n:=n) (p:=p) (y:=zI) (.inr (.inl rfl))
  ·cases hv
 |bin k a b _ h1 _ _ ih1 ih2=>
  rintro⟨y,hy,h2,h3⟩ hv;have hk:k≠1/\k≠2:=by unfold K2 at h1;omega
  have:=zh6 hk.2 hy h2;simp only[zdp,List.append_nil,List.mem_append]at this;rw[zix _ _ _ _ _ _ _ hk]at hv⊢;split at hv
  ·rename_i c1;split at hv
   ·rename_i c2;rw[if_pos c1,if_pos c2];rcases this with hm|hm
    ·rw[ih1 ⟨y,hm,h2,h3⟩ c1];exact qc6 (.inr (.inr h1))
    ·rw[ih2 ⟨y,hm,h2,h3⟩ c2];exact ap_w2 h1
   ·cases hv
  ·cases hv
theorem zwb: ∀ {e:Ex},VT e->VK Kt e
 | _,.num r h=> .num r h
 | _,.var s h=> .var s h
 | _,.un k a h1 h2=> .un k a (by unfold K1 at h1;unfold Kt;omega) h1 (zwb h2)
 | _,.pow n a h1 h2 h3=> .pow n a (by unfold Kt;omega) h1 h2 (zwb h3)
 | _,.bin k a b h1 h2 h3=> .bin k a b (by unfold K2 at h1;unfold Kt;omega) h1 (zwb h2) (zwb h3)
theorem zmv {xs:List Iv} {i:Nat} {v:Iv} (h:i<xs.length):(xs.set i v)[i]? =some v:=by rw[List.getElem?_set_self h]
theorem zqp {P:Program} {T:Tab} {res:List ResultVar} {ex:List Nat} {rv:AV} {H':Hp} {c:Code} {σ:St} (is:List Nat) (h:zeo is σ fun τ=>SemOK P T res ex rv H' c τ):SemOK P T res ex rv H' c σ:=
 ⟨fun c0 a w Q hr hq=>by
  obtain⟨τ,hr',hk⟩:=ui hr h;exact hk.sem c0 a w Q hr' hq⟩
theorem x90 (l:List ze) (s:ze) (hlen:l.length<9223372036854775808):Fn 109 [] [.sl .str l,.str s] (.int .i64 (ixP (eqS s) l 0)) []:=by
 refine fnT hT8 hmx Tryz.func109 rfl rfl (ex:= []) ?_;conv=>whnf
 refine⟨Nat,fun i=>i<=l.length/\ixP (eqS s) (l.drop i) i=ixP (eqS s) l 0,fun i=> [(8,.int .i64 i)],fun _=> [],fun i=>l.length-i,0,⟨by simp,rfl⟩,?_,fun i hi=>?_⟩
 ·((conv=>whnf);refine And.intro ?_ ?_;repeat' first|refine lc ?_ ?_|exact la0|exact lr rfl|exact ln0|refine lh1 ?_ ?_|exact lh0|exact bf0|exact bd0|refine bc0 ?_|exact bm0 rfl|exact bg0 rfl|exact li0 rfl|refine lg0 ?_|refine lt0 ?_|fail)
 (refine⟨by kernel_rfl,?_⟩;(conv=>whnf))
 obtain⟨hi1,hi2⟩:=hi;refine brI (fun h1=>?_) (fun h1=>?_)
 ·conv=>whnf
  have hi:i<l.length:=by simp only[decide_eq_true_eq]at h1;omega
  refine⟨⟨by omega,by omega⟩,fun x hx=>?_⟩;have hx:l[i]? =some x:=by simpa using hx
  rw[wq hx]at hi2;simp only[ixP]at hi2;conv=>whnf
  refine brI (fun h2=>?_) (fun h2=>?_)
  ·conv=>whnf
   have h2:eqS s x=true:=h2;rw[if_pos h2]at hi2;exact⟨ai0 hi2,lh0⟩
  ·conv=>whnf
   have h2:eqS s x=false:=h2;rw[if_neg (by rw[h2];simp)]at hi2;refine⟨i+1,⟨by omega,hi2⟩,by show l.length-(i+1)<l.length-i;omega,?_⟩
   ((conv=>whnf);refine And.intro ?_ ?_;repeat' first|refine lc ?_ ?_|exact la0|exact lr rfl|exact ln0|refine lh1 ?_ ?_|exact lh0|exact bf0|exact bd0|refine bc0 ?_|exact bm0 rfl|exact bg0 rfl|exact li0 rfl|refine lg0 ?_|refine lt0 ?_|fail)
   exact ai0 (by rw[wI (by omega)];omega)
 ·conv=>whnf
  have hi: ¬i<l.length:=by simp only[decide_eq_false_iff_not]at h1;omega
  rw[List.drop_of_length_le (by omega)]at hi2;exact⟨ai0 hi2,lh0⟩
theorem x38 (l:List ze) (s:ze) (hlen:l.length<9223372036854775808):Fn 41 [] [.sl .str l,.str s] (.bool (decide (s∈l))) []:=by
 refine fnT hT8 hmx Tryz.func41 rfl rfl (ex:= []) ?_;conv=>whnf
 refine gZn (x90 l s hlen) ?_;conv=>whnf
 refine⟨ab0 ?_,lh0⟩;rw[Bool.eq_iff_iff,decide_eq_true_eq,decide_eq_true_eq];refine(zj2 (eqS s) l 0).trans ?_;rw[List.any_eq_true];constructor
 ·rintro⟨x,hx,h⟩;rw[show s=x from beq_iff_eq.1 h];exact hx
 ·exact fun h=>⟨s,h,beq_iff_eq.2 rfl⟩
theorem x103 (d:Dy) (hl:d.m.length<9223372036854775808):Fn 174 [] [.agg (dyC d),.agg (dyC d)] (.bool true) []:=by
 have h:=y59 d.m hl;obtain⟨s,m,e⟩:=d;cases s
 all_goals
  refine fnT hT8 hmx Tryz.func174 rfl rfl (ex:= []) ?_;conv=>whnf
  refine brI (fun _=>?_) (fun c=>?_)
  rotate_left
  ·exact absurd (show(e==e)=true by simp) (by rw[show(e==e)=false from c];simp)
  conv=>whnf
  refine brI (fun _=>?_) (fun c=>?_)
  rotate_left
  ·exact absurd (show((m.length:Int)==(m.length:Int))=true by simp) (by rw[show((m.length:Int)==(m.length:Int))=false from c];simp)
  conv=>whnf
  refine gZn h ?_;conv=>whnf
  exact⟨lr rfl,lh0⟩
theorem x20 (x:Iv) (h1:x.lo.m.length<9223372036854775808) (h2:x.hi.m.length<9223372036854775808):Fn 38 [] [.agg (ivC x),.agg (ivC x)] (.bool true) []:=by
 have c1:=x103 x.lo h1;have c2:=x103 x.hi h2;have h:Fn 92 [] [.agg (ivC x),.agg (ivC x)] (.bool true) []:=by
  obtain⟨a,b,c⟩:=x;cases c
  all_goals
   refine fnT hT8 hmx Tryz.func92 rfl rfl (ex:= []) ?_;conv=>whnf
   refine gZn c1 ?_;conv=>whnf
   refine gZn c2 ?_;conv=>whnf
   exact⟨lr rfl,lh0⟩
 refine fnT hT8 hmx Tryz.func38 rfl rfl (ex:= []) ?_;conv=>whnf
 refine gZn h ?_;conv=>whnf
 exact⟨lr rfl,lh0⟩
theorem x16 (e:Ex) (he:Sm e) (ns:List ze) (xs:List Iv) (hx: ∀x∈xs,RI x) (h1:ns.length<9223372036854775808) (h2:xs.length<9223372036854775808) (p:Int):
 Fn 32 G0 [.agg (exC e),.sl .str ns,.sl .iv xs,.int .i64 p] (.agg (ivC (zfo fxA e ns xs p))) G0:=i8 (fun p _=>ApKt p) e he (fun h=>zwb (zbg h)) ns xs hx h1 h2 p
theorem zz4 (e:Ex) (ns:List ze) (xs:List Iv) (hx: ∀x∈xs,RI x) (p:Int):RI (zfo fxA e ns xs p):=by
 unfold zfo;split
 ·rename_i c;exact(i26 c.1.2.2 (ApKt p) (zfz ns xs [] hx fun q hq=>by cases hq) (zwb (zbg c.1.2.1))).2
 ·exact zn1
end Go.Proofs.YtbolipecnhlnnaaGreatDoor
