/-
  evaluate.Apply for all operations.
-/
import Derived.Test.YtajnlbbgolmklaaGreatDoorQXf
import Derived.Test.YtajnlbbgolmklaaGreatDoorQXh
import Derived.Test.YtajnlbbgolmklaaGreatDoorQXa
import Derived.Test.YtajnlbbgolmklaaGreatDoorQV22
import Derived.Test.YtajnlbbgolmklaaGreatDoorQWx
import Derived.Test.YtajnlbbgolmklaaGreatDoorQX2
set_option linter.unusedVariables false
set_option linter.unusedSimpArgs false
namespace Go.Proofs.YtajnlbbgolmklaaGreatDoor
open Go Go.Sx
set_option maxRecDepth 100000
set_option maxHeartbeats 8000000
def fxA (k:Int) (x:Iv) (p:Int):Iv:=if k=9 then zqh x p else if k=10 then zqe x p else if k=11 then ciI x false p else ciI x true p
def Kt (k:Int):Prop:=3≤k∧k≤13
theorem qe0 (k:Int) {x:Iv} (hx:RI x) (p:Int):CI (fxA k x p):=by
 unfold fxA
 split
 ·exact qe1 _ _
 split
 ·exact qew _ _
 split
 ·exact qe4 hx _ _
 ·exact qe4 hx _ _
theorem x25 (k n:Int) (x y:Iv) (hx:RI x) (p:Int) (hk:k=9∨k=10∨k=11∨k=12):Fn 25 G0 [.int .i64 k,.int .i64 n,.agg (ivC x),.agg (ivC y),.int .i64 p] (.agg (ivC (fxA k x p))) G0:=by
 have a1:=x33 x hx p
 have a2:=x34 x hx p
 have a3:=c35 x hx p
 have a4:=c36 x hx p
 rcases hk with rfl|rfl|rfl|rfl
 ·show Fn 25 G0 _ (.agg (ivC (zqh x p))) G0
  generalize zqh x p=R at*
  refine fnT hT6 hmx Tryz.func25 rfl rfl (ex:= []) ?_;conv=>whnf
  refine gZc a1 ?_;conv=>whnf
  exact⟨lr rfl,leG⟩
 ·show Fn 25 G0 _ (.agg (ivC (zqe x p))) G0
  generalize zqe x p=R at*
  refine fnT hT6 hmx Tryz.func25 rfl rfl (ex:= []) ?_;conv=>whnf
  refine gZc a2 ?_;conv=>whnf
  exact⟨lr rfl,leG⟩
 ·show Fn 25 G0 _ (.agg (ivC (ciI x false p))) G0
  generalize ciI x false p=R at*
  refine fnT hT6 hmx Tryz.func25 rfl rfl (ex:= []) ?_;conv=>whnf
  refine gZc a3 ?_;conv=>whnf
  exact⟨lr rfl,leG⟩
 ·show Fn 25 G0 _ (.agg (ivC (ciI x true p))) G0
  generalize ciI x true p=R at*
  refine fnT hT6 hmx Tryz.func25 rfl rfl (ex:= []) ?_;conv=>whnf
  refine gZc a4 ?_;conv=>whnf
  exact⟨lr rfl,leG⟩
theorem x25w (k n:Int) (x y:Iv) (p:Int) (hk:k=1∨k=2∨k=0∨k=14):Fn 25 G0 [.int .i64 k,.int .i64 n,.agg (ivC x),.agg (ivC y),.int .i64 p] (.agg (ivC wI0)) G0:=by
 have h25:=i25
 rw[e25]at h25
 rcases hk with rfl|rfl|rfl|rfl
 all_goals
  refine fnT hT6 hmx Tryz.func25 rfl rfl (ex:= []) ?_;conv=>whnf
  refine gZn h25 ?_;conv=>whnf
  exact⟨lr rfl,leG⟩
theorem ApKt (p:Int):ApK fxA Kt p:=fun k n x y hk hx hy=>by
 by_cases h:9≤k∧k≤12
 ·have e:apI fxA k n x y p=fxA k x p:=by
   unfold apI
   rw[if_neg (by omega),if_neg (by omega),if_neg (by omega),if_neg (by omega),if_neg (by omega),if_neg (by omega),if_neg (by omega),if_pos h]
  rw[e]
  exact⟨x25 k n x y hx p (by omega),qe0 k hx p⟩
 ·have hk:Ka k:=by unfold Kt at hk;unfold Ka;omega
  exact⟨i52 hk n x y hx hy p,qe6 hk n y p hx⟩
end Go.Proofs.YtajnlbbgolmklaaGreatDoor

namespace Go.Proofs.YtajnlbbgolmklaaGreatDoor
open Go Go.Sx
set_option maxHeartbeats 2000000
theorem gput {V:Type} (x y:zd) (r z:V): ∀es:List (zd×V),zc6 .str x z (zak .str y r es)=if x=y then r else zc6 .str x z es
 | []=>by
   simp only[zak,zc6,zaw]
   by_cases h:x=y<;>simp[h]
 |(k,v)::es=>by
  simp only[zak]
  by_cases h:y=k
  ·subst h
   rw[show zhl .str y y=true by rw[zaw];simp]
   simp only[cond_true,zc6,zaw]
   by_cases h2:x=y<;>simp[h2]
  ·rw[show zhl .str y k=false by rw[zaw];simp[h]]
   simp only[cond_false,zc6,zaw]
   by_cases h2:x=k
   ·subst h2
    have: ¬x=y:=fun c=>h c.symm
    simp[this]
   ·simp[h2,gput x y r z es]
theorem qbj {V:Type} (x y:zd) (r:V): ∀es:List (zd×V),zcp .str x (zak .str y r es)=(decide (x=y)||zcp .str x es)
 | []=>by simp[zak,zcp,zaw]
 |(k,v)::es=>by
  simp only[zak]
  by_cases h:y=k
  ·subst h
   rw[show zhl .str y y=true by rw[zaw];simp]
   simp only[cond_true,zcp,zaw]
   by_cases h2:x=y<;>simp[h2]
  ·rw[show zhl .str y k=false by rw[zaw];simp[h]]
   simp only[cond_false,zcp,zaw,qbj x y r es]
   by_cases h2:x=k<;>simp[h2]
theorem lput {V:Type} (y:zd) (r:V): ∀es:List (zd×V),(zak .str y r es).length =if zcp .str y es=true then es.length else es.length+1
 | []=>by simp[zak,zcp]
 |(k,v)::es=>by
  have ih:=lput y r es
  cases c:zhl .str y k<;>cases d:zcp .str y es<;>simp[zak,zcp,c,d,ih]
theorem zml: ∀(ns:List zd) (xs:List Iv) (es:zan),(ym ns xs es).length ≤es.length+ns.length
 | [],xs,es=>by cases xs<;>simp[ym]
 | _::_,[],es=>by simp[ym]
 |n::ns,x::xs,es=>by
  have h1:=zml ns xs (zak .str n x es)
  have h2:=zc5 n x es
  simp only[ym,List.length_cons]
  omega
theorem zoc {t:zd}: ∀(ns:List zd) (xs:List Iv) (es:zan),(ym ns xs es).length =es.length+ns.length→zcp .str t es=true→zc6 .str t zI (ym ns xs es)=zc6 .str t zI es
 | [],xs,es,_,_=>by cases xs<;>rfl
 |n::ns,[],es,h,_=>rfl
 |n::ns,x::xs,es,h,ht=>by
  have h1:=zml ns xs (zak .str n x es)
  have h2:=lput n x es
  simp only[ym,List.length_cons]at h⊢
  have hn:zcp .str n es=false:=by
   cases c:zcp .str n es with
   |false=>rfl
   |true=>rw[if_pos c]at h2;omega
  rw[if_neg (by simp[hn])]at h2
  rw[zoc ns xs _ (by omega) (by rw[qbj,ht];simp),gput,if_neg (by rintro rfl;rw[hn]at ht;cases ht)]
theorem zxn {t:zd} {v:Iv}: ∀(ns:List zd) (xs:List Iv) (es:zan) (i:Nat),ns[i]? =some t→xs[i]? =some v→(ym ns xs es).length =es.length+ns.length→zc6 .str t zI (ym ns xs es)=v
 | [],_,_,_,h,_,_=>by simp at h
 | _::_,[],_,_,_,h,_=>by simp at h
 |n::ns,x::xs,es,i,h,g,hl=>by
  have h1:=zml ns xs (zak .str n x es)
  have h2:=zc5 n x es
  simp only[ym,List.length_cons]at hl⊢
  cases i with
  |zero=>
   simp at h g
   subst h;subst g
   rw[zoc ns xs _ (by omega) (by rw[qbj];simp),gput,if_pos rfl]
  |succ i=>exact zxn ns xs _ i (by simpa using h) (by simpa using g) (by omega)
def zws (t:zd) (es es':zan):Prop:=All2 (fun a b=>a.1=b.1∧(a.1≠t→a.2=b.2)) es es'
theorem zv8 {t:zd} {es es':zan} (h:zws t es es'):es.length=es'.length:=by
 induction h with
 |nil=>rfl
 |cons _ _ ih=>simp[ih]
theorem zv9 {t:zd} {es es':zan} (h:zws t es es') (s:zd):zcp .str s es=zcp .str s es':=by
 induction h with
 |nil=>rfl
 |cons hab _ ih=>
  rename_i a b l l' _
  obtain⟨y,v⟩:=a
  obtain⟨y',v'⟩:=b
  obtain⟨rfl,_⟩:=hab
  simp only[zcp,ih]
theorem zwa {t:zd} {es es':zan} (h:zws t es es') {s:zd} (hs:s≠t):zc6 .str s zI es=zc6 .str s zI es':=by
 induction h with
 |nil=>rfl
 |cons hab _ ih=>
  rename_i a b l l' _
  obtain⟨y,v⟩:=a
  obtain⟨y',v'⟩:=b
  obtain⟨rfl,h2⟩:=hab
  simp only[zc6,zaw]
  by_cases c:s=y
  ·subst c
   have:=h2 hs
   simp only at this
   simp[this]
  ·simp[c,ih]
theorem zv7 {t:zd} {es es':zan} (h:zws t es es') (n:zd) {x y:Iv} (hxy:n≠t→x=y):zws t (zak .str n x es) (zak .str n y es'):=by
 induction h with
 |nil=>exact .cons ⟨rfl,hxy⟩ .nil
 |cons hab ht ih=>
  rename_i a b l l'
  obtain⟨k,v⟩:=a
  obtain⟨k',v'⟩:=b
  obtain⟨rfl,h2⟩:=hab
  simp only[zak]
  cases zhl .str n k with
  |true=>exact .cons ⟨rfl,hxy⟩ ht
  |false=>exact .cons ⟨rfl,h2⟩ ih
theorem zoi {t:zd}: ∀(ns:List zd) (xs ys:List Iv) (es es':zan),xs.length=ys.length→(∀(i:Nat) (n:zd),ns[i]? =some n→n≠t→xs[i]? =ys[i]?)→zws t es es'→zws t (ym ns xs es) (ym ns ys es')
 | [],xs,ys,es,es',_,_,h=>by cases xs<;>cases ys<;>exact h
 | _::_,[],[],es,es',_,_,h=>h
 | _::_,[],_::_,_,_,hl,_,_=>by simp at hl
 | _::_,_::_,[],_,_,hl,_,_=>by simp at hl
 |n::ns,x::xs,y::ys,es,es',hl,hv,h=>
  zoi ns xs ys _ _ (by simpa using hl) (fun i m h1 h2=>by simpa using hv (i+1) m (by simpa using h1) h2) (zv7 h n fun c=>by simpa using hv 0 n rfl c)
theorem zrz {k n:Int} {l:List Ex} {y:Ex} (hk:k≠2) (hy:y∈um (opE k n l)) (h2:y.k=2):y∈xm l:=by
 simp only[opE,um,List.mem_cons]at hy
 rcases hy with rfl|hy
 ·exact absurd h2 hk
 ·exact hy
theorem zz7 {fx:Int→Iv→Int→Iv} {p:Int} {t:zd} {es es':zan} (h:zws t es es') {K:Int→Prop} {e:Ex} (he:VK K e):(∀y∈um e,y.k=2→y.s≠t)→evE fx p es e=evE fx p es' e:=by
 induction he with
 |num r _=>intro _;rw[zky,zky]
 |var s _=>
  intro hn
  have hs:s≠t:=hn (zgr s) (by simp[zgr,um,xm]) rfl
  rw[zh1,zh1,zv9 h,zwa h hs]
 |un k a _ h1 _ ih=>
  intro hn
  have hk:k≠1∧k≠2:=by unfold K1 at h1;omega
  rw[zah _ _ _ _ _ _ hk,zah _ _ _ _ _ _ hk,ih fun y hy c=>hn y (by simp only[opE,um,xm,List.mem_cons,List.append_nil];exact .inr hy) c]
 |pow n a _ _ _ _ ih=>
  intro hn
  rw[zah _ _ _ _ _ _ (by decide),zah _ _ _ _ _ _ (by decide),ih fun y hy c=>hn y (by simp only[opE,um,xm,List.mem_cons,List.append_nil];exact .inr hy) c]
 |bin k a b _ h1 _ _ ih1 ih2=>
  intro hn
  have hk:k≠1∧k≠2:=by unfold K2 at h1;omega
  rw[zh2 _ _ _ _ _ _ _ hk,zh2 _ _ _ _ _ _ _ hk,ih1 fun y hy c=>hn y (by simp only[opE,um,xm,List.mem_cons,List.append_nil,List.mem_append];exact .inr (.inl hy)) c,
   ih2 fun y hy c=>hn y (by simp only[opE,um,xm,List.mem_cons,List.append_nil,List.mem_append];exact .inr (.inr hy)) c]
theorem ng_w:zgp wI0=wI0:=by simp[zgp,zpw]
theorem zp7 {k n p:Int} {y:Iv} (hk:K1 k∨k=8∨K2 k):apI fxA k n wI0 y p=wI0:=by
 have e3: ∀z,kz wI0 z p=wI0:=fun z=>by simp[kz,zpw]
 unfold K1 K2 at hk
 obtain rfl|rfl|rfl|rfl|rfl|rfl|rfl|rfl|rfl|rfl|rfl:k=3∨k=4∨k=5∨k=6∨k=7∨k=8∨k=9∨k=10∨k=11∨k=12∨k=13:=by omega
 ·exact e3 y
 ·exact e3 (zgp y)
 ·show xp wI0 y p=wI0;simp[xp,zpw]
 ·show uw wI0 y p=wI0;simp[uw,zpw]
 ·exact ng_w
 ·show zqb wI0 n p=wI0;simp[zqb,zpw]
 ·show zqh wI0 p=wI0;simp[zqh,ftB,zpw]
 ·show zqe wI0 p=wI0;simp[zqe,ftB,zpw]
 ·show ciI wI0 false p=wI0;simp[ciI,zpw]
 ·show ciI wI0 true p=wI0;simp[ciI,zpw]
 ·show zej wI0 p=wI0;simp[zej,zpw]
theorem ap_w2 {k n p:Int} {x:Iv} (hk:K2 k):apI fxA k n x wI0 p=wI0:=by
 have e3:kz x wI0 p=wI0:=by simp[kz,zpw]
 unfold K2 at hk
 obtain rfl|rfl|rfl|rfl:=hk
 ·exact e3
 ·show kz x (zgp wI0) p=wI0;rw[ng_w,e3]
 ·show xp x wI0 p=wI0;simp[xp,zpw]
 ·show uw x wI0 p=wI0;simp[uw,zpw]
theorem okw:okI wI0=wI0:=by unfold okI;split<;>rfl
theorem ztb {p:Int} {t:zd} {es:zan} (h:zc6 .str t zI es=wI0) {K:Int→Prop} {e:Ex} (he:VK K e):(∃y∈um e,y.k=2∧y.s=t)→(evE fxA p es e).2=true→(evE fxA p es e).1=wI0:=by
 induction he with
 |num r _=>
  rintro⟨y,hy,h1,_⟩ _
  simp[zik,um,xm]at hy
  subst hy
  cases h1
 |var s _=>
  rintro⟨y,hy,_,h2⟩ _
  simp[zgr,um,xm]at hy
  subst hy
  obtain rfl:s=t:=h2
  rw[zh1,h]
  exact okw
 |un k a _ h1 _ ih=>
  rintro⟨y,hy,h2,h3⟩ hv
  have hk:k≠1∧k≠2:=by unfold K1 at h1;omega
  have:=zrz hk.2 hy h2
  rw[zah _ _ _ _ _ _ hk]at hv⊢
  split at hv
  ·rename_i c
   rw[if_pos c,ih ⟨y,by simpa[xm]using this,h2,h3⟩ c]
   exact zp7 (k:=k) (n:=0) (p:=p) (y:=zI) (.inl h1)
  ·cases hv
 |pow n a _ _ _ _ ih=>
  rintro⟨y,hy,h2,h3⟩ hv
  have:=zrz (by decide) hy h2
  rw[zah _ _ _ _ _ _ (by decide)]at hv⊢
  split at hv
  ·rename_i c
   rw[if_pos c,ih ⟨y,by simpa[xm]using this,h2,h3⟩ c]
   exact zp7 (k:=8) (n:=n) (p:=p) (y:=zI) (.inr (.inl rfl))
  ·cases hv
 |bin k a b _ h1 _ _ ih1 ih2=>
  rintro⟨y,hy,h2,h3⟩ hv
  have hk:k≠1∧k≠2:=by unfold K2 at h1;omega
  have:=zrz hk.2 hy h2
  simp only[xm,List.append_nil,List.mem_append]at this
  rw[zh2 _ _ _ _ _ _ _ hk]at hv⊢
  split at hv
  ·rename_i c1
   split at hv
   ·rename_i c2
    rw[if_pos c1,if_pos c2]
    rcases this with hm|hm
    ·rw[ih1 ⟨y,hm,h2,h3⟩ c1];exact zp7 (.inr (.inr h1))
    ·rw[ih2 ⟨y,hm,h2,h3⟩ c2];exact ap_w2 h1
   ·cases hv
  ·cases hv
theorem zmx: ∀ {e:Ex},VT e→VK Kt e
 | _,.num r h=> .num r h
 | _,.var s h=> .var s h
 | _,.un k a h1 h2=> .un k a (by unfold K1 at h1;unfold Kt;omega) h1 (zmx h2)
 | _,.pow n a h1 h2 h3=> .pow n a (by unfold Kt;omega) h1 h2 (zmx h3)
 | _,.bin k a b h1 h2 h3=> .bin k a b (by unfold K2 at h1;unfold Kt;omega) h1 (zmx h2) (zmx h3)
theorem zyx {xs:List Iv} {i:Nat} {v:Iv} (h:i<xs.length):(xs.set i v)[i]? =some v:=by rw[List.getElem?_set_self h]
theorem zpl {e:Ex} {ns:List zd} {xs:List Iv} {p:Int} {i:Nat} {t:zd} (hi:ns[i]? =some t) (hl:ns.length=xs.length) (hok:okT e=true) (ht:t∈nmE e):(zb0 fxA e ns (xs.set i wI0) p).all =true:=by
 unfold zb0
 by_cases c:(enB ns (xs.set i wI0)=true∧okT e=true∧pcB p=true)∧(evE fxA p (ym ns (xs.set i wI0) []) e).2=true
 ·rw[if_pos c]
  have hb:=c.1.1
  unfold enB at hb
  have hb:=of_decide_eq_true hb
  have hil:i<xs.length:=by
   have:=(List.getElem?_eq_some_iff.1 hi).1
   omega
  rw[ztb (zxn ns _ [] i hi (zyx hil) (by rw[hb.2.2,←hb.1];simp)) (zmx (zaf hok)) ((zl1 hok).1 ht) c.2]
  rfl
 ·rw[if_neg c];rfl
theorem zr2 {e:Ex} {ns:List zd} {xs:List Iv} {p:Int} {i:Nat} {t:zd} {o:Iv} (hi:ns[i]? =some t) (hok:okT e=true) (ht:t∉nmE e):zb0 fxA e ns (xs.set i o) p=zb0 fxA e ns xs p:=by
 have hD:zws t (ym ns xs []) (ym ns (xs.set i o) []):=zoi ns xs _ [] [] (by simp) (fun j n h1 h2=>by
  by_cases hj:i=j
  ·subst hj
   rw[hi]at h1
   exact absurd (Option.some.inj h1).symm h2
  ·rw[List.getElem?_set_ne hj]) .nil
 have hE:enB ns (xs.set i o)=enB ns xs:=by
  unfold enB
  rw[zv8 hD,List.length_set]
 have hv:=zz7 (fx:=fxA) (p:=p) hD (zmx (zaf hok)) fun y hy h2 h3=>ht ((zl1 hok).2 ⟨y,hy,h2,h3⟩)
 unfold zb0
 rw[hE,hv]
end Go.Proofs.YtajnlbbgolmklaaGreatDoor

namespace Go.Proofs.YtajnlbbgolmklaaGreatDoor
open Go Go.Sx
set_option maxRecDepth 100000
set_option maxHeartbeats 8000000
theorem x90 (l:List zd) (s:zd) (hlen:l.length<9223372036854775808):Fn 90 [] [.sl .str l,.str s] (.int .i64 (ixP (eqS s) l 0)) []:=by
 refine fnT hT8 hmx Tryz.func90 rfl rfl (ex:= []) ?_;conv=>whnf
 refine⟨Nat,fun i=>i≤l.length∧ixP (eqS s) (l.drop i) i=ixP (eqS s) l 0,fun i=> [(8,.int .i64 i)],fun _=> [],fun i=>l.length-i,0,⟨by simp,rfl⟩,?_,fun i hi=>?_⟩
 ·((conv=>whnf);refine And.intro ?_ ?_;repeat' first|refine lc ?_ ?_|exact la0|exact lr rfl|exact ln0|refine lh1 ?_ ?_|exact lh0|exact bf0|exact bd0|refine bc0 ?_|exact bm0 rfl|exact bg0 rfl|exact li0 rfl|refine lg0 ?_|refine lt0 ?_|fail)
 (refine⟨by kernel_rfl,?_⟩;(conv=>whnf))
 obtain⟨hi1,hi2⟩:=hi
 refine brI (fun h1=>?_) (fun h1=>?_)
 ·conv=>whnf
  have hi:i<l.length:=by simp only[decide_eq_true_eq]at h1;omega
  refine⟨⟨by omega,by omega⟩,fun x hx=>?_⟩
  have hx:l[i]? =some x:=by simpa using hx
  rw[ql hx]at hi2
  simp only[ixP]at hi2
  conv=>whnf
  refine brI (fun h2=>?_) (fun h2=>?_)
  ·conv=>whnf
   have h2:eqS s x=true:=h2
   rw[if_pos h2]at hi2
   exact⟨ai0 hi2,lh0⟩
  ·conv=>whnf
   have h2:eqS s x=false:=h2
   rw[if_neg (by rw[h2];simp)]at hi2
   refine⟨i+1,⟨by omega,hi2⟩,by show l.length-(i+1)<l.length-i;omega,?_⟩
   ((conv=>whnf);refine And.intro ?_ ?_;repeat' first|refine lc ?_ ?_|exact la0|exact lr rfl|exact ln0|refine lh1 ?_ ?_|exact lh0|exact bf0|exact bd0|refine bc0 ?_|exact bm0 rfl|exact bg0 rfl|exact li0 rfl|refine lg0 ?_|refine lt0 ?_|fail)
   exact ai0 (by rw[wI (by omega)];omega)
 ·conv=>whnf
  have hi: ¬i<l.length:=by simp only[decide_eq_false_iff_not]at h1;omega
  rw[List.drop_of_length_le (by omega)]at hi2
  exact⟨ai0 hi2,lh0⟩
theorem x38 (l:List zd) (s:zd) (hlen:l.length<9223372036854775808):Fn 38 [] [.sl .str l,.str s] (.bool (decide (s∈l))) []:=by
 refine fnT hT8 hmx Tryz.func38 rfl rfl (ex:= []) ?_;conv=>whnf
 refine gZn (x90 l s hlen) ?_;conv=>whnf
 refine⟨ab0 ?_,lh0⟩
 rw[Bool.eq_iff_iff,decide_eq_true_eq,decide_eq_true_eq]
 refine(zfu (eqS s) l 0).trans ?_
 rw[List.any_eq_true]
 constructor
 ·rintro⟨x,hx,h⟩
  rw[show s=x from beq_iff_eq.1 h];exact hx
 ·exact fun h=>⟨s,h,beq_iff_eq.2 rfl⟩
theorem x103 (d:Dy) (hl:d.m.length≤1000000):Fn 103 [] [.agg (dyC d),.agg (dyC d)] (.bool true) []:=by
 have h:=y59 d.m hl
 obtain⟨s,m,e⟩:=d
 cases s
 all_goals
  refine fnT hT8 hmx Tryz.func103 rfl rfl (ex:= []) ?_;conv=>whnf
  refine brI (fun _=>?_) (fun c=>?_)
  rotate_left
  ·exact absurd (show(e==e)=true by simp) (by rw[show(e==e)=false from c];simp)
  conv=>whnf
  refine brI (fun _=>?_) (fun c=>?_)
  rotate_left
  ·exact absurd (show((m.length:Int)==(m.length:Int))=true by simp) (by rw[show((m.length:Int)==(m.length:Int))=false from c];simp)
  conv=>whnf
  refine gZn h ?_;conv=>whnf
  exact⟨lr rfl,lh0⟩
theorem x20 (x:Iv) (h1:x.lo.m.length≤1000000) (h2:x.hi.m.length≤1000000):Fn 20 [] [.agg (ivC x),.agg (ivC x)] (.bool true) []:=by
 have c1:=x103 x.lo h1
 have c2:=x103 x.hi h2
 have h:Fn 47 [] [.agg (ivC x),.agg (ivC x)] (.bool true) []:=by
  obtain⟨a,b,c⟩:=x
  cases c
  all_goals
   refine fnT hT8 hmx Tryz.func47 rfl rfl (ex:= []) ?_;conv=>whnf
   refine gZn c1 ?_;conv=>whnf
   refine gZn c2 ?_;conv=>whnf
   exact⟨lr rfl,lh0⟩
 refine fnT hT8 hmx Tryz.func20 rfl rfl (ex:= []) ?_;conv=>whnf
 refine gZn h ?_;conv=>whnf
 exact⟨lr rfl,lh0⟩
theorem x16 (e:Ex) (he:Sm e) (ns:List zd) (xs:List Iv) (hx: ∀x∈xs,RI x) (h1:ns.length<9223372036854775808) (h2:xs.length<9223372036854775808) (p:Int):
 Fn 16 G0 [.agg (exC e),.sl .str ns,.sl .iv xs,.int .i64 p] (.agg (ivC (zb0 fxA e ns xs p))) G0:=i8 (fun p _=>ApKt p) e he (fun h=>zmx (zaf h)) ns xs hx h1 h2 p
theorem zt9 (e:Ex) (ns:List zd) (xs:List Iv) (hx: ∀x∈xs,RI x) (p:Int):RI (zb0 fxA e ns xs p):=by
 unfold zb0
 split
 ·rename_i c
  exact(i26 c.1.2.2 (ApKt p) (zjg ns xs [] hx fun q hq=>by cases hq) (zmx (zaf c.1.2.1))).2
 ·exact zg3
end Go.Proofs.YtajnlbbgolmklaaGreatDoor
