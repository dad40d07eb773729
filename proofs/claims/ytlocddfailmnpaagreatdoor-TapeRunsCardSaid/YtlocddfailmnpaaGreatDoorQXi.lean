/-
  evaluate.Apply for all operations.
-/
import Derived.Test.YtlocddfailmnpaaGreatDoorQXe
import Derived.Test.YtlocddfailmnpaaGreatDoorQXg
import Derived.Test.YtlocddfailmnpaaGreatDoorQXa
import Derived.Test.YtlocddfailmnpaaGreatDoorQWx
import Derived.Test.YtlocddfailmnpaaGreatDoorQUb
set_option linter.unusedVariables false
set_option linter.unusedSimpArgs false
namespace Go.Proofs.YtlocddfailmnpaaGreatDoor
open Go Go.Sx
set_option maxRecDepth 100000
set_option maxHeartbeats 8000000
def fxA (k:Int) (x:Iv) (p:Int):Iv:=if k=9 then zxx x p else if k=10 then zxt x p else if k=11 then ciI x false p else ciI x true p
def Kt (k:Int):Prop:=3≤k∧k≤13
theorem CI_fx (k:Int) {x:Iv} (hx:RI x) (p:Int):CI (fxA k x p):=by
 unfold fxA
 split
 ·exact qfw _ _
 split
 ·exact qfs _ _
 split
 ·exact qfy hx _ _
 ·exact qfy hx _ _
theorem x25 (k n:Int) (x y:Iv) (hx:RI x) (p:Int) (hk:k=9∨k=10∨k=11∨k=12):Fn 13 G0 [.int .i64 k,.int .i64 n,.agg (ivC x),.agg (ivC y),.int .i64 p] (.agg (ivC (fxA k x p))) G0:=by
 have a1:=x33 x hx p
 have a2:=x34 x hx p
 have a3:=c35 x hx p
 have a4:=c36 x hx p
 rcases hk with rfl|rfl|rfl|rfl
 ·show Fn 13 G0 _ (.agg (ivC (zxx x p))) G0
  generalize zxx x p=R at*
  refine fnT hT6 hmx Tryz.func13 rfl rfl (ex:= []) ?_;conv=>whnf
  refine gZc a1 ?_;conv=>whnf
  exact⟨lr rfl,leG⟩
 ·show Fn 13 G0 _ (.agg (ivC (zxt x p))) G0
  generalize zxt x p=R at*
  refine fnT hT6 hmx Tryz.func13 rfl rfl (ex:= []) ?_;conv=>whnf
  refine gZc a2 ?_;conv=>whnf
  exact⟨lr rfl,leG⟩
 ·show Fn 13 G0 _ (.agg (ivC (ciI x false p))) G0
  generalize ciI x false p=R at*
  refine fnT hT6 hmx Tryz.func13 rfl rfl (ex:= []) ?_;conv=>whnf
  refine gZc a3 ?_;conv=>whnf
  exact⟨lr rfl,leG⟩
 ·show Fn 13 G0 _ (.agg (ivC (ciI x true p))) G0
  generalize ciI x true p=R at*
  refine fnT hT6 hmx Tryz.func13 rfl rfl (ex:= []) ?_;conv=>whnf
  refine gZc a4 ?_;conv=>whnf
  exact⟨lr rfl,leG⟩
theorem qb1 (p:Int):ApK fxA Kt p:=fun k n x y hk hx hy=>by
 by_cases h:9≤k∧k≤12
 ·have e:apI fxA k n x y p=fxA k x p:=by
   unfold apI
   rw[if_neg (by omega),if_neg (by omega),if_neg (by omega),if_neg (by omega),if_neg (by omega),if_neg (by omega),if_neg (by omega),if_pos h]
  rw[e]
  exact⟨x25 k n x y hx p (by omega),CI_fx k hx p⟩
 ·have hk:Ka k:=by unfold Kt at hk;unfold Ka;omega
  exact⟨i52 hk n x y hx hy p,CI_ap hk n y p hx⟩
end Go.Proofs.YtlocddfailmnpaaGreatDoor

namespace Go.Proofs.YtlocddfailmnpaaGreatDoor
open Go Go.Sx
set_option maxHeartbeats 2000000
theorem gput {V:Type} (x y:zf) (r z:V): ∀es:List (zf×V),zbd .str x z (yz .str y r es)=if x=y then r else zbd .str x z es
 | []=>by
   simp only[yz,zbd,zb1]
   by_cases h:x=y<;>simp[h]
 |(k,v)::es=>by
  simp only[yz]
  by_cases h:y=k
  ·subst h
   rw[show zft .str y y=true by rw[zb1];simp]
   simp only[cond_true,zbd,zb1]
   by_cases h2:x=y<;>simp[h2]
  ·rw[show zft .str y k=false by rw[zb1];simp[h]]
   simp only[cond_false,zbd,zb1]
   by_cases h2:x=k
   ·subst h2
    have: ¬x=y:=fun c=>h c.symm
    simp[this]
   ·simp[h2,gput x y r z es]
theorem qbw {V:Type} (x y:zf) (r:V): ∀es:List (zf×V),yr .str x (yz .str y r es)=(decide (x=y)||yr .str x es)
 | []=>by simp[yz,yr,zb1]
 |(k,v)::es=>by
  simp only[yz]
  by_cases h:y=k
  ·subst h
   rw[show zft .str y y=true by rw[zb1];simp]
   simp only[cond_true,yr,zb1]
   by_cases h2:x=y<;>simp[h2]
  ·rw[show zft .str y k=false by rw[zb1];simp[h]]
   simp only[cond_false,yr,zb1,qbw x y r es]
   by_cases h2:x=k<;>simp[h2]
theorem lput {V:Type} (y:zf) (r:V): ∀es:List (zf×V),(yz .str y r es).length =if yr .str y es=true then es.length else es.length+1
 | []=>by simp[yz,yr]
 |(k,v)::es=>by
  have ih:=lput y r es
  cases c:zft .str y k<;>cases d:yr .str y es<;>simp[yz,yr,c,d,ih]
theorem zmi: ∀(ns:List zf) (xs:List Iv) (es:zdl),(yt ns xs es).length ≤es.length+ns.length
 | [],xs,es=>by cases xs<;>simp[yt]
 | _::_,[],es=>by simp[yt]
 |n::ns,x::xs,es=>by
  have h1:=zmi ns xs (yz .str n x es)
  have h2:=zcz n x es
  simp only[yt,List.length_cons]
  omega
theorem zof {t:zf}: ∀(ns:List zf) (xs:List Iv) (es:zdl),(yt ns xs es).length =es.length+ns.length→yr .str t es=true→zbd .str t zI (yt ns xs es)=zbd .str t zI es
 | [],xs,es,_,_=>by cases xs<;>rfl
 |n::ns,[],es,h,_=>rfl
 |n::ns,x::xs,es,h,ht=>by
  have h1:=zmi ns xs (yz .str n x es)
  have h2:=lput n x es
  simp only[yt,List.length_cons]at h⊢
  have hn:yr .str n es=false:=by
   cases c:yr .str n es with
   |false=>rfl
   |true=>rw[if_pos c]at h2;omega
  rw[if_neg (by simp[hn])]at h2
  rw[zof ns xs _ (by omega) (by rw[qbw,ht];simp),gput,if_neg (by rintro rfl;rw[hn]at ht;cases ht)]
theorem zxv {t:zf} {v:Iv}: ∀(ns:List zf) (xs:List Iv) (es:zdl) (i:Nat),ns[i]? =some t→xs[i]? =some v→(yt ns xs es).length =es.length+ns.length→zbd .str t zI (yt ns xs es)=v
 | [],_,_,_,h,_,_=>by simp at h
 | _::_,[],_,_,_,h,_=>by simp at h
 |n::ns,x::xs,es,i,h,g,hl=>by
  have h1:=zmi ns xs (yz .str n x es)
  have h2:=zcz n x es
  simp only[yt,List.length_cons]at hl⊢
  cases i with
  |zero=>
   simp at h g
   subst h;subst g
   rw[zof ns xs _ (by omega) (by rw[qbw];simp),gput,if_pos rfl]
  |succ i=>exact zxv ns xs _ i (by simpa using h) (by simpa using g) (by omega)
theorem zx9: ∀ {e:Ex},VT e→VK Kt e
 | _,.num r h=> .num r h
 | _,.var s h=> .var s h
 | _,.un k a h1 h2=> .un k a (by unfold K1 at h1;unfold Kt;omega) h1 (zx9 h2)
 | _,.pow n a h1 h2 h3=> .pow n a (by unfold Kt;omega) h1 h2 (zx9 h3)
 | _,.bin k a b h1 h2 h3=> .bin k a b (by unfold K2 at h1;unfold Kt;omega) h1 (zx9 h2) (zx9 h3)
end Go.Proofs.YtlocddfailmnpaaGreatDoor

namespace Go.Proofs.YtlocddfailmnpaaGreatDoor
open Go Go.Sx
set_option maxRecDepth 100000
set_option maxHeartbeats 8000000
theorem x16 (e:Ex) (he:Sm e) (ns:List zf) (xs:List Iv) (hx: ∀x∈xs,RI x) (h1:ns.length<9223372036854775808) (h2:xs.length<9223372036854775808) (p:Int):
 Fn 11 G0 [.agg (exC e),.sl .str ns,.sl .iv xs,.int .i64 p] (.agg (ivC (zmy fxA e ns xs p))) G0:=i8 (fun p _=>qb1 p) e he (fun h=>zx9 (zcy h)) ns xs hx h1 h2 p
theorem qfo (e:Ex) (ns:List zf) (xs:List Iv) (hx: ∀x∈xs,RI x) (p:Int):RI (zmy fxA e ns xs p):=by
 unfold zmy
 split
 ·rename_i c
  exact(i26 c.1.2.2 (qb1 p) (zi7 ns xs [] hx fun q hq=>by cases hq) (zx9 (zcy c.1.2.1))).2
 ·exact zg1
end Go.Proofs.YtlocddfailmnpaaGreatDoor

namespace Go.Proofs.YtlocddfailmnpaaGreatDoor
open Go Go.Sx
set_option maxRecDepth 100000
set_option maxHeartbeats 8000000
theorem zoe {s:zf}: ∀(ns:List zf) (xs:List Iv) (es:zdl),yr .str s es=true→yr .str s (yt ns xs es)=true
 | [],xs,es,h=>by cases xs<;>exact h
 | _::_,[],_,h=>h
 |n::ns,x::xs,es,h=>zoe ns xs _ (by rw[qbw,h,Bool.or_true])
theorem zmg {s:zf}: ∀(ns:List zf) (xs:List Iv) (es:zdl),s∈ns→ns.length≤xs.length→yr .str s (yt ns xs es)=true
 | [],_,_,h,_=>by cases h
 |n::ns,[],_,_,h=>by simp at h
 |n::ns,x::xs,es,h,hl=>by
  rcases List.mem_cons.1 h with rfl|h
  ·exact zoe ns xs _ (by rw[qbw];simp)
  ·exact zmg ns xs _ h (by simpa using hl)
theorem zsx: ∀(ns:List zf) (xs:List Iv) (es:zdl),ns.Nodup→(∀s∈ns,yr .str s es=false)→ns.length≤xs.length→(yt ns xs es).length =es.length+ns.length
 | [],xs,es,_,_,_=>by cases xs<;>rfl
 |n::ns,[],_,_,_,h=>by simp at h
 |n::ns,x::xs,es,hn,he,hl=>by
  have hn:=List.nodup_cons.1 hn
  have h1:=zsx ns xs (yz .str n x es) hn.2 (fun s hs=>by
   rw[qbw,he s (List.mem_cons_of_mem _ hs),Bool.or_false,decide_eq_false (by rintro rfl;exact hn.1 hs)]) (by simpa using hl)
  rw[lput,if_neg (by rw[he n List.mem_cons_self];simp)]at h1
  simp only[yt,List.length_cons]
  omega
theorem zop {fx:Int→Iv→Int→Iv} {p:Int} {es:zdl} {K:Int→Prop} {e:Ex} (he:VK K e):(∀y∈xw e,y.k=2→yr .str y.s es=true)→(evE fx p es e).2=true:=by
 induction he with
 |num r _=>intro _;rw[zoo]
 |var s _=>
  intro hn
  rw[zon]
  exact hn (zei s) (by simp[zei,xw,zb4]) rfl
 |un k a _ h1 _ ih=>
  intro hn
  have hk:k≠1∧k≠2:=by unfold K1 at h1;omega
  rw[zkq _ _ _ _ _ _ hk,if_pos (ih fun y hy c=>hn y (by simp only[opE,xw,zb4,List.mem_cons,List.append_nil];exact .inr hy) c)]
 |pow n a _ _ _ _ ih=>
  intro hn
  rw[zkq _ _ _ _ _ _ (by decide),if_pos (ih fun y hy c=>hn y (by simp only[opE,xw,zb4,List.mem_cons,List.append_nil];exact .inr hy) c)]
 |bin k a b _ h1 _ _ ih1 ih2=>
  intro hn
  have hk:k≠1∧k≠2:=by unfold K2 at h1;omega
  rw[ztj _ _ _ _ _ _ _ hk,if_pos (ih1 fun y hy c=>hn y (by simp only[opE,xw,zb4,List.mem_cons,List.append_nil,List.mem_append];exact .inr (.inl hy)) c),
   if_pos (ih2 fun y hy c=>hn y (by simp only[opE,xw,zb4,List.mem_cons,List.append_nil,List.mem_append];exact .inr (.inr hy)) c)]
theorem qb8 {fx:Int→Iv→Int→Iv} {e:Ex} {ns:List zf} {xs:List Iv} {p:Int} (h1:enB ns xs=true) (h2:okT e=true) (h3:pcB p=true) (h4:(evE fx p (yt ns xs []) e).2=true):zmy fx e ns xs p=(evE fx p (yt ns xs []) e).1:=by
 unfold zmy;rw[if_pos ⟨⟨h1,h2,h3⟩,h4⟩]
theorem qe8 {k n p:Int} {x y z:Iv} (hk:K1 k∨k=8):apI fxA k n x y p=apI fxA k n x z p:=by
 unfold K1 at hk
 obtain rfl|rfl|rfl|rfl|rfl|rfl|rfl:k=7∨k=8∨k=9∨k=10∨k=11∨k=12∨k=13:=by omega
 all_goals rfl
theorem x18 (l:List Ex) (hl: ∀x∈l,Sm x) (hlen:l.length≤200) (ns:List zf) (xs:List Iv) (hx: ∀x∈xs,RI x) (h1:ns.length<9223372036854775808) (h2:xs.length<9223372036854775808) (p:Int):
 Fn 19 G0 [.sl .ex l,.sl .str ns,.sl .iv xs,.int .i64 p] (.sl .iv (l.map fun x=>zmy fxA x ns xs p)) G0:=by
 have hv: ∀x∈l,Fn 11 G0 [.agg (exC x),.sl .str ns,.sl .iv xs,.int .i64 p] (.agg (ivC (zmy fxA x ns xs p))) G0:=fun x hx'=>x16 x (hl x hx') ns xs hx h1 h2 p
 obtain⟨f,hf⟩: ∃f:Ex→Iv,f=fun x=>zmy fxA x ns xs p:=⟨_,rfl⟩
 have hv: ∀x∈l,Fn 11 G0 [.agg (exC x),.sl .str ns,.sl .iv xs,.int .i64 p] (.agg (ivC (f x))) G0:=fun x hx'=>by rw[hf];exact hv x hx'
 rw[←hf]
 clear hf
 obtain⟨L,hL⟩: ∃L,L=l.map f:=⟨_,rfl⟩
 have hLl:L.length=l.length:=by rw[hL];simp
 have hLi: ∀i x,l[i]? =some x→L.take i++ [f x]=L.take (i+1):=fun i x h=>by
  rw[List.take_add_one,hL,List.getElem?_map,h];rfl
 rw[←hL]
 clear hL
 refine fnT hT8 hmx Tryz.func19 rfl rfl (ex:= []) ?_;conv=>whnf
 refine brI (fun c=>?_) (fun _=>?_)
 ·have c:=of_decide_eq_true c
  omega
 conv=>whnf
 refine⟨Nat,fun i=>i≤l.length,fun i=> [(17,.int .i64 i),(9,.own 28)],fun i=> [(28,.buf 35 .iv (L.take i)),(11,.free)],fun i=>l.length-i,0,by simp,?_,fun i hi=>?_⟩
 ·((conv=>whnf);refine And.intro ?_ ?_;repeat' first|refine lc ?_ ?_|exact la0|exact lr rfl|exact ln0|refine lh1 ?_ ?_|exact lh0|exact bf0|exact bd0|refine bc0 ?_|exact bm0 rfl|exact bb0 rfl|exact bg0 rfl|exact li0 rfl|refine lg0 ?_|refine lt0 ?_|fail)
  ·exact trivial
  ·exact⟨rfl,rfl⟩
 (refine⟨by kernel_rfl,?_⟩;(conv=>whnf))
 refine brI (fun k1=>?_) (fun k1=>?_)
 ·have k1:=of_decide_eq_true k1
  have hi:i<l.length:=by omega
  conv=>whnf
  refine⟨⟨by omega,by omega⟩,fun(x:Ex) hx'=>?_⟩
  have hx':l[i]? =some x:=by simpa using hx'
  have hvx:=hv x (List.mem_of_getElem? hx')
  have hs:=hLi i x hx'
  generalize f x=A at*
  conv=>whnf
  refine gZc hvx ?_;conv=>whnf
  refine⟨by simp;omega,?_⟩;conv=>whnf
  refine⟨i+1,by omega,by show l.length-(i+1)<l.length-i;omega,?_⟩
  ((conv=>whnf);refine And.intro ?_ ?_;repeat' first|refine lc ?_ ?_|exact la0|exact lr rfl|exact ln0|refine lh1 ?_ ?_|exact lh0|exact bf0|exact bd0|refine bc0 ?_|exact bm0 rfl|exact bb0 rfl|exact bg0 rfl|exact li0 rfl|refine lg0 ?_|refine lt0 ?_|fail)
  ·exact ai0 (by rw[wI (by omega)];omega)
  ·exact bb0 hs
 ·have k1:=of_decide_eq_false k1
  conv=>whnf
  exact⟨yj (by rw[List.take_of_length_le (by omega)]),leG⟩
end Go.Proofs.YtlocddfailmnpaaGreatDoor

namespace Go.Proofs.YtlocddfailmnpaaGreatDoor
open Go Go.Sx
set_option maxRecDepth 100000
set_option maxHeartbeats 8000000
end Go.Proofs.YtlocddfailmnpaaGreatDoor
