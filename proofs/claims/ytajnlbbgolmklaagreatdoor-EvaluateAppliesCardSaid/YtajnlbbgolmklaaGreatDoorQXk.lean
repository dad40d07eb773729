/-
  Plain law of EvaluateApplies; evaluate.Values.
-/
import Derived.Test.YtajnlbbgolmklaaGreatDoorQXi
import Derived.Test.YtajnlbbgolmklaaGreatDoorQUb
set_option linter.unusedVariables false
set_option linter.unusedSimpArgs false
namespace Go.Proofs.YtajnlbbgolmklaaGreatDoor
open Go Go.Sx
set_option maxRecDepth 100000
set_option maxHeartbeats 8000000
theorem zob {s:zd}: ∀(ns:List zd) (xs:List Iv) (es:zan),zcp .str s es=true→zcp .str s (ym ns xs es)=true
 | [],xs,es,h=>by cases xs<;>exact h
 | _::_,[],_,h=>h
 |n::ns,x::xs,es,h=>zob ns xs _ (by rw[qbj,h,Bool.or_true])
theorem zs0 {s:zd}: ∀(ns:List zd) (xs:List Iv) (es:zan),s∈ns→ns.length≤xs.length→zcp .str s (ym ns xs es)=true
 | [],_,_,h,_=>by cases h
 |n::ns,[],_,_,h=>by simp at h
 |n::ns,x::xs,es,h,hl=>by
  rcases List.mem_cons.1 h with rfl|h
  ·exact zob ns xs _ (by rw[qbj];simp)
  ·exact zs0 ns xs _ h (by simpa using hl)
theorem zsm: ∀(ns:List zd) (xs:List Iv) (es:zan),ns.Nodup→(∀s∈ns,zcp .str s es=false)→ns.length≤xs.length→(ym ns xs es).length =es.length+ns.length
 | [],xs,es,_,_,_=>by cases xs<;>rfl
 |n::ns,[],_,_,_,h=>by simp at h
 |n::ns,x::xs,es,hn,he,hl=>by
  have hn:=List.nodup_cons.1 hn
  have h1:=zsm ns xs (zak .str n x es) hn.2 (fun s hs=>by
   rw[qbj,he s (List.mem_cons_of_mem _ hs),Bool.or_false,decide_eq_false (by rintro rfl;exact hn.1 hs)]) (by simpa using hl)
  rw[lput,if_neg (by rw[he n List.mem_cons_self];simp)]at h1
  simp only[ym,List.length_cons]
  omega
theorem qdv {ns:List zd} {xs:List Iv} (h:qcq ns=true) (hl:ns.length=xs.length):enB ns xs=true:=by
 have h:=of_decide_eq_true h
 unfold enB
 refine decide_eq_true ⟨hl,h.2,?_⟩
 rw[zsm ns xs [] h.1 (fun _ _=>rfl) (by omega)]
 simp[hl]
theorem zac {fx:Int→Iv→Int→Iv} {p:Int} {es:zan} {K:Int→Prop} {e:Ex} (he:VK K e):(∀y∈um e,y.k=2→zcp .str y.s es=true)→(evE fx p es e).2=true:=by
 induction he with
 |num r _=>intro _;rw[zky]
 |var s _=>
  intro hn
  rw[zh1]
  exact hn (zgr s) (by simp[zgr,um,xm]) rfl
 |un k a _ h1 _ ih=>
  intro hn
  have hk:k≠1∧k≠2:=by unfold K1 at h1;omega
  rw[zah _ _ _ _ _ _ hk,if_pos (ih fun y hy c=>hn y (by simp only[opE,um,xm,List.mem_cons,List.append_nil];exact .inr hy) c)]
 |pow n a _ _ _ _ ih=>
  intro hn
  rw[zah _ _ _ _ _ _ (by decide),if_pos (ih fun y hy c=>hn y (by simp only[opE,um,xm,List.mem_cons,List.append_nil];exact .inr hy) c)]
 |bin k a b _ h1 _ _ ih1 ih2=>
  intro hn
  have hk:k≠1∧k≠2:=by unfold K2 at h1;omega
  rw[zh2 _ _ _ _ _ _ _ hk,if_pos (ih1 fun y hy c=>hn y (by simp only[opE,um,xm,List.mem_cons,List.append_nil,List.mem_append];exact .inr (.inl hy)) c),
   if_pos (ih2 fun y hy c=>hn y (by simp only[opE,um,xm,List.mem_cons,List.append_nil,List.mem_append];exact .inr (.inr hy)) c)]
theorem zff {fx:Int→Iv→Int→Iv} {e:Ex} {ns:List zd} {xs:List Iv} {p:Int} (h1:enB ns xs=true) (h2:okT e=true) (h3:pcB p=true) (h4:(evE fx p (ym ns xs []) e).2=true):zb0 fx e ns xs p=(evE fx p (ym ns xs []) e).1:=by
 unfold zb0;rw[if_pos ⟨⟨h1,h2,h3⟩,h4⟩]
theorem zfe {fx:Int→Iv→Int→Iv} {e:Ex} {ns:List zd} {xs:List Iv} {p:Int} (h: ¬pcB p=true):zb0 fx e ns xs p=wI0:=by
 unfold zb0;rw[if_neg fun c=>h c.1.2.2]
theorem zxv {k n p:Int} {x y z:Iv} (hk:K1 k∨k=8):apI fxA k n x y p=apI fxA k n x z p:=by
 unfold K1 at hk
 obtain rfl|rfl|rfl|rfl|rfl|rfl|rfl:k=7∨k=8∨k=9∨k=10∨k=11∨k=12∨k=13:=by omega
 all_goals rfl
theorem zxc {k n:Int} {a:Ex} (h:okT (opE k n [a])=true) (ha:VT a):okT a=true:=by
 obtain⟨_,h2,h3⟩:=(xc _).1 h
 refine(xc _).2 ⟨qax ha,?_,?_⟩
 ·simp[opE,zul,zuk]at h2;omega
 ·simp[opE,zd6,zd5]at h3;omega
theorem qcn {k n:Int} {a b:Ex} (h:okT (opE k n [a,b])=true) (ha:VT a) (hb:VT b):okT a=true∧okT b=true:=by
 obtain⟨_,h2,h3⟩:=(xc _).1 h
 simp[opE,zul,zuk]at h2
 simp[opE,zd6,zd5]at h3
 exact⟨(xc _).2 ⟨qax ha,by omega,by omega⟩,(xc _).2 ⟨qax hb,by omega,by omega⟩⟩
theorem ok_l {e:Ex} (h:okT e=true):e.l.length≤2∧ ∀x∈e.l,VT x:=by
 cases zaf h with
 |num r _=>exact⟨Nat.zero_le _,fun x hx=>by cases hx⟩
 |var s _=>exact⟨Nat.zero_le _,fun x hx=>by cases hx⟩
 |un k a _ h2=>exact⟨Nat.le_succ _,fun x hx=>by
   have hx:x=a:=by simpa[opE,Ex.l]using hx
   rw[hx];exact h2⟩
 |pow n a _ _ h2=>exact⟨Nat.le_succ _,fun x hx=>by
   have hx:x=a:=by simpa[opE,Ex.l]using hx
   rw[hx];exact h2⟩
 |bin k a b _ h2 h3=>exact⟨Nat.le_refl _,fun x hx=>by
   have hx:x=a∨x=b:=by simpa[opE,Ex.l]using hx
   rcases hx with rfl|rfl<;>assumption⟩
theorem zmv {e:Ex} {ns:List zd} {xs:List Iv} {p:Int} (hok:okT e=true) (hll:ns.length=xs.length) (hns:qcq ns=true) (hkn:knB e ns=true) (hl:e.l≠ []):
 ∃A B,(e.l.map fun x=>zb0 fxA x ns xs p)[0]? =some A∧(e.l.map fun x=>zb0 fxA x ns xs p)[e.l.length-1]? =some B∧zb0 fxA e ns xs p=apI fxA e.k e.p A B p∧Kt e.k:=by
 have hen:=qdv hns hll
 unfold knB at hkn
 rw[Bool.and_eq_true]at hkn
 have hm: ∀y∈um e,y.k=2→zcp .str y.s (ym ns xs [])=true:=fun y hy h2=>zs0 ns xs [] (of_decide_eq_true hkn.2 y hy h2) (by omega)
 cases zaf hok with
 |num r _=>exact absurd rfl hl
 |var s _=>exact absurd rfl hl
 |un k a h1 h2=>
  have hka:=zxc hok h2
  refine⟨zb0 fxA a ns xs p,zb0 fxA a ns xs p,rfl,rfl,?_,by show Kt k;unfold K1 at h1;unfold Kt;omega⟩
  show _=apI fxA k 0 _ _ p
  by_cases hp:pcB p=true
  ·have hk:k≠1∧k≠2:=by unfold K1 at h1;omega
   have e1:=zac (fx:=fxA) (p:=p) (zmx h2) fun y hy c=>hm y (by simp only[opE,um,xm,List.mem_cons,List.append_nil];exact .inr hy) c
   have e2:=zac (fx:=fxA) (p:=p) (zmx (zaf hok)) hm
   rw[zff hen hok hp e2,zff hen hka hp e1,zah _ _ _ _ _ _ hk,if_pos e1]
   exact zxv (k:=k) (n:=0) (p:=p) (y:=zI) (.inl h1)
  ·rw[zfe hp,zfe hp]
   exact(zp7 (.inl h1)).symm
 |pow n a h1 h2 h3=>
  have hka:=zxc hok h3
  refine⟨zb0 fxA a ns xs p,zb0 fxA a ns xs p,rfl,rfl,?_,by show Kt 8;unfold Kt;omega⟩
  show _=apI fxA 8 n _ _ p
  by_cases hp:pcB p=true
  ·have e1:=zac (fx:=fxA) (p:=p) (zmx h3) fun y hy c=>hm y (by simp only[opE,um,xm,List.mem_cons,List.append_nil];exact .inr hy) c
   have e2:=zac (fx:=fxA) (p:=p) (zmx (zaf hok)) hm
   rw[zff hen hok hp e2,zff hen hka hp e1,zah _ _ _ _ _ _ (by decide),if_pos e1]
   exact zxv (k:=8) (n:=n) (p:=p) (y:=zI) (.inr rfl)
  ·rw[zfe hp,zfe hp]
   exact(zp7 (.inr (.inl rfl))).symm
 |bin k a b h1 h2 h3=>
  obtain⟨hka,hkb⟩:=qcn hok h2 h3
  refine⟨zb0 fxA a ns xs p,zb0 fxA b ns xs p,rfl,rfl,?_,by show Kt k;unfold K2 at h1;unfold Kt;omega⟩
  show _=apI fxA k 0 _ _ p
  by_cases hp:pcB p=true
  ·have hk:k≠1∧k≠2:=by unfold K2 at h1;omega
   have e1:=zac (fx:=fxA) (p:=p) (zmx h2) fun y hy c=>hm y (by simp only[opE,um,xm,List.mem_cons,List.append_nil,List.mem_append];exact .inr (.inl hy)) c
   have e3:=zac (fx:=fxA) (p:=p) (zmx h3) fun y hy c=>hm y (by simp only[opE,um,xm,List.mem_cons,List.append_nil,List.mem_append];exact .inr (.inr hy)) c
   have e2:=zac (fx:=fxA) (p:=p) (zmx (zaf hok)) hm
   rw[zff hen hok hp e2,zff hen hka hp e1,zff hen hkb hp e3,zh2 _ _ _ _ _ _ _ hk,if_pos e1,if_pos e3]
  ·rw[zfe hp,zfe hp,zfe hp]
   exact(zp7 (.inr (.inr h1))).symm
theorem x18 (l:List Ex) (hl: ∀x∈l,Sm x) (hlen:l.length≤200) (ns:List zd) (xs:List Iv) (hx: ∀x∈xs,RI x) (h1:ns.length<9223372036854775808) (h2:xs.length<9223372036854775808) (p:Int):
 Fn 18 G0 [.sl .ex l,.sl .str ns,.sl .iv xs,.int .i64 p] (.sl .iv (l.map fun x=>zb0 fxA x ns xs p)) G0:=by
 have hv: ∀x∈l,Fn 16 G0 [.agg (exC x),.sl .str ns,.sl .iv xs,.int .i64 p] (.agg (ivC (zb0 fxA x ns xs p))) G0:=fun x hx'=>x16 x (hl x hx') ns xs hx h1 h2 p
 obtain⟨f,hf⟩: ∃f:Ex→Iv,f=fun x=>zb0 fxA x ns xs p:=⟨_,rfl⟩
 have hv: ∀x∈l,Fn 16 G0 [.agg (exC x),.sl .str ns,.sl .iv xs,.int .i64 p] (.agg (ivC (f x))) G0:=fun x hx'=>by rw[hf];exact hv x hx'
 rw[←hf]
 clear hf
 obtain⟨L,hL⟩: ∃L,L=l.map f:=⟨_,rfl⟩
 have hLl:L.length=l.length:=by rw[hL];simp
 have hLi: ∀i x,l[i]? =some x→L.take i++ [f x]=L.take (i+1):=fun i x h=>by
  rw[List.take_add_one,hL,List.getElem?_map,h];rfl
 rw[←hL]
 clear hL
 refine fnT hT8 hmx Tryz.func18 rfl rfl (ex:= []) ?_;conv=>whnf
 refine brI (fun c=>?_) (fun _=>?_)
 ·have c:=of_decide_eq_true c
  omega
 conv=>whnf
 refine⟨Nat,fun i=>i≤l.length,fun i=> [(17,.int .i64 i),(9,.own 28)],fun i=> [(28,.buf 37 .iv (L.take i)),(11,.free)],fun i=>l.length-i,0,by simp,?_,fun i hi=>?_⟩
 ·((conv=>whnf);refine And.intro ?_ ?_;repeat' first|refine lc ?_ ?_|exact la0|exact lr rfl|exact ln0|refine lh1 ?_ ?_|exact lh0|exact bf0|exact bd0|refine bc0 ?_|exact bm0 rfl|exact bb0 rfl|exact bg0 rfl|exact li0 rfl|refine lg0 ?_|refine lt0 ?_|fail)
  ·exact trivial
  ·exact⟨rfl,rfl⟩
 (refine⟨by kernel_rfl,?_⟩;(conv=>whnf))
 refine brI (fun k1=>?_) (fun k1=>?_)
 ·have k1:=of_decide_eq_true k1
  have hi:i<l.length:=by omega
  conv=>whnf
  refine⟨⟨by omega,by omega⟩,fun(x:Ex) hx'=>?_⟩
  have hx':l[i]? =some x:=by simpa using hx'
  have hvx:=hv x (List.mem_of_getElem? hx')
  have hs:=hLi i x hx'
  generalize f x=A at*
  conv=>whnf
  refine gZc hvx ?_;conv=>whnf
  refine⟨by simp;omega,?_⟩;conv=>whnf
  refine⟨i+1,by omega,by show l.length-(i+1)<l.length-i;omega,?_⟩
  ((conv=>whnf);refine And.intro ?_ ?_;repeat' first|refine lc ?_ ?_|exact la0|exact lr rfl|exact ln0|refine lh1 ?_ ?_|exact lh0|exact bf0|exact bd0|refine bc0 ?_|exact bm0 rfl|exact bb0 rfl|exact bg0 rfl|exact li0 rfl|refine lg0 ?_|refine lt0 ?_|fail)
  ·exact ai0 (by rw[wI (by omega)];omega)
  ·exact bb0 hs
 ·have k1:=of_decide_eq_false k1
  conv=>whnf
  exact⟨ji (by rw[List.take_of_length_le (by omega)]),leG⟩
end Go.Proofs.YtajnlbbgolmklaaGreatDoor

namespace Go.Sx
open Go
theorem ze9.arg {P:Program} {f:Nat} {H:Hp} {A A':List AV} {r:AV} {H':Hp} (h:ze9 P f H A r H') (ha: ∀(ρ:Env) (vs:List Value),Rs ρ A' vs→Rs ρ A vs):ze9 P f H A' r H':=
 ⟨h.1,fun w M pt ow S vs hc hk hv=>h.2 w M pt ow S vs hc hk (ha _ _ hv)⟩
end Go.Sx
namespace Go.Proofs.YtajnlbbgolmklaaGreatDoor
open Go Go.Sx
theorem R_nil {ρ:Env} {k:Elt} {v:Value} (h:R ρ .nilsl v):R ρ (.sl k []) v:=by
 obtain rfl:v= .slice none 0 0:=h
 exact .sl k [] none 0 0 0 0 rfl (Nat.le_refl _) (by decide) (fun h=>absurd rfl h) (fun i x h=>by simp at h)
end Go.Proofs.YtajnlbbgolmklaaGreatDoor

namespace Go.Proofs.YtajnlbbgolmklaaGreatDoor
open Go Go.Sx
set_option maxRecDepth 100000
set_option maxHeartbeats 8000000
theorem nil0 {P:Program} {f:Nat} {H:Hp} {k:Elt} {A:List AV} {r:AV} {H':Hp} (h:ze9 P f H (.sl k []::A) r H'):ze9 P f H (.nilsl ::A) r H':=
 h.arg fun _ vs hv=>match vs,hv with
  | _::_,⟨h1,h2⟩=>⟨R_nil h1,h2⟩
def T9:Tab:= {T8 with gl:=18::T8.gl}
theorem hT9:TabOK Tryz.prog T9:=zg5 (by kernel_rfl) (by kernel_rfl)
noncomputable def body5:Code:=Tryz.f5.body.getD .skip
def apT (n:Int) (y z:Iv) (p:Int):List (Int×Iv):=
 [(3,kz y z p),(4,zyp y z p),(5,xp y z p),(6,uw y z p),(7,zgp y),(8,zqb y n p),(13,zej y p),(9,zqh y p),(10,zqe y p),(11,ciI y false p),(12,ciI y true p),(1,wI0),(2,wI0),(0,wI0),(14,wI0)]
theorem qef {n:Int} {y z:Iv} {p:Int} (hy:RI y) (hz:RI z): ∀x∈apT n y z p,Fn 25 G0 [.int .i64 x.1,.int .i64 n,.agg (ivC y),.agg (ivC z),.int .i64 p] (.agg (ivC x.2)) G0∧RI x.2:=by
 intro x hx
 have ka: ∀k,Ka k→Fn 25 G0 [.int .i64 k,.int .i64 n,.agg (ivC y),.agg (ivC z),.int .i64 p] (.agg (ivC (apI fxA k n y z p))) G0∧RI (apI fxA k n y z p):=fun k hk=>⟨i52 hk n y z hy hz p,(qe6 hk n z p hy).ri⟩
 have kf: ∀k,(k=9∨k=10∨k=11∨k=12)→Fn 25 G0 [.int .i64 k,.int .i64 n,.agg (ivC y),.agg (ivC z),.int .i64 p] (.agg (ivC (fxA k y p))) G0∧RI (fxA k y p):=fun k hk=>⟨x25 k n y z hy p hk,(qe0 k hy p).ri⟩
 have kw: ∀k,(k=1∨k=2∨k=0∨k=14)→Fn 25 G0 [.int .i64 k,.int .i64 n,.agg (ivC y),.agg (ivC z),.int .i64 p] (.agg (ivC wI0)) G0∧RI wI0:=fun k hk=>⟨x25w k n y z p hk,zg3⟩
 simp only[apT,List.mem_cons,List.not_mem_nil,or_false]at hx
 rcases hx with rfl|rfl|rfl|rfl|rfl|rfl|rfl|rfl|rfl|rfl|rfl|rfl|rfl|rfl|rfl
 ·exact ka 3 (by unfold Ka;omega)
 ·exact ka 4 (by unfold Ka;omega)
 ·exact ka 5 (by unfold Ka;omega)
 ·exact ka 6 (by unfold Ka;omega)
 ·exact ka 7 (by unfold Ka;omega)
 ·exact ka 8 (by unfold Ka;omega)
 ·exact ka 13 (by unfold Ka;omega)
 ·exact kf 9 (by omega)
 ·exact kf 10 (by omega)
 ·exact kf 11 (by omega)
 ·exact kf 12 (by omega)
 ·exact kw 1 (by omega)
 ·exact kw 2 (by omega)
 ·exact kw 0 (by omega)
 ·exact kw 14 (by omega)
theorem x5 (e:Ex) (ns:List zd) (xs:List Iv) (y z:Iv) (n p:Int) (he:Sm e) (h1:ns.length<9223372036854775808) (h2:xs.length<9223372036854775808)
 (hx: ∀x∈xs,LB x.lo.m∧LB x.hi.m) (hy:LB y.lo.m∧LB y.hi.m) (hz:LB z.lo.m∧LB z.hi.m):
 Fn 5 G0 [.agg (exC e),.sl .str ns,.sl .iv xs,.agg (ivC y),.agg (ivC z),.int .i64 n,.int .i64 p] (.bool true) G0:=by
 have hg:=x10 ns xs p h1 h2
 by_cases g1:grB ns xs p=true
 ·rw[g1]at hg
  refine fnT hT9 hmx Tryz.func5 rfl rfl (ex:= []) ?_;conv=>whnf
  refine gZc y4 ?_;conv=>whnf
  refine gZn hg ?_;conv=>whnf
  exact⟨lr rfl,leG⟩
 have g1:grB ns xs p=false:=by simpa using g1
 rw[g1]at hg
 have hg2:=nil0 (x10 [] [y,z] p (by decide) (by simp))
 by_cases g2:grB [] [y,z] p=true
 ·rw[g2]at hg2
  refine fnT hT9 hmx Tryz.func5 rfl rfl (ex:= []) ?_;conv=>whnf
  refine gZc y4 ?_;conv=>whnf
  refine gZn hg ?_;conv=>whnf
  refine gZn hg2 ?_;conv=>whnf
  exact⟨lr rfl,leG⟩
 have g2:grB [] [y,z] p=false:=by simpa using g2
 rw[g2]at hg2
 have l1:=zmh g1
 have l2:=zmh g2
 have rx: ∀x∈xs,RI x:=fun x hxx=>⟨(hx x hxx).1,(hx x hxx).2,by have:=l1.2.2 x hxx;omega,by have:=l1.2.2 x hxx;omega⟩
 have ry:RI y:=⟨hy.1,hy.2,by have:=l2.2.2 y (by simp);omega,by have:=l2.2.2 y (by simp);omega⟩
 have rz:RI z:=⟨hz.1,hz.2,by have:=l2.2.2 z (by simp);omega,by have:=l2.2.2 z (by simp);omega⟩
 have h22:=f17 e he
 have h23:=y18 ns h1
 have h24:=y19 e ns he h1
 have d3:=i82 y z ry rz p
 have d4:=i83 y z ry rz p
 have d5:=i84 y z ry rz p
 have d6:=i85 y z ry rz p
 have d7:=i86 y ry
 have d8:=i87 y ry n p
 have d13:=i92 y ry p
 have d9:=x33 y ry p
 have d10:=x34 y ry p
 have d11:=c35 y ry p
 have d12:=c36 y ry p
 have dw:=i25
 rw[e25]at dw
 obtain⟨L,hL⟩: ∃L,apT n y z p=L:=⟨_,rfl⟩
 have hok:=qef (n:=n) (p:=p) ry rz
 rw[hL]at hok
 have hLl:L.length=15:=by rw[←hL];rfl
 unfold apT at hL
 generalize kz y z p=A3 at*
 generalize zyp y z p=A4 at*
 generalize xp y z p=A5 at*
 generalize uw y z p=A6 at*
 generalize zgp y=A7 at*
 generalize zqb y n p=A8 at*
 generalize zej y p=A13 at*
 generalize zqh y p=A9 at*
 generalize zqe y p=A10 at*
 generalize ciI y false p=A11 at*
 generalize ciI y true p=A12 at*
 refine wk (code:=body5) hT9 hmx Tryz.func5 rfl rfl (ex:= []) ?_;conv=>whnf
 refine uk hT9 hmx 4 (fun _:Unit=>⟨[.any,.any,.any,.any,.any,.int .i64 n,.int .i64 p,.any,.any,.any,.ptr 10 0,.ptr 11 0]++zgj 153,[(7,.free),(10,.cells (ivC y)),(11,.cells (ivC z)),(17,.free),(qo,.gst JT)]⟩) (fun _=>by kernel_rfl) ?_ (fun _=>?_)
 ·by_cases hV:okT e=true
  rotate_left
  ·rw[show okT e=false by simpa using hV]at h22
   conv=>whnf
   refine gZc y4 ?_;conv=>whnf
   refine gZn hg ?_;conv=>whnf
   refine gZn hg2 ?_;conv=>whnf
   refine gZn h22 ?_;conv=>whnf
   refine⟨(),?_⟩
   ((conv=>whnf);refine And.intro ?_ ?_;repeat' first|refine lc ?_ ?_|exact la0|exact lr rfl|exact ln0|refine lh1 ?_ ?_|exact lh0|exact bf0|exact bd0|refine bc0 ?_|exact bm0 rfl|exact bb0 rfl|exact bg0 rfl|exact li0 rfl|refine lg0 ?_|refine lt0 ?_|fail)
  rw[hV]at h22
  obtain⟨hel,hvt⟩:=ok_l hV
  conv=>whnf
  refine gZc y4 ?_;conv=>whnf
  refine gZn hg ?_;conv=>whnf
  refine gZn hg2 ?_;conv=>whnf
  refine gZn h22 ?_;conv=>whnf
  refine brI (fun k1=>?_) (fun _=>?_)
  rotate_left
  ·conv=>whnf
   refine⟨(),?_⟩
   ((conv=>whnf);refine And.intro ?_ ?_;repeat' first|refine lc ?_ ?_|exact la0|exact lr rfl|exact ln0|refine lh1 ?_ ?_|exact lh0|exact bf0|exact bd0|refine bc0 ?_|exact bm0 rfl|exact bb0 rfl|exact bg0 rfl|exact li0 rfl|refine lg0 ?_|refine lt0 ?_|fail)
  conv=>whnf
  refine brI (fun k2=>?_) (fun _=>?_)
  rotate_left
  ·conv=>whnf
   refine⟨(),?_⟩
   ((conv=>whnf);refine And.intro ?_ ?_;repeat' first|refine lc ?_ ?_|exact la0|exact lr rfl|exact ln0|refine lh1 ?_ ?_|exact lh0|exact bf0|exact bd0|refine bc0 ?_|exact bm0 rfl|exact bb0 rfl|exact bg0 rfl|exact li0 rfl|refine lg0 ?_|refine lt0 ?_|fail)
  conv=>whnf
  refine cbI [] (qcq ns) h23 (fun k3=>?_) (fun _=>?_)
  rotate_left
  ·conv=>whnf
   refine⟨(),?_⟩
   ((conv=>whnf);refine And.intro ?_ ?_;repeat' first|refine lc ?_ ?_|exact la0|exact lr rfl|exact ln0|refine lh1 ?_ ?_|exact lh0|exact bf0|exact bd0|refine bc0 ?_|exact bm0 rfl|exact bb0 rfl|exact bg0 rfl|exact li0 rfl|refine lg0 ?_|refine lt0 ?_|fail)
  conv=>whnf
  refine cbI [] (knB e ns) h24 (fun k4=>?_) (fun _=>?_)
  rotate_left
  ·conv=>whnf
   refine⟨(),?_⟩
   ((conv=>whnf);refine And.intro ?_ ?_;repeat' first|refine lc ?_ ?_|exact la0|exact lr rfl|exact ln0|refine lh1 ?_ ?_|exact lh0|exact bf0|exact bd0|refine bc0 ?_|exact bm0 rfl|exact bb0 rfl|exact bg0 rfl|exact li0 rfl|refine lg0 ?_|refine lt0 ?_|fail)
  have k1:0<(e.l.length:Int):=of_decide_eq_true k1
  have k2:ns.length=xs.length:=by
   have k2:(ns.length:Int)=(xs.length:Int):=by
    have k2:((ns.length:Int)==(xs.length:Int))=true:=k2
    simpa using k2
   omega
  obtain⟨A,B,hA,hB,hAB,hkt⟩:=zmv (p:=p) hV k2 k3 k4 (fun c=>by rw[c]at k1;simp at k1)
  have c18:=x18 e.l (fun x hxx=>VT_Sm (hvt x hxx)) (by omega) ns xs rx h1 h2 p
  have c16:=x16 e he ns xs rx h1 h2 p
  have hrv:=zt9 e ns xs rx p
  rw[hAB]at c16 hrv
  have hml:(e.l.map fun x=>zb0 fxA x ns xs p).length =e.l.length:=by simp
  have hrm: ∀x∈(e.l.map fun x=>zb0 fxA x ns xs p),RI x:=fun x hxx=>by
   obtain⟨w,_,rfl⟩:=List.mem_map.1 hxx
   exact zt9 w ns xs rx p
  generalize (e.l.map fun x=>zb0 fxA x ns xs p)=M at*
  have c25:=(ApKt p e.k e.p A B hkt (hrm A (List.mem_of_getElem? hA)) (hrm B (List.mem_of_getElem? hB))).1
  generalize apI fxA e.k e.p A B p=V at*
  have c20:=x20 V hrv.l1 hrv.l2
  conv=>whnf
  refine gZc c18 ?_;conv=>whnf
  refine brI (fun c=>?_) (fun _=>?_)
  ·have c:((M.length:Int) != (e.l.length:Int))=true:=c
   rw[hml]at c
   simp at c
  conv=>whnf
  refine gZc c16 ?_;conv=>whnf
  refine⟨⟨by omega,by omega⟩,fun(A':Iv) hA'=>?_⟩
  obtain rfl:A=A':=by
   have hA':M[0]? =some A':=by simpa using hA'
   rw[hA]at hA';exact Option.some.inj hA'
  conv=>whnf
  have hw:IntKind.i64.wrap ((M.length:Int)-1)=((e.l.length-1:Nat):Int):=by rw[hml,wI (by omega)];omega
  rw[hw]
  refine⟨⟨by omega,by omega⟩,fun(B':Iv) hB'=>?_⟩
  obtain rfl:B=B':=by
   have hB':M[e.l.length-1]? =some B':=by simpa using hB'
   rw[hB]at hB';exact Option.some.inj hB'
  conv=>whnf
  refine gZc c25 ?_;conv=>whnf
  refine gZn c20 ?_;conv=>whnf
  (refine⟨by kernel_rfl,by kernel_rfl,?_⟩;(conv=>whnf))
  refine⟨(),?_⟩
  ((conv=>whnf);refine And.intro ?_ ?_;repeat' first|refine lc ?_ ?_|exact la0|exact lr rfl|exact ln0|refine lh1 ?_ ?_|exact lh0|exact bf0|exact bd0|refine bc0 ?_|exact bm0 rfl|exact bb0 rfl|exact bg0 rfl|exact li0 rfl|refine lg0 ?_|refine lt0 ?_|fail)
 ·refine uj hT9 hmx ?_;conv=>whnf
  refine gZc d3 ?_;conv=>whnf
  refine gZc d4 ?_;conv=>whnf
  refine gZc d5 ?_;conv=>whnf
  refine gZc d6 ?_;conv=>whnf
  refine gZn d7 ?_;conv=>whnf
  refine gZc d8 ?_;conv=>whnf
  refine gZc d13 ?_;conv=>whnf
  refine gZc d9 ?_;conv=>whnf
  refine gZc d10 ?_;conv=>whnf
  refine gZc d11 ?_;conv=>whnf
  refine gZc d12 ?_;conv=>whnf
  refine gZn dw ?_;conv=>whnf
  refine gZn dw ?_;conv=>whnf
  refine gZn dw ?_;conv=>whnf
  refine gZn dw ?_;conv=>whnf
  (refine⟨by kernel_rfl,by kernel_rfl,?_⟩;(conv=>whnf))
  refine⟨Nat,fun i=>i≤15,fun i=> [(147,.sl .ki L),(148,.int .i64 15),(149,.int .i64 i)],fun i=> [(17,.free)],fun i=>15-i,0,by simp,?_,fun i hi=>?_⟩
  ·((conv=>whnf);refine And.intro ?_ ?_;repeat' first|refine lc ?_ ?_|exact la0|exact lr rfl|exact ln0|refine lh1 ?_ ?_|exact lh0|exact bf0|exact bd0|refine bc0 ?_|exact bm0 rfl|exact bb0 rfl|exact bg0 rfl|exact li0 rfl|refine lg0 ?_|refine lt0 ?_|fail)
   exact ji hL
  clear hL d3 d4 d5 d6 d7 d8 d13 d9 d10 d11 d12 dw h22 h23 h24 hg hg2
  (refine⟨by kernel_rfl,?_⟩;(conv=>whnf))
  refine brI (fun k1=>?_) (fun k1=>?_)
  ·have k1:=of_decide_eq_true k1
   have hi:i<15:=by omega
   conv=>whnf
   refine⟨⟨by omega,by omega⟩,fun(x:Int×Iv) hx'=>?_⟩
   have hx':L[i]? =some x:=by simpa using hx'
   obtain⟨c1,c2⟩:=hok x (List.mem_of_getElem? hx')
   have c3:=x20 x.2 c2.l1 c2.l2
   conv=>whnf
   refine gZc c1 ?_;conv=>whnf
   refine gZn c3 ?_;conv=>whnf
   (refine⟨by kernel_rfl,by kernel_rfl,?_⟩;(conv=>whnf))
   refine⟨i+1,by omega,by show 15-(i+1)<15-i;omega,?_⟩
   ((conv=>whnf);refine And.intro ?_ ?_;repeat' first|refine lc ?_ ?_|exact la0|exact lr rfl|exact ln0|refine lh1 ?_ ?_|exact lh0|exact bf0|exact bd0|refine bc0 ?_|exact bm0 rfl|exact bb0 rfl|exact bg0 rfl|exact li0 rfl|refine lg0 ?_|refine lt0 ?_|fail)
   exact ai0 (by rw[wI (by omega)];omega)
  ·conv=>whnf
   exact⟨lr rfl,leG⟩
end Go.Proofs.YtajnlbbgolmklaaGreatDoor
