/-
  Plain law of EvaluateReplaces: a tree in which a variable is replaced has the value of the tree in the environment in which the variable has the value of what replaces it.
-/
import Derived.Test.YtbolipecnhlnnaaGreatDoorRXi
import Derived.Test.YtbolipecnhlnnaaGreatDoorRNx
set_option linter.unusedVariables false
set_option linter.unusedSimpArgs false
namespace Go.Proofs.YtbolipecnhlnnaaGreatDoor
open Go Go.Sx
set_option maxRecDepth 100000
set_option maxHeartbeats 4000000
theorem qhn:KI unI:=by
 refine⟨rfl,znw,ju 1 (by decide),xm.2 ?_⟩;show dv (wx (-1))<=dv (wx 1);rw[jr,jr];decide
theorem cj_VI {x:Iv} (k:KI x) (cos:Bool) {p:Nat} (hp:8<=p/\p<=512):VI (ciJ x cos p):=by
 have e1:dv (wx 1)=1:=jr 1;have em:dv (wx (-1))= -1:=jr (-1);have ku:=qhn;unfold ciJ;split
 ·exact .inl ku
 ·rename_i h2;have hH:CI (zel (ptI x.lo cos p) (ptI x.hi cos p)):=zny (zmg k.lo cos p hp) (zmg k.hi cos p hp);have main:KI (ciM x cos p).1/\dv (ciM x cos p).1.lo <=1/\ -1<=dv (ciM x cos p).1.hi :=by
   have hu:KI unI/\dv unI.lo<=1/\ -1<=dv unI.hi:=⟨ku,by show dv (wx (-1))<=1;rw[em];decide,by show-1<=dv (wx 1);rw[e1];decide⟩;unfold ciM at h2⊢;generalize zel (ptI x.lo cos p) (ptI x.hi cos p)=H at*;unfold meI at h2⊢;split
   ·rename_i c;rw[if_pos c]at h2;exact absurd rfl h2
   ·rename_i c1;rw[if_neg c1]at h2;split
    ·exact hu
    ·rename_i c2;rw[if_neg c2]at h2;rw[if_neg (show ¬unI.all=true from fun c=>by cases c)]at h2⊢;split
     ·rename_i c3;rw[if_pos c3]at h2;exact absurd rfl h2
     ·rename_i c3;have vH:VI H:=(zcx hH.ri).1 (by
       cases hb:viB H with
       |true=>rfl
       |false=>exact absurd (.inl hb) c1)
      have kH:=(qd6 vH).1 (by simpa using c2);have hle:=xm.1 (show qt (yf H.lo unI.lo) (yi H.hi unI.hi)<=0 by omega);have m:=(zgm H.lo unI.lo).2.1;have l:dv (yi H.hi unI.hi)<=dv unI.hi:=by
       unfold yi;split
       ·rename_i c;exact xm.1 c
       ·exact Rat.le_refl
      have m:dv (wx (-1))<=dv (yf H.lo unI.lo):=m;have l:dv (yi H.hi unI.hi)<=dv (wx 1):=l;rw[em]at m;rw[e1]at l;exact⟨⟨rfl,zhj kH.lo ku.lo,zhk kH.hi ku.hi,xm.2 hle⟩,Rat.le_trans hle l,Rat.le_trans m hle⟩
  split
  ·exact .inl main.1
  ·obtain⟨km,m1,m2⟩:=main;have hle:=km.dle;refine .inl ⟨km.all,zyf (ju (-1) (by decide)) km.lo,zyf (ju 1 (by decide)) km.hi,xm.2 ?_⟩;have gen: ∀c d:Bool,dv (if c=true then wx (-1)else(ciM x cos p).1.lo)<=dv (if d=true then wx 1 else(ciM x cos p).1.hi):=by
    intro c d;cases c<;>cases d
    ·exact hle
    ·show dv (ciM x cos p).1.lo <=dv (wx 1);rw[e1];exact m1
    ·show dv (wx (-1))<=dv (ciM x cos p).1.hi;rw[em];exact m2
    ·show dv (wx (-1))<=dv (wx 1);rw[em,e1];decide
   exact gen _ _
theorem qg2 {x:Iv} (vx:VI x) (cos:Bool) (p:Int):VI (ciI x cos p):=by
 have ku:=qhn;unfold ciI;split
 ·rename_i c;split
  ·exact .inl ku
  ·split
   ·exact .inl ku
   ·exact cj_VI ((zp vx.ri).1 c.2) cos (qr c.1)
 ·exact .inr rfl
theorem zvn {k:Int} (hk:Kt k) {n p:Int} {x y:Iv} (hx:VI x) (hy:VI y) (hp:pcB p=true):VI (apI fxA k n x y p):=by
 unfold Kt at hk;obtain rfl|rfl|rfl|rfl|rfl|rfl|rfl|rfl|rfl|rfl|rfl:k=3\/k=4\/k=5\/k=6\/k=7\/k=8\/k=9\/k=10\/k=11\/k=12\/k=13:=by omega
 ·exact zea hx hy hp
 ·exact qem hx hy hp
 ·exact zlc hx hy hp
 ·exact zbt hx hy hp
 ·exact zza hx
 ·exact qfb hx hp
 ·exact(qgj hx (zlh hx) p).1
 ·exact qfq hx p
 ·exact qg2 hx false p
 ·exact qg2 hx true p
 ·exact qau hx hp
theorem qgm {p:Int} (hp:pcB p=true) {es:za5} (hes:REs es) {e:Ex} (he:VK Kt e):VI (evE fxA p es e).1:=by
 induction he with
 |num r hr=>rw[zl0];exact(zuy r hp).1
 |var s hs=>rw[ziw];exact zy8 (zm5 hes)
 |un k a hk h1 _ ih=>
  rw[za2 fxA p es k 0 a (by unfold K1 at h1;omega)];split
  ·exact zvn hk ih qd0 hp
  ·exact ih
 |pow n a hk h1 h2 _ ih=>
  rw[za2 fxA p es 8 n a (by decide)];split
  ·exact zvn hk ih qd0 hp
  ·exact ih
 |bin k a b hk h1 _ _ ih1 ih2=>
  rw[zix fxA p es k 0 a b (by unfold K2 at h1;omega)];split
  ·split
   ·exact zvn hk ih1 ih2 hp
   ·exact ih2
  ·exact ih1
mutual
def chE (t:ze) (b:Ex):Ex->Ex
 | .mk k q s n l=>if k=2/\s=t then b else .mk k q s n (chL t b l)
def chL (t:ze) (b:Ex):List Ex->List Ex
 | []=> []
 |x::l=>chE t b x::chL t b l
end
theorem qg4 (t:ze) (b:Ex) (r:Rt):chE t b (zhs r)=zhs r:=by simp[zhs,chE,chL]
theorem zzu (t:ze) (b:Ex) (s:ze):chE t b (zi5 s)=if s=t then b else zi5 s:=by simp[zi5,chE,chL]
theorem zrg (t:ze) (b:Ex) {k:Int} (n:Int) (l:List Ex) (hk:k≠2):chE t b (opE k n l)=opE k n (chL t b l):=by simp[opE,chE,hk]
theorem ev_ch {p:Int} {t:ze} {es es':za5} (hD:zyj t es es') {b:Ex} (hb:(evE fxA p es b).2=true) (hv:zb4 .str t zI es'=(evE fxA p es b).1) (hvv:okI (evE fxA p es b).1=(evE fxA p es b).1) (ht:zc3 .str t es'=true) {K:Int->Prop} {e:Ex} (he:VK K e):
 evE fxA p es (chE t b e)=evE fxA p es' e:=by
 induction he with
 |num r _=>rw[qg4,zl0,zl0]
 |var s _=>
  rw[zzu,ziw];by_cases c:s=t
  ·subst c;rw[if_pos rfl,hv,hvv,ht];exact Prod.ext rfl hb
  ·rw[if_neg c,ziw,zx1 hD,zx2 hD c]
 |un k a _ h1 _ ih=>
  have hk:k≠1/\k≠2:=by unfold K1 at h1;omega
  rw[zrg t b 0 [a] hk.2];show evE fxA p es (opE k 0 [chE t b a])=_;rw[za2 _ _ _ _ _ _ hk,za2 _ _ _ _ _ _ hk,ih]
 |pow n a _ _ _ _ ih=>
  rw[zrg t b n [a] (by decide)];show evE fxA p es (opE 8 n [chE t b a])=_;rw[za2 _ _ _ _ _ _ (by decide),za2 _ _ _ _ _ _ (by decide),ih]
 |bin k a c _ h1 _ _ ih1 ih2=>
  have hk:k≠1/\k≠2:=by unfold K2 at h1;omega
  rw[zrg t b 0 [a,c] hk.2];show evE fxA p es (opE k 0 [chE t b a,chE t b c])=_;rw[zix _ _ _ _ _ _ _ hk,zix _ _ _ _ _ _ _ hk,ih1,ih2]
theorem qgl {p:Int} {t:ze} {es:za5} {b:Ex} (hb:(evE fxA p es b).2=false) {K:Int->Prop} {e:Ex} (he:VK K e):(∃y∈zfe e,y.k=2/\y.s=t)->(evE fxA p es (chE t b e)).2=false:=by
 induction he with
 |num r _=>
  rintro⟨y,hy,h1,_⟩;simp[zhs,zfe,zdp]at hy;subst hy;cases h1
 |var s _=>
  rintro⟨y,hy,_,h2⟩;simp[zi5,zfe,zdp]at hy;subst hy;obtain rfl:s=t:=h2;rw[zzu,if_pos rfl];exact hb
 |un k a _ h1 _ ih=>
  rintro⟨y,hy,h2,h3⟩;have hk:k≠1/\k≠2:=by unfold K1 at h1;omega
  have:=zh6 hk.2 hy h2;rw[zrg t b 0 [a] hk.2];show(evE fxA p es (opE k 0 [chE t b a])).2=false;have i:=ih ⟨y,by simpa[zdp]using this,h2,h3⟩;rw[za2 _ _ _ _ _ _ hk,if_neg (by rw[i];simp)]
 |pow n a _ _ _ _ ih=>
  rintro⟨y,hy,h2,h3⟩;have:=zh6 (by decide) hy h2;rw[zrg t b n [a] (by decide)];show(evE fxA p es (opE 8 n [chE t b a])).2=false;have i:=ih ⟨y,by simpa[zdp]using this,h2,h3⟩;rw[za2 _ _ _ _ _ _ (by decide),if_neg (by rw[i];simp)]
 |bin k a c _ h1 _ _ ih1 ih2=>
  rintro⟨y,hy,h2,h3⟩;have hk:k≠1/\k≠2:=by unfold K2 at h1;omega
  have:=zh6 hk.2 hy h2;simp only[zdp,List.append_nil,List.mem_append]at this;rw[zrg t b 0 [a,c] hk.2];show(evE fxA p es (opE k 0 [chE t b a,chE t b c])).2=false;rw[zix _ _ _ _ _ _ _ hk];rcases this with hm|hm
  ·have i:=ih1 ⟨y,hm,h2,h3⟩;rw[if_neg (by rw[i];simp)]
  ·have i:=ih2 ⟨y,hm,h2,h3⟩;split
   ·rw[if_neg (by rw[i];simp)]
   ·rfl
theorem zzl {t:ze}: ∀(ns:List ze) (xs:List Iv) (es:za5),zc3 .str t es=true->zc3 .str t (yk ns xs es)=true
 | [],xs,es,h=>by cases xs<;>exact h
 |n::ns,[],es,h=>h
 |n::ns,x::xs,es,h=>zzl ns xs _ (by rw[qf8,h];simp)
theorem zzm {t:ze} {v:Iv}: ∀(ns:List ze) (xs:List Iv) (es:za5) (i:Nat),ns[i]? =some t->xs[i]? =some v->zc3 .str t (yk ns xs es)=true
 | [],_,_,_,h,_=>by simp at h
 | _::_,[],_,_,_,h=>by simp at h
 |n::ns,x::xs,es,i,h,g=>by
  cases i with
  |zero=>
   simp at h g;subst h;subst g;exact zzl ns xs _ (by rw[qf8];simp)
  |succ i=>exact zzm ns xs _ i (by simpa using h) (by simpa using g)
theorem zwy {e b:Ex} {ns:List ze} {xs:List Iv} {p:Int} {i:Nat} {t:ze} (hi:ns[i]? =some t) (hl:ns.length=xs.length) (hok:okT e=true) (hob:okT b=true) (hor:okT (chE t b e)=true) (rx: ∀x∈xs,RI x) (ht:t∈nmE e):
 zfo fxA (chE t b e) ns xs p=zfo fxA e ns (xs.set i (zfo fxA b ns xs p)) p:=by
 have hil:i<xs.length:=by have:=(List.getElem?_eq_some_iff.1 hi).1;omega
 have hD: ∀v,zyj t (yk ns xs []) (yk ns (xs.set i v) []):=fun v=>zpo ns xs _ [] [] (by simp) (fun j n h1 h2=>by
  by_cases hj:i=j
  ·subst hj;rw[hi]at h1;exact absurd (Option.some.inj h1).symm h2
  ·rw[List.getElem?_set_ne hj]) .nil
 have hE: ∀v,enB ns (xs.set i v)=enB ns xs:=fun v=>by
  unfold enB;rw[zx0 (hD v),List.length_set]
 by_cases c:enB ns xs=true/\pcB p=true
 ·obtain⟨c1,c2⟩:=c;have hlen: ∀v,(yk ns (xs.set i v) []).length =([]:za5).length +ns.length:=fun v=>by
   have:=hE v;rw[c1]at this;unfold enB at this;have:=of_decide_eq_true this;rw[this.2.2,this.1];simp
  have hes:REs (yk ns xs []):=zfz ns xs [] rx (fun q hq=>by cases hq)
  cases hb:(evE fxA p (yk ns xs []) b).2 with
  |true=>
   have hv:zfo fxA b ns xs p=(evE fxA p (yk ns xs []) b).1:=by unfold zfo;rw[if_pos ⟨⟨c1,hob,c2⟩,hb⟩]
   have vv:=qgm c2 hes (zwb (zbg hob));have hok2:okI (evE fxA p (yk ns xs []) b).1=(evE fxA p (yk ns xs []) b).1:=by unfold okI;rw[if_pos ((zcx vv.ri).2 vv)]
   rw[hv];have hg:=zub ns _ [] i hi (zmv hil (v:=(evE fxA p (yk ns xs []) b).1)) (hlen _);have hh:=zzm ns _ [] i hi (zmv hil (v:=(evE fxA p (yk ns xs []) b).1));have key:=ev_ch (hD (evE fxA p (yk ns xs []) b).1) hb hg hok2 hh (zwb (zbg hok));unfold zfo;rw[hE,key,hor,hok]
  |false=>
   have hv:zfo fxA b ns xs p=wI0:=by unfold zfo;rw[if_neg fun k=>by rw[hb]at k;cases k.2]
   have hF:=qgl hb (zwb (zbg hok)) ((zm6 hok).1 ht);have hL:zfo fxA (chE t b e) ns xs p=wI0:=by unfold zfo;rw[if_neg fun k=>by rw[hF]at k;cases k.2]
   rw[hv,hL];unfold zfo;split
   ·rename_i k;exact(zun (zub ns _ [] i hi (zmv hil) (hlen _)) (zwb (zbg hok)) ((zm6 hok).1 ht) k.2).symm
   ·rfl
 ·have hL:zfo fxA (chE t b e) ns xs p=wI0:=by unfold zfo;rw[if_neg fun k=>c ⟨k.1.1,k.1.2.2⟩]
  have hR: ∀v,zfo fxA e ns (xs.set i v) p=wI0:=fun v=>by unfold zfo;rw[hE,if_neg fun k=>c ⟨k.1.1,k.1.2.2⟩]
  rw[hL,hR]
end Go.Proofs.YtbolipecnhlnnaaGreatDoor
