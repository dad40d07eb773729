/-
  The natural extension contains exact values, and is isotone.
-/
import Derived.Test.YtajnlbbgolmklaaGreatDoorQYl
import Derived.Test.YtajnlbbgolmklaaGreatDoorQYz
import Derived.Test.YtajnlbbgolmklaaGreatDoorQWx
import Derived.Test.YtajnlbbgolmklaaGreatDoorQYy
import Derived.Test.YtajnlbbgolmklaaGreatDoorQVa
import Derived.Test.YtajnlbbgolmklaaGreatDoorQYe
set_option linter.unusedVariables false
set_option linter.unusedSimpArgs false
namespace Go.Proofs.YtajnlbbgolmklaaGreatDoor
open Go Go.Sx
set_option maxHeartbeats 2000000
inductive All2 {α β:Type} (R:α→β→Prop):List α→List β→Prop
 |nil:All2 R [] []
 |cons {a b l m}:R a b→All2 R l m→All2 R (a::l) (b::m)
theorem enc_VI_in (r:Rt) {p:Int} (hp:pcB p=true):VI (encI r p)∧(rOk r=true→inI (rv r) (encI r p)):=by
 unfold encI
 by_cases h:rOk r=true
 ·rw[if_pos h]
  have hb:=rOk_in h
  unfold rIn at hb
  have vn:=VD_int r.n (by omega)
  have vd:=VD_int r.d (by omega)
  have hd:dv (intD r.d)≠0:=by
   rw[dv_int];exact rat_ne (by omega)
  have R:=div_RT vn vd (nm_ne hd) (pc_of hp)
  have e:dv (intD r.n)/dv (intD r.d)=rv r:=by rw[dv_int,dv_int];rfl
  rw[e]at R
  have hc:CI (madeI (divD (intD r.n) (intD r.d) p.toNat false) (divD (intD r.n) (intD r.d) p.toNat true)):=CI_made (VD_div _ _ _ _ (pc_of hp)) (VD_div _ _ _ _ (pc_of hp))
  exact⟨rt_KI R R hc Rat.le_refl,fun _=>rt_in R R Rat.le_refl Rat.le_refl⟩
 ·rw[if_neg h]
  exact⟨.inr rfl,fun c=>absurd c h⟩
theorem subI_refl {x:Iv} (h:VI x):subI' x x:=by
 rcases h with k|rfl
 ·exact .inr ⟨k.all,k.all,Rat.le_refl,Rat.le_refl⟩
 ·exact .inl rfl
theorem zI_VI:VI zI:= .inl ⟨rfl,VD_zero,VD_zero,by decide⟩
theorem ap_VI {fx:Int→Iv→Int→Iv} {k:Int} (hk:Ka k) {n p:Int} {x y:Iv} (hx:VI x) (hy:VI y) (hp:pcB p=true):VI (apI fx k n x y p):=by
 rcases hk with rfl|rfl|rfl|rfl|rfl|rfl|rfl
 ·exact add_VI hx hy hp
 ·exact sub_VI hx hy hp
 ·exact mul_VI hx hy hp
 ·exact divI_VI hx hy hp
 ·exact neg_VI hx
 ·exact pow_VI hx hp
 ·exact sqrt_VI hx hp
theorem ap_iso {fx:Int→Iv→Int→Iv} {k:Int} (hk:Ka k) {n p:Int} {x y x' y':Iv} (hx:VI x) (hy:VI y) (hx':VI x') (hy':VI y') (hp:pcB p=true) (h1:subI' x x') (h2:subI' y y'):subI' (apI fx k n x y p) (apI fx k n x' y' p):=by
 rcases hk with rfl|rfl|rfl|rfl|rfl|rfl|rfl
 ·exact add_iso hx hy hx' hy' hp h1 h2
 ·exact sub_iso hx hy hx' hy' hp h1 h2
 ·exact mul_iso hx hy hx' hy' hp h1 h2
 ·exact divI_iso hx hy hx' hy' hp h1 h2
 ·exact neg_iso hx hx' h1
 ·exact pow_iso hx hx' hp h1
 ·exact sqrt_iso hx hx' hp h1
def EnvS (es es':EnvI):Prop:=All2 (fun a b=>a.1=b.1∧subI' (okI a.2) (okI b.2)) es es'
theorem envS_has {es es':EnvI} (h:EnvS es es') (s:Bytes):mhas .str s es=mhas .str s es':=by
 induction h with
 |nil=>rfl
 |cons hab _ ih=>
  rename_i a b l l' _
  obtain⟨y,v⟩:=a
  obtain⟨y',v'⟩:=b
  obtain⟨rfl,_⟩:=hab
  simp only[mhas,ih]
theorem envS_get {es es':EnvI} (h:EnvS es es') (s:Bytes):subI' (okI (mget .str s zI es)) (okI (mget .str s zI es')):=by
 induction h with
 |nil=>exact subI_refl (okI_vi zI_ri)
 |cons hab _ ih=>
  rename_i a b l l' _
  obtain⟨y,v⟩:=a
  obtain⟨y',v'⟩:=b
  obtain⟨rfl,h2⟩:=hab
  simp only[mget]
  cases keyB .str s y with
  |true=>exact h2
  |false=>exact ih
theorem envS_put {es es':EnvI} (h:EnvS es es') (n:Bytes) {r r':Iv} (hr:subI' (okI r) (okI r')):EnvS (mput .str n r es) (mput .str n r' es'):=by
 induction h with
 |nil=>exact .cons ⟨rfl,hr⟩ .nil
 |cons hab ht ih=>
  rename_i a b l l'
  obtain⟨y,v⟩:=a
  obtain⟨y',v'⟩:=b
  obtain⟨rfl,h2⟩:=hab
  simp only[mput]
  cases keyB .str n y with
  |true=>exact .cons ⟨rfl,hr⟩ ht
  |false=>exact .cons ⟨rfl,h2⟩ ih
theorem envS_env: ∀ {ns:List Bytes} {xs xs':List Iv},All2 (fun a b=>subI' (okI a) (okI b)) xs xs'→ ∀ {es es':EnvI},EnvS es es'→EnvS (envI ns xs es) (envI ns xs' es')
 | [],_,_,h,_,_,he=>by cases h<;>exact he
 | _::_,_,_,.nil,_,_,he=>he
 |n::ns,_,_,.cons h1 h2,_,_,he=>envS_env (ns:=ns) h2 (envS_put he n h1)
theorem ev_VI {fx:Int→Iv→Int→Iv} {p:Int} (hp:pcB p=true) {es:EnvI} (hes:REs es) {e:Ex} (he:VK Ka e):VI (evE fx p es e).1:=by
 induction he with
 |num r hr=>rw[ev_num];exact(enc_VI_in r hp).1
 |var s hs=>rw[ev_var];exact okI_vi (mget_ri hes)
 |un k a hk h1 _ ih=>
  rw[ev_one fx p es k 0 a (by unfold K1 at h1;omega)]
  split
  ·exact ap_VI (fx:=fx) hk ih zI_VI hp
  ·exact ih
 |pow n a hk h1 h2 _ ih=>
  rw[ev_one fx p es 8 n a (by decide)]
  split
  ·exact ap_VI (fx:=fx) hk ih zI_VI hp
  ·exact ih
 |bin k a b hk h1 _ _ ih1 ih2=>
  rw[ev_two fx p es k 0 a b (by unfold K2 at h1;omega)]
  split
  ·split
   ·exact ap_VI hk ih1 ih2 hp
   ·exact ih2
  ·exact ih1
theorem ev_iso {fx:Int→Iv→Int→Iv} {p:Int} (hp:pcB p=true) {es es':EnvI} (hes:REs es) (hes':REs es') (hS:EnvS es es') {e:Ex} (he:VK Ka e):
 (evE fx p es e).2=(evE fx p es' e).2∧((evE fx p es e).2=true→subI' (evE fx p es e).1 (evE fx p es' e).1):=by
 induction he with
 |num r hr=>rw[ev_num,ev_num];exact⟨rfl,fun _=>subI_refl (enc_VI_in r hp).1⟩
 |var s hs=>rw[ev_var,ev_var];exact⟨envS_has hS s,fun _=>envS_get hS s⟩
 |un k a hk h1 ha ih=>
  have hne:k≠1∧k≠2:=by unfold K1 at h1;omega
  rw[ev_one fx p es k 0 a hne,ev_one fx p es' k 0 a hne]
  rw[←ih.1]
  by_cases c:(evE fx p es a).2=true
  ·rw[if_pos c,if_pos c]
   exact⟨rfl,fun _=>ap_iso (fx:=fx) hk (ev_VI hp hes ha) zI_VI (ev_VI hp hes' ha) zI_VI hp (ih.2 c) (subI_refl zI_VI)⟩
  ·rw[if_neg c,if_neg c]
   exact⟨rfl,fun h=>by cases h⟩
 |pow n a hk h1 h2 ha ih=>
  rw[ev_one fx p es 8 n a (by decide),ev_one fx p es' 8 n a (by decide)]
  rw[←ih.1]
  by_cases c:(evE fx p es a).2=true
  ·rw[if_pos c,if_pos c]
   exact⟨rfl,fun _=>ap_iso (fx:=fx) hk (ev_VI hp hes ha) zI_VI (ev_VI hp hes' ha) zI_VI hp (ih.2 c) (subI_refl zI_VI)⟩
  ·rw[if_neg c,if_neg c]
   exact⟨rfl,fun h=>by cases h⟩
 |bin k a b hk h1 ha hb ih1 ih2=>
  have hne:k≠1∧k≠2:=by unfold K2 at h1;omega
  rw[ev_two fx p es k 0 a b hne,ev_two fx p es' k 0 a b hne]
  rw[←ih1.1,←ih2.1]
  by_cases c:(evE fx p es a).2=true
  ·rw[if_pos c,if_pos c]
   by_cases c2:(evE fx p es b).2=true
   ·rw[if_pos c2,if_pos c2]
    exact⟨rfl,fun _=>ap_iso hk (ev_VI hp hes ha) (ev_VI hp hes hb) (ev_VI hp hes' ha) (ev_VI hp hes' hb) hp (ih1.2 c) (ih2.2 c2)⟩
   ·rw[if_neg c2,if_neg c2]
    exact⟨rfl,fun h=>by cases h⟩
  ·rw[if_neg c,if_neg c]
   exact⟨rfl,fun h=>by cases h⟩
theorem Forall2_len {α β:Type} {R:α→β→Prop} {l:List α} {m:List β} (h:All2 R l m):l.length=m.length:=by
 induction h with
 |nil=>rfl
 |cons _ _ ih=>simp[ih]
theorem val_iso {fx:Int→Iv→Int→Iv} {e:Ex} (hK:okT e=true→VK Ka e) {ns:List Bytes} {xs xs':List Iv} {p:Int} (hx: ∀x∈xs,RI x) (hx': ∀x∈xs',RI x) (hS:All2 (fun a b=>subI' (okI a) (okI b)) xs xs'):
 subI' (valI fx e ns xs p) (valI fx e ns xs' p)∧VI (valI fx e ns xs p)∧VI (valI fx e ns xs' p):=by
 have hl:=Forall2_len hS
 have hE:=envS_env (ns:=ns) hS (es:= []) (es':= []) .nil
 have hel:=Forall2_len hE
 have hen:enB ns xs=enB ns xs':=by unfold enB;rw[hl,hel]
 have r1:=envI_REs ns xs [] hx fun q hq=>by cases hq
 have r2:=envI_REs ns xs' [] hx' fun q hq=>by cases hq
 unfold valI
 rw[hen]
 by_cases c:enB ns xs'=true∧okT e=true∧pcB p=true
 ·have he:=hK c.2.1
  obtain⟨i1,i2⟩:=ev_iso (fx:=fx) c.2.2 r1 r2 hE he
  have v1:=ev_VI (fx:=fx) c.2.2 r1 he
  have v2:=ev_VI (fx:=fx) c.2.2 r2 he
  by_cases d:(evE fx p (envI ns xs []) e).2=true
  ·rw[if_pos ⟨c,d⟩,if_pos ⟨c,by rw[←i1];exact d⟩]
   exact⟨i2 d,v1,v2⟩
  ·rw[if_neg fun h=>d h.2,if_neg fun h=>d (by rw[i1];exact h.2)]
   exact⟨.inl rfl,.inr rfl,.inr rfl⟩
 ·rw[if_neg fun h=>c h.1,if_neg fun h=>c h.1]
  exact⟨.inl rfl,.inr rfl,.inr rfl⟩
theorem rpw_pow (q:Rat): ∀n,rpw q n=q^n
 |0=>by rw[Rat.pow_zero];rfl
 |n+1=>by rw[Rat.pow_succ,←rpw_pow q n];rfl
theorem ev_in {fx:Int→Iv→Int→Iv} {p:Int} (hp:pcB p=true) {es:EnvI} (hes:REs es) {ρ:Bytes→Rat} (hρ: ∀s,mhas .str s es=true→inI (ρ s) (okI (mget .str s zI es))) {e:Ex} (he:VK Ka e):
 (evE fx p es e).2=true→ ∀v,qv ρ e=some v→inI v (evE fx p es e).1:=by
 induction he with
 |num r hr=>
  rw[ev_num,qv_rat]
  intro _ v hv
  obtain rfl:=Option.some.inj hv
  exact(enc_VI_in r hp).2 hr
 |var s hs=>
  rw[ev_var,qv_var]
  intro h v hv
  obtain rfl:=Option.some.inj hv
  exact hρ s h
 |un k a hk h1 ha ih=>
  have hne:k≠1∧k≠2:=by unfold K1 at h1;omega
  rw[ev_one fx p es k 0 a hne,qv_one ρ a hne]
  intro h v hv
  by_cases c:(evE fx p es a).2=true
  ·rw[if_pos c]at h⊢
   cases hq:qv ρ a with
   |none=>rw[hq]at hv;cases hv
   |some u=>
    rw[hq]at hv
    have hu:=ih c u hq
    simp only[qop1]at hv
    by_cases k7:k=7
    ·subst k7
     rw[if_pos rfl]at hv
     obtain rfl:=Option.some.inj hv
     exact neg_in (ev_VI hp hes ha) hu
    ·rw[if_neg k7,if_neg (by unfold K1 at h1;omega)]at hv
     cases hv
  ·rw[if_neg c]at h;cases h
 |pow n a hk h1 h2 ha ih=>
  rw[ev_one fx p es 8 n a (by decide),qv_one ρ a (by decide)]
  intro h v hv
  by_cases c:(evE fx p es a).2=true
  ·rw[if_pos c]at h⊢
   cases hq:qv ρ a with
   |none=>rw[hq]at hv;cases hv
   |some u=>
    rw[hq]at hv
    have hu:=ih c u hq
    simp only[qop1]at hv
    rw[if_neg (by decide),if_pos trivial]at hv
    obtain rfl:=Option.some.inj hv
    rw[←rpw_pow]
    exact pow_in (ev_VI hp hes ha) hp ⟨h1,h2⟩ hu
  ·rw[if_neg c]at h;cases h
 |bin k a b hk h1 ha hb ih1 ih2=>
  have hne:k≠1∧k≠2:=by unfold K2 at h1;omega
  rw[ev_two fx p es k 0 a b hne,qv_two ρ a b hne]
  intro h v hv
  by_cases c:(evE fx p es a).2=true
  ·rw[if_pos c]at h⊢
   by_cases c2:(evE fx p es b).2=true
   ·rw[if_pos c2]at h⊢
    cases hq:qv ρ a with
    |none=>rw[hq]at hv;cases hv
    |some u=>
     cases hq2:qv ρ b with
     |none=>rw[hq,hq2]at hv;cases hv
     |some w=>
      rw[hq,hq2]at hv
      have hu:=ih1 c u hq
      have hw:=ih2 c2 w hq2
      have va:=ev_VI (fx:=fx) hp hes ha
      have vb:=ev_VI (fx:=fx) hp hes hb
      simp only[qop2]at hv
      rcases h1 with rfl|rfl|rfl|rfl
      ·rw[if_pos rfl]at hv
       obtain rfl:=Option.some.inj hv
       exact add_in va vb hp hu hw
      ·rw[if_neg (by decide),if_pos rfl]at hv
       obtain rfl:=Option.some.inj hv
       exact sub_in va vb hp hu hw
      ·rw[if_neg (by decide),if_neg (by decide),if_pos rfl]at hv
       obtain rfl:=Option.some.inj hv
       exact mul_in va vb hp hu hw
      ·rw[if_neg (by decide),if_neg (by decide),if_neg (by decide)]at hv
       split at hv
       ·cases hv
       ·obtain rfl:=Option.some.inj hv
        exact divI_in va vb hp hu hw
   ·rw[if_neg c2]at h;cases h
  ·rw[if_neg c]at h;cases h
end Go.Proofs.YtajnlbbgolmklaaGreatDoor

namespace Go.Proofs.YtajnlbbgolmklaaGreatDoor
open Go Go.Sx
set_option maxHeartbeats 2000000
theorem less_le (a b:Dy):dv (lessD a b)≤dv a∧dv (lessD a b)≤dv b:=by
 unfold lessD
 by_cases h:cmpD a b≤0
 ·rw[if_pos h];exact⟨Rat.le_refl,cmp_le.1 h⟩
 ·rw[if_neg h];exact⟨cmp_ge.1 (by omega),Rat.le_refl⟩
theorem more_ge (a b:Dy):dv a≤dv (moreD a b)∧dv b≤dv (moreD a b):=by
 unfold moreD
 by_cases h:0≤cmpD a b
 ·rw[if_pos h];exact⟨Rat.le_refl,cmp_ge.1 h⟩
 ·rw[if_neg h];exact⟨cmp_le.1 (by omega),Rat.le_refl⟩
theorem hull_KI {x y:Iv} (hx:KI x) (hy:KI y):KI ⟨lessD x.lo y.lo,moreD x.hi y.hi,false⟩:=
 ⟨rfl,VD_less hx.lo hy.lo,VD_more hx.hi hy.hi,cmp_le.2 (Rat.le_trans (less_le x.lo y.lo).1 (Rat.le_trans hx.dle (more_ge x.hi y.hi).1))⟩
theorem hull_VI {x y:Iv} (hx:RI x) (hy:RI y):VI (hullI x y):=by
 unfold hullI
 by_cases h:(kB x&&kB y)=true
 ·rw[if_pos h]
  obtain⟨a,b⟩:=(kB_and hx hy).1 h
  exact .inl (hull_KI a b)
 ·rw[if_neg h];exact .inr rfl
theorem okI_of {x:Iv} (h:VI x):okI x=x:=by
 unfold okI
 rw[if_pos ((viB_iff h.ri).2 h)]
theorem hull_sub {x y:Iv} (hx:RI x) (hy:RI y):subI' (okI x) (okI (hullI x y)):=by
 rw[okI_of (hull_VI hx hy)]
 unfold hullI
 by_cases h:(kB x&&kB y)=true
 ·rw[if_pos h]
  obtain⟨a,b⟩:=(kB_and hx hy).1 h
  rw[okI_of (.inl a)]
  exact .inr ⟨a.all,rfl,(less_le _ _).1,(more_ge _ _).1⟩
 ·rw[if_neg h];exact .inl rfl
def lgI:List Iv→List Iv→List Iv
 |x::xs,m::ms=>hullI x m::lgI xs ms
 |xs,_=>xs
theorem lgI_nil (xs:List Iv):lgI xs []=xs:=by cases xs<;>rfl
theorem lgI_len: ∀(xs ms:List Iv),(lgI xs ms).length =xs.length
 | [],[]=>rfl
 | [],_::_=>rfl
 | _::_,[]=>rfl
 |x::xs,m::ms=>by simp[lgI,lgI_len xs ms]
theorem lgI_ri: ∀ {xs ms:List Iv},(∀x∈xs,RI x)→(∀x∈ms,RI x)→ ∀x∈lgI xs ms,RI x
 | [],ms,h,_=>by cases ms<;>exact h
 | _::_,[],h,_=>h
 |x::xs,m::ms,h,g=>by
  intro z hz
  rcases List.mem_cons.1 hz with rfl|hz
  ·exact(hull_VI (h x List.mem_cons_self) (g m List.mem_cons_self)).ri
  ·exact lgI_ri (fun a ha=>h a (List.mem_cons_of_mem _ ha)) (fun a ha=>g a (List.mem_cons_of_mem _ ha)) z hz
theorem all2_refl: ∀ {xs:List Iv},(∀x∈xs,RI x)→All2 (fun a b=>subI' (okI a) (okI b)) xs xs
 | [],_=> .nil
 |x::xs,h=> .cons (subI_refl (okI_vi (h x List.mem_cons_self))) (all2_refl fun a ha=>h a (List.mem_cons_of_mem _ ha))
theorem lgI_sub: ∀ {xs ms:List Iv},(∀x∈xs,RI x)→(∀x∈ms,RI x)→All2 (fun a b=>subI' (okI a) (okI b)) xs (lgI xs ms)
 | [],ms,h,_=>by cases ms<;>exact .nil
 | _::_,[],h,_=>all2_refl h
 |x::xs,m::ms,h,g=> .cons (hull_sub (h x List.mem_cons_self) (g m List.mem_cons_self)) (lgI_sub (fun a ha=>h a (List.mem_cons_of_mem _ ha)) (fun a ha=>g a (List.mem_cons_of_mem _ ha)))
theorem lgI_step (xs ms:List Iv) (i:Nat) {x m:Iv} (hx:xs[i]? =some x) (hm:ms[i]? =some m):
 ((lgI xs ms).take i++xs.drop i).set i (hullI x m)=(lgI xs ms).take (i+1)++xs.drop (i+1):=by
 have hg:(lgI xs ms)[i]? =some (hullI x m):=by
  induction xs generalizing ms i with
  |nil=>simp at hx
  |cons a xs ih=>
   cases ms with
   |nil=>simp at hm
   |cons b ms=>
    cases i with
    |zero=>simp at hx hm;subst hx hm;rfl
    |succ i=>simpa[lgI]using ih ms i (by simpa using hx) (by simpa using hm)
 have hi:i<(lgI xs ms).length :=by rw[List.getElem?_eq_some_iff]at hg;exact hg.1
 have hl:((lgI xs ms).take i).length =i:=by rw[List.length_take];omega
 rw[List.set_append_right _ _ (by omega),hl,Nat.sub_self,drop_get hx,List.set_cons_zero,List.take_add_one,hg]
 simp
theorem lgI_rest (xs ms:List Iv) (i:Nat) {x:Iv} (hx:xs[i]? =some x) (hm:ms.length≤i):
 (lgI xs ms).take i++xs.drop i=(lgI xs ms).take (i+1)++xs.drop (i+1):=by
 have hg:(lgI xs ms)[i]? =some x:=by
  induction xs generalizing ms i with
  |nil=>simp at hx
  |cons a xs ih=>
   cases ms with
   |nil=>exact hx
   |cons b ms=>
    cases i with
    |zero=>simp at hm
    |succ i=>simpa[lgI]using ih ms i (by simpa using hx) (by simpa using hm)
 rw[drop_get hx,List.take_add_one,hg]
 simp
def insB (x y:Iv):Bool:=(viB x&&viB y)&&(y.all||(!x.all&&decide (cmpD y.lo x.lo≤0)&&decide (cmpD x.hi y.hi≤0)))
theorem insB_of {x y:Iv} (hx:VI x) (hy:VI y) (h:subI' x y):insB x y=true:=by
 unfold insB
 rw[(viB_iff hx.ri).2 hx,(viB_iff hy.ri).2 hy]
 rcases h with h|⟨h1,_,h2,h3⟩
 ·simp[h]
 ·simp[h1,cmp_le.2 h2,cmp_le.2 h3]
theorem preL_mem: ∀ {l:List Ex} {x y:Ex},x∈l→y∈preE x→y∈preL l
 |a::l,x,y,hx,hy=>by
  simp only[preL,List.mem_append]
  rcases List.mem_cons.1 hx with rfl|hx
  ·exact .inl hy
  ·exact .inr (preL_mem hx hy)
def alg (k:Int):Prop:=k≤8∨k=13
theorem VK_of': ∀ {e:Ex},VT e→(∀y∈preE e,alg y.k)→VK Ka e
 | _,.num r h,_=> .num r h
 | _,.var s h,_=> .var s h
 | _,.un k a h1 h2,h=> .un k a (by
    have:alg k:=h (opE k 0 [a]) (by simp[preE,opE])
    unfold alg at this;unfold K1 at h1;unfold Ka;omega) h1 (VK_of' h2 fun y hy=>h y (by
    simp only[opE,preE,List.mem_cons]
    exact .inr (preL_mem List.mem_cons_self hy)))
 | _,.pow n a h1 h2 h3,h=> .pow n a (by unfold Ka;omega) h1 h2 (VK_of' h3 fun y hy=>h y (by
    simp only[opE,preE,List.mem_cons]
    exact .inr (preL_mem List.mem_cons_self hy)))
 | _,.bin k a b h1 h2 h3,h=> .bin k a b (by
    unfold K2 at h1;unfold Ka;omega) h1 (VK_of' h2 fun y hy=>h y (by
    simp only[opE,preE,List.mem_cons]
    exact .inr (preL_mem List.mem_cons_self hy))) (VK_of' h3 fun y hy=>h y (by
    simp only[opE,preE,List.mem_cons]
    exact .inr (preL_mem (List.mem_cons_of_mem _ List.mem_cons_self) hy)))
theorem iso_law {fx:Int→Iv→Int→Iv} {e:Ex} (hK:okT e=true→ ∀y∈preE e,alg y.k) {ns:List Bytes} {xs ms:List Iv} {p:Int} (hx: ∀x∈xs,RI x) (hm: ∀x∈ms,RI x):
 insB (valI fx e ns xs p) (valI fx e ns (lgI xs ms) p)=true:=by
 obtain⟨h1,h2,h3⟩:=val_iso (fx:=fx) (e:=e) (fun h=>VK_of' (okT_VT h) (hK h)) (ns:=ns) (p:=p) hx (lgI_ri hx hm) (lgI_sub hx hm)
 exact insB_of h2 h3 h1
end Go.Proofs.YtajnlbbgolmklaaGreatDoor

namespace Go.Proofs.YtajnlbbgolmklaaGreatDoor
open Go Go.Sx
set_option maxRecDepth 100000
set_option maxHeartbeats 8000000
def T8a:Tab:= {T6 with gl:=3::T6.gl}
theorem hT8a:TabOK Tryz.prog T8a:=tab_ok (by kernel_rfl) (by kernel_rfl)
def T8:Tab:= {T6 with nb:=(13,1)::T6.nb,gl:=3::T6.gl}
theorem hT8:TabOK Tryz.prog T8:=tab_ok (by kernel_rfl) (by kernel_rfl)
def lgV (x:Iv):Bool:=decide (20<x.lo.m.length)||decide (20<x.hi.m.length)
theorem x49 (x:Iv):Fn 49 [] [.agg (ivC x)] (.bool (lgV x)) []:=by
 obtain⟨⟨x1,x2,x3⟩,⟨x4,x5,x6⟩,x7⟩:=x
 obtain⟨A,hA⟩: ∃A,lgV ⟨⟨x1,x2,x3⟩,⟨x4,x5,x6⟩,x7⟩=A:=⟨_,rfl⟩
 rw[hA]
 simp only[lgV]at hA
 show Fn 49 [] [.agg [.bool x1,.sl .u32 x2,.int .i64 x3,.bool x4,.sl .u32 x5,.int .i64 x6,.bool x7]] _ []
 refine fnT hT8 hmx Tryz.func49 rfl rfl (ex:= []) ?_
 conv=>whnf
 refine brI (fun h1=>?_) (fun h1=>?_)
 ·have h1:=of_decide_eq_true h1
  conv=>whnf
  exact⟨ab0 (by rw[←hA,decide_eq_true (show 20<x2.length by omega)];rfl),lh0⟩
 ·have h1:=of_decide_eq_false h1
  rw[decide_eq_false (show ¬20<x2.length by omega)]at hA
  conv=>whnf
  refine⟨ab0 ?_,lh0⟩
  rw[←hA,Bool.false_or,Bool.eq_iff_iff,decide_eq_true_eq,decide_eq_true_eq]
  omega
theorem x104 (l:List Iv) (hlen:l.length<9223372036854775808):Fn 104 [] [.sl .iv l,.fn 49 []] (.int .i64 (ixP lgV l 0)) []:=by
 refine fnT hT8 hmx Tryz.func104 rfl rfl (ex:= []) ?_
 conv=>whnf
 refine⟨Nat,fun i=>i≤l.length∧ixP lgV (l.drop i) i=ixP lgV l 0,fun i=> [(8,.int .i64 i)],fun _=> [],fun i=>l.length-i,0,⟨by simp,rfl⟩,?_,fun i hi=>?_⟩
 ·((conv=>whnf);refine And.intro ?_ ?_;repeat' first|refine lc ?_ ?_|exact la0|exact lr rfl|exact ln0|refine lh1 ?_ ?_|exact lh0|exact bf0|exact bd0|refine bc0 ?_|exact bm0 rfl|exact bg0 rfl|exact li0 rfl|refine lg0 ?_|refine lt0 ?_|fail)
 (refine⟨by kernel_rfl,?_⟩;(conv=>whnf))
 obtain⟨hi1,hi2⟩:=hi
 refine brI (fun h1=>?_) (fun h1=>?_)
 ·conv=>whnf
  have hi:i<l.length:=by simp only[decide_eq_true_eq]at h1;omega
  refine⟨⟨by omega,by omega⟩,fun(x:Iv) hx=>?_⟩
  have hx:l[i]? =some x:=by simpa using hx
  rw[drop_get hx]at hi2
  simp only[ixP]at hi2
  have h49:=x49 x
  generalize lgV x=B at h49 hi2
  obtain⟨⟨x1,x2,x3⟩,⟨x4,x5,x6⟩,x7⟩:=x
  have h49:Fn 49 [] [.agg [.bool x1,.sl .u32 x2,.int .i64 x3,.bool x4,.sl .u32 x5,.int .i64 x6,.bool x7]] (.bool B) []:=h49
  conv=>whnf
  refine cbI [] B h49 (fun h2=>?_) (fun h2=>?_)
  ·conv=>whnf
   rw[if_pos h2]at hi2
   exact⟨ai0 hi2,lh0⟩
  ·conv=>whnf
   rw[if_neg (by rw[h2];simp)]at hi2
   refine⟨i+1,⟨by omega,hi2⟩,by show l.length-(i+1)<l.length-i;omega,?_⟩
   ((conv=>whnf);refine And.intro ?_ ?_;repeat' first|refine lc ?_ ?_|exact la0|exact lr rfl|exact ln0|refine lh1 ?_ ?_|exact lh0|exact bf0|exact bd0|refine bc0 ?_|exact bm0 rfl|exact bg0 rfl|exact li0 rfl|refine lg0 ?_|refine lt0 ?_|fail)
   exact ai0 (by rw[wI (by omega)];omega)
 ·conv=>whnf
  have hi: ¬i<l.length:=by simp only[decide_eq_false_iff_not]at h1;omega
  rw[List.drop_of_length_le (by omega)]at hi2
  exact⟨ai0 hi2,lh0⟩
theorem x48 (l:List Iv) (hlen:l.length<9223372036854775808):Fn 48 [] [.sl .iv l,.fn 49 []] (.bool (l.any lgV)) []:=by
 refine fnT hT8 hmx Tryz.func48 rfl rfl (ex:= []) ?_
 conv=>whnf
 refine⟨[],_,x104 l hlen,?_⟩
 conv=>whnf
 exact⟨ab0 (by rw[Bool.eq_iff_iff,decide_eq_true_eq];exact ixP_iff lgV l 0),lh0⟩
def grB (ns:List Bytes) (xs:List Iv) (p:Int):Bool:=
 if 20<ns.length then true else if 20<xs.length then true else if 64<p∧p≤512 then true else xs.any lgV
theorem grB_len {ns:List Bytes} {xs:List Iv} {p:Int} (h:grB ns xs p=false):ns.length≤20∧xs.length≤20∧ ∀x∈xs,x.lo.m.length≤20∧x.hi.m.length≤20:=by
 unfold grB at h
 split at h
 ·cases h
 split at h
 ·cases h
 split at h
 ·cases h
 refine⟨by omega,by omega,fun x hx=>?_⟩
 have:=List.any_eq_false.1 h x hx
 unfold lgV at this
 simp only[Bool.or_eq_true,decide_eq_true_eq,not_or]at this
 omega
theorem x10 (ns:List Bytes) (xs:List Iv) (p:Int) (h1:ns.length<9223372036854775808) (h2:xs.length<9223372036854775808):
 Fn 10 [] [.sl .str ns,.sl .iv xs,.int .i64 p] (.bool (grB ns xs p)) []:=by
 have h48:=x48 xs h2
 obtain⟨A,hA⟩: ∃A,grB ns xs p=A:=⟨_,rfl⟩
 rw[hA]
 unfold grB at hA
 generalize xs.any lgV=B at h48 hA
 refine fnT hT8 hmx Tryz.func10 rfl rfl (ex:= []) ?_
 conv=>whnf
 refine brI (fun k1=>?_) (fun k1=>?_)
 ·have k1:=of_decide_eq_true k1
  rw[if_pos (by omega)]at hA
  conv=>whnf
  exact⟨ab0 hA,lh0⟩
 have k1:=of_decide_eq_false k1
 rw[if_neg (by omega)]at hA
 conv=>whnf
 refine brI (fun k2=>?_) (fun k2=>?_)
 ·have k2:=of_decide_eq_true k2
  rw[if_pos (by omega)]at hA
  conv=>whnf
  exact⟨ab0 hA,lh0⟩
 have k2:=of_decide_eq_false k2
 rw[if_neg (by omega)]at hA
 conv=>whnf
 refine brI (fun k3=>?_) (fun k3=>?_)
 ·have k3:=of_decide_eq_true k3
  conv=>whnf
  refine brI (fun k4=>?_) (fun k4=>?_)
  ·have k4:=of_decide_eq_true k4
   rw[if_pos (by omega)]at hA
   conv=>whnf
   exact⟨ab0 hA,lh0⟩
  ·have k4:=of_decide_eq_false k4
   rw[if_neg (by omega)]at hA
   subst hA
   conv=>whnf
   refine⟨[],_,h48,?_⟩
   conv=>whnf
   exact⟨lr rfl,lh0⟩
 ·have k3:=of_decide_eq_false k3
  rw[if_neg (by omega)]at hA
  subst hA
  conv=>whnf
  refine⟨[],_,h48,?_⟩
  conv=>whnf
  exact⟨lr rfl,lh0⟩
instance (k:Int):Decidable (alg k):=inferInstanceAs (Decidable (_∨_))
def algB (l:List Ex):Bool:=l.all fun y=>decide (alg y.k)
theorem x12 (e:Ex) (he:sizE e≤500):Fn 12 [] [.agg (exC e)] (.bool (algB (preE e))) []:=by
 have h42:=y42 e (by omega)
 have hl:(preE e).length ≤500:=by rw[preE_len];exact he
 generalize preE e=l at h42 hl
 cases e
 refine fnT hT8 hmx Tryz.func12 rfl rfl (ex:= []) ?_
 conv=>whnf
 refine⟨[],_,h42,?_⟩
 conv=>whnf
 refine⟨Nat,fun i=>i≤l.length∧algB (l.drop i)=algB l,fun i=> [(4,.int .i64 i)],fun _=> [],fun i=>l.length-i,0,⟨by simp,by simp⟩,?_,fun i hi=>?_⟩
 ·((conv=>whnf);refine And.intro ?_ ?_;repeat' first|refine lc ?_ ?_|exact la0|exact lr rfl|exact ln0|refine lh1 ?_ ?_|exact lh0|exact bf0|exact bd0|refine bc0 ?_|exact bm0 rfl|exact bg0 rfl|exact li0 rfl|refine lg0 ?_|refine lt0 ?_|fail)
 (refine⟨by kernel_rfl,?_⟩;(conv=>whnf))
 obtain⟨hi1,hi2⟩:=hi
 refine brI (fun h1=>?_) (fun h1=>?_)
 ·have hi:i<l.length:=by simp only[decide_eq_true_eq]at h1;omega
  conv=>whnf
  refine⟨⟨by omega,by omega⟩,fun(x:Ex) hx=>?_⟩
  have hx:l[i]? =some x:=by simpa using hx
  rw[drop_get hx]at hi2
  simp only[algB,List.all_cons]at hi2
  conv=>whnf
  refine brI (fun h2=>?_) (fun h2=>?_)
  ·have h2:8<x.k:=of_decide_eq_true h2
   conv=>whnf
   refine⟨⟨by omega,by omega⟩,fun(x':Ex) hx'=>?_⟩
   have hx':l[i]? =some x':=by simpa using hx'
   obtain rfl:x=x':=by rw[hx]at hx';exact Option.some.inj hx'
   conv=>whnf
   refine brI (fun h3=>?_) (fun h3=>?_)
   ·have h3:(x.k != 13)=true:=h3
    have h3:x.k≠13:=by simpa using h3
    rw[decide_eq_false (show ¬alg x.k by unfold alg;omega)]at hi2
    conv=>whnf
    exact⟨ab0 (by rw[algB,←hi2];rfl),lh0⟩
   ·have h3:(x.k != 13)=false:=h3
    have h3:x.k=13:=by simpa using h3
    rw[decide_eq_true (show alg x.k by unfold alg;omega)]at hi2
    conv=>whnf
    refine⟨i+1,⟨by omega,by simpa[algB]using hi2⟩,by show l.length-(i+1)<l.length-i;omega,?_⟩
    ((conv=>whnf);refine And.intro ?_ ?_;repeat' first|refine lc ?_ ?_|exact la0|exact lr rfl|exact ln0|refine lh1 ?_ ?_|exact lh0|exact bf0|exact bd0|refine bc0 ?_|exact bm0 rfl|exact bg0 rfl|exact li0 rfl|refine lg0 ?_|refine lt0 ?_|fail)
    exact ai0 (by rw[wI (by omega)];omega)
  ·have h2: ¬8<x.k:=of_decide_eq_false h2
   rw[decide_eq_true (show alg x.k by unfold alg;omega)]at hi2
   conv=>whnf
   refine⟨i+1,⟨by omega,by simpa[algB]using hi2⟩,by show l.length-(i+1)<l.length-i;omega,?_⟩
   ((conv=>whnf);refine And.intro ?_ ?_;repeat' first|refine lc ?_ ?_|exact la0|exact lr rfl|exact ln0|refine lh1 ?_ ?_|exact lh0|exact bf0|exact bd0|refine bc0 ?_|exact bm0 rfl|exact bg0 rfl|exact li0 rfl|refine lg0 ?_|refine lt0 ?_|fail)
   exact ai0 (by rw[wI (by omega)];omega)
 ·have hi: ¬i<l.length:=by simp only[decide_eq_false_iff_not]at h1;omega
  rw[List.drop_of_length_le (by omega)]at hi2
  conv=>whnf
  exact⟨ab0 hi2,lh0⟩
theorem x13n:Fn 13 [] [.sl .iv []] (.sl .iv []) []:=by
 refine fnT hT8a hmx Tryz.func13 rfl rfl (ex:= []) ?_
 conv=>whnf
 refine⟨fun h=>?_,fun _=>?_⟩
 ·conv=>whnf
  exact⟨li0 rfl,lh0⟩
 ·conv=>whnf
  refine⟨by simp,?_⟩
  conv=>whnf
  exact⟨leA_sl (by simp),lh0⟩
theorem x13 (l:List Iv) (hl:l.length≤1000000) (h0:l≠ []):Fn 13 [] [.sl .iv l] (.own 2000000) [(2000000,.buf 37 .iv l)]:=by
 refine fnT hT8 hmx Tryz.func13 rfl rfl (ex:= [7]) ?_
 conv=>whnf
 refine⟨fun h=>absurd h h0,fun _=>?_⟩
 conv=>whnf
 refine⟨by simp;omega,?_⟩
 conv=>whnf
 exact⟨lr rfl,lh1 (bb0 (by simp)) lh0⟩
theorem x15 (x y:Iv) (hx:RI x) (hy:RI y) (vx:VI x) (vy:VI y):Fn 15 [] [.agg (ivC x),.agg (ivC y)] (.bool (insB x y)) []:=by
 have hA:insB x y=((viB x&&viB y)&&(y.all||(!x.all&&decide (cmpD y.lo x.lo≤0)&&decide (cmpD x.hi y.hi≤0)))):=rfl
 have h1:=i51 x hx
 have h2:=i51 y hy
 rw[(viB_iff hx).2 vx]at hA h1
 rw[(viB_iff hy).2 vy]at hA h2
 generalize insB x y=A at hA⊢
 by_cases ay:y.all=true
 ·rw[ay]at hA
  simp at hA
  subst hA
  clear hx hy vx vy
  obtain⟨⟨x1,x2,x3⟩,⟨x4,x5,x6⟩,x7⟩:=x
  obtain⟨⟨y1,y2,y3⟩,⟨y4,y5,y6⟩,y7⟩:=y
  obtain rfl:y7=true:=ay
  have h1:Fn 17 [] [.agg [.bool x1,.sl .u32 x2,.int .i64 x3,.bool x4,.sl .u32 x5,.int .i64 x6,.bool x7]] (.bool true) []:=h1
  have h2:Fn 17 [] [.agg [.bool y1,.sl .u32 y2,.int .i64 y3,.bool y4,.sl .u32 y5,.int .i64 y6,.bool true]] (.bool true) []:=h2
  show Fn 15 [] [.agg [.bool x1,.sl .u32 x2,.int .i64 x3,.bool x4,.sl .u32 x5,.int .i64 x6,.bool x7],.agg [.bool y1,.sl .u32 y2,.int .i64 y3,.bool y4,.sl .u32 y5,.int .i64 y6,.bool true]] _ []
  refine fnT hT8 hmx Tryz.func15 rfl rfl (ex:= []) ?_
  conv=>whnf
  refine⟨[],_,h1,?_⟩
  conv=>whnf
  refine⟨[],_,h2,?_⟩
  conv=>whnf
  exact⟨lr rfl,lh0⟩
 have ky:=(vi_all vy).1 (by simpa using ay)
 have ay:y.all=false:=ky.all
 by_cases ax:x.all=true
 ·rw[ax,ay]at hA
  simp at hA
  subst hA
  clear hx hy vx vy ky
  obtain⟨⟨x1,x2,x3⟩,⟨x4,x5,x6⟩,x7⟩:=x
  obtain⟨⟨y1,y2,y3⟩,⟨y4,y5,y6⟩,y7⟩:=y
  obtain rfl:y7=false:=ay
  obtain rfl:x7=true:=ax
  have h1:Fn 17 [] [.agg [.bool x1,.sl .u32 x2,.int .i64 x3,.bool x4,.sl .u32 x5,.int .i64 x6,.bool true]] (.bool true) []:=h1
  have h2:Fn 17 [] [.agg [.bool y1,.sl .u32 y2,.int .i64 y3,.bool y4,.sl .u32 y5,.int .i64 y6,.bool false]] (.bool true) []:=h2
  show Fn 15 [] [.agg [.bool x1,.sl .u32 x2,.int .i64 x3,.bool x4,.sl .u32 x5,.int .i64 x6,.bool true],.agg [.bool y1,.sl .u32 y2,.int .i64 y3,.bool y4,.sl .u32 y5,.int .i64 y6,.bool false]] _ []
  refine fnT hT8 hmx Tryz.func15 rfl rfl (ex:= []) ?_
  conv=>whnf
  refine⟨[],_,h1,?_⟩
  conv=>whnf
  refine⟨[],_,h2,?_⟩
  conv=>whnf
  exact⟨lr rfl,lh0⟩
 have kx:=(vi_all vx).1 (by simpa using ax)
 have ax:x.all=false:=kx.all
 have c1:=v81 ky.lo kx.lo
 have c2:=v81 kx.hi ky.hi
 rw[ax,ay]at hA
 generalize cmpD y.lo x.lo=C at hA c1
 generalize cmpD x.hi y.hi=D at hA c2
 clear hx hy vx vy kx ky
 obtain⟨⟨x1,x2,x3⟩,⟨x4,x5,x6⟩,x7⟩:=x
 obtain⟨⟨y1,y2,y3⟩,⟨y4,y5,y6⟩,y7⟩:=y
 obtain rfl:y7=false:=ay
 obtain rfl:x7=false:=ax
 have h1:Fn 17 [] [.agg [.bool x1,.sl .u32 x2,.int .i64 x3,.bool x4,.sl .u32 x5,.int .i64 x6,.bool false]] (.bool true) []:=h1
 have h2:Fn 17 [] [.agg [.bool y1,.sl .u32 y2,.int .i64 y3,.bool y4,.sl .u32 y5,.int .i64 y6,.bool false]] (.bool true) []:=h2
 have c1:Fn 55 [] [.agg [.bool y1,.sl .u32 y2,.int .i64 y3],.agg [.bool x1,.sl .u32 x2,.int .i64 x3]] (.int .i64 C) []:=c1
 have c2:Fn 55 [] [.agg [.bool x4,.sl .u32 x5,.int .i64 x6],.agg [.bool y4,.sl .u32 y5,.int .i64 y6]] (.int .i64 D) []:=c2
 show Fn 15 [] [.agg [.bool x1,.sl .u32 x2,.int .i64 x3,.bool x4,.sl .u32 x5,.int .i64 x6,.bool false],.agg [.bool y1,.sl .u32 y2,.int .i64 y3,.bool y4,.sl .u32 y5,.int .i64 y6,.bool false]] _ []
 refine fnT hT8 hmx Tryz.func15 rfl rfl (ex:= []) ?_
 conv=>whnf
 refine⟨[],_,h1,?_⟩
 conv=>whnf
 refine⟨[],_,h2,?_⟩
 conv=>whnf
 refine⟨[],_,c1,?_⟩
 conv=>whnf
 refine brI (fun k1=>?_) (fun k1=>?_)
 ·have k1:=of_decide_eq_true k1
  conv=>whnf
  refine⟨[],_,c2,?_⟩
  conv=>whnf
  exact⟨ab0 (by rw[hA,decide_eq_true k1];simp),lh0⟩
 ·have k1:=of_decide_eq_false k1
  conv=>whnf
  exact⟨ab0 (by rw[hA,decide_eq_false k1];simp),lh0⟩
end Go.Proofs.YtajnlbbgolmklaaGreatDoor
