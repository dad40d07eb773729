/-
  circle: near, point, unit.
-/
import Derived.Test.YtajnlbbgolmklaaGreatDoorQXg
import Derived.Test.YtajnlbbgolmklaaGreatDoorQYz
set_option linter.unusedVariables false
set_option linter.unusedSimpArgs false
namespace Go.Proofs.YtajnlbbgolmklaaGreatDoor
open Go Go.Sx
set_option maxRecDepth 100000
set_option maxHeartbeats 8000000
theorem qel (neg:Bool) (n:Nat) (e:Int):VD (mkN neg n e).1:=by
 unfold mkN
 split
 ·exact qs
 ·unfold ckN
  split
  ·rename_i h;exact zld h
  ·exact qs
def neX (a:Fx) (b:Nat) (s:Bool):Dy×Int:=mkN (jk a (s,2^24)).1 (jk a (s,2^24)).2 (-(b:Int))
def neI (a:Fx) (b p:Nat):Iv:=if(neX a b true).2≠0∨(neX a b false).2≠0 then wI0 else wd (qm (neX a b true).1 p false) (qm (neX a b false).1 p true)
theorem CI_ne (a:Fx) (b p:Nat) (hp:8≤p∧p≤512):CI (neI a b p):=by
 unfold neI
 split
 ·exact zg2
 ·exact ua (jf _ _ _ hp) (jf _ _ _ hp)
theorem c207 (a:Fx) (b p:Nat) (hb:b≤2000) (hp:8≤p∧p≤512) (ha:bl a.2≤4000):Fn 207 G0 [.agg (fxC a),.int .i64 b,.int .i64 p] (.agg (ivC (neI a b p))) G0:=by
 have c1:=zwh 1 24 (by decide+kernel) (by decide)
 rw[toL1,Nat.one_mul]at c1
 have b24:bl (2^24)≤30:=jd.2 (by decide)
 have h25:=i25
 rw[e25]at h25
 have hX:neX a b true=mkN (jk a (true,2^24)).1 (jk a (true,2^24)).2 (-(b:Int)):=rfl
 have hY:neX a b false=mkN (jk a (false,2^24)).1 (jk a (false,2^24)).2 (-(b:Int)):=rfl
 have hR:neI a b p=if(neX a b true).2≠0∨(neX a b false).2≠0 then wI0 else wd (qm (neX a b true).1 p false) (qm (neX a b false).1 p true):=rfl
 generalize hz:2^24=z at*
 clear hz
 have bs: ∀s,bl (jk a (s,z)).2≤4001:=fun s=>Nat.le_trans (zt (za8 a (s,z))) (zgh ha (show bl z≤4000 by omega))
 have c2:=qan (false,z)
 have c3:=zou a (true,z) (by omega) (by simp only;omega)
 have c4:=zou a (false,z) (by omega) (by simp only;omega)
 have c5:=v265 (jk a (true,z)).1 (jk a (true,z)).2 (-(b:Int)) (by have:=bs true;omega) (by omega)
 have c6:=v265 (jk a (false,z)).1 (jk a (false,z)).2 (-(b:Int)) (by have:=bs false;omega) (by omega)
 rw[←hX]at c5
 rw[←hY]at c6
 have vx:VD (neX a b true).1:=by rw[hX];exact qel _ _ _
 have vy:VD (neX a b false).1:=by rw[hY];exact qel _ _ _
 clear hX hY bs
 generalize neI a b p=R at*
 generalize neX a b true=X at*
 generalize neX a b false=Y at*
 have c2:Fn 206 [] [.agg [.bool false,.sl .u32 (toL z)]] (.agg [.bool true,.sl .u32 (toL z)]) []:=c2
 have c3:Fn 215 [] [.agg (fxC a),.agg [.bool true,.sl .u32 (toL z)]] (.agg (fxC (jk a (true,z)))) []:=c3
 have c4:Fn 215 [] [.agg (fxC a),.agg [.bool false,.sl .u32 (toL z)]] (.agg (fxC (jk a (false,z)))) []:=c4
 generalize jk a (true,z)=A at*
 generalize jk a (false,z)=B at*
 generalize toL z=Z at*
 have hw:IntKind.i64.wrap (0-(b:Int))= -(b:Int):=by rw[wI (by omega)];omega
 have c7:=v185 vx p hp
 have c8:=v184 vy p hp
 clear vx vy
 generalize qm X.1 p false=U at*
 generalize qm Y.1 p true=V at*
 obtain⟨X,x⟩:=X
 obtain⟨Y,y⟩:=Y
 obtain⟨U,u⟩:=U
 obtain⟨V,v⟩:=V
 simp only at*
 have nz: ∀ {z:Int} {b:Bool},(z != 0)=b→(b=true→z≠0)∧(b=false→z=0):=fun h=>⟨fun c=>by subst c;simpa using h,fun c=>by subst c;simpa using h⟩
 refine fnT hT6 hmx Tryz.func207 rfl rfl (ex:= []) ?_;conv=>whnf
 refine gZn c1 ?_;conv=>whnf
 refine gZn c2 ?_;conv=>whnf
 refine gZn c3 ?_;conv=>whnf
 refine gZn c4 ?_;conv=>whnf
 (refine⟨by kernel_rfl,by kernel_rfl,?_⟩;(conv=>whnf))
 rw[hw]
 refine gZc c5 ?_;conv=>whnf
 rw[hw]
 refine gZc c6 ?_;conv=>whnf
 refine brI (fun k1=>?_) (fun k1=>?_)
 ·rw[if_pos (.inl ((nz k1).1 rfl))]at hR
  subst hR
  conv=>whnf
  refine gZn h25 ?_;conv=>whnf
  exact⟨lr rfl,leG⟩
 conv=>whnf
 refine brI (fun k2=>?_) (fun k2=>?_)
 ·rw[if_pos (.inr ((nz k2).1 rfl))]at hR
  subst hR
  conv=>whnf
  refine gZn h25 ?_;conv=>whnf
  exact⟨lr rfl,leG⟩
 rw[if_neg fun c=>c.elim (fun c=>c ((nz k1).2 rfl)) (fun c=>c ((nz k2).2 rfl))]at hR
 conv=>whnf
 refine gZc c7 ?_;conv=>whnf
 refine gZc c8 ?_;conv=>whnf
 refine brI (fun k3=>?_) (fun k3=>?_)
 ·unfold wd at hR
  rw[if_pos (.inl ((nz k3).1 rfl))]at hR
  subst hR
  conv=>whnf
  refine gZn h25 ?_;conv=>whnf
  exact⟨lr rfl,leG⟩
 conv=>whnf
 refine brI (fun k4=>?_) (fun k4=>?_)
 ·unfold wd at hR
  rw[if_pos (.inr ((nz k4).1 rfl))]at hR
  subst hR
  conv=>whnf
  refine gZn h25 ?_;conv=>whnf
  exact⟨lr rfl,leG⟩
 unfold wd at hR
 rw[if_neg fun c=>c.elim (fun c=>c ((nz k3).2 rfl)) (fun c=>c ((nz k4).2 rfl))]at hR
 subst hR
 conv=>whnf
 exact⟨lr rfl,leG⟩
theorem zrg {x:Fx} {b:Nat} (hx:x.2≤4*2^b): ∀(f k:Nat) (t s c:Fx),1≤k→k+f=b+24→seB b k t.2→s.2≤k*2^(b+15)→c.2≤k*2^(b+15)→
 (seG x b f k t s c).1.2≤(b+24)*2^(b+15)∧(seG x b f k t s c).2.2≤(b+24)*2^(b+15)
 |0,k,t,s,c,_,h2,_,h4,h5=>by
  have e:k=b+24:=by omega
  subst e
  exact⟨h4,h5⟩
 |f+1,k,t,s,c,h1,h2,h3,h4,h5=>by
  have hm:k*2^(b+15)≤(b+24)*2^(b+15):=Nat.mul_le_mul_right _ (by omega)
  simp only[seG]
  by_cases hz:(byF (zkc t x b) k).2=0
  ·rw[if_pos hz]
   exact⟨by simp only;omega,by simp only;omega⟩
  rw[if_neg hz]
  have hk:k<b+23:=by
   rcases Nat.lt_or_ge k (b+23)with h|h
   ·exact h
   ·exfalso
    have:=h3.2 (by omega)
    rw[show b+23-k=0 by omega]at this
    have h0:t.2=0:=by omega
    apply hz
    show t.2*x.2/2^b/k=0
    rw[h0];simp
  have hst:seB b (k+1) (byF (zkc t x b) k).2:=zrf hx h1 hk h3
  generalize byF (zkc t x b) k=v at*
  have hv:=zij (by omega) hst
  have hu:(if 2≤k % 4 then ngF v else v).2=v.2:=by split<;>rfl
  generalize (if 2≤k % 4 then ngF v else v)=u at*
  have a6:=za8 s u
  have a7:=za8 c u
  have hk1:(k+1)*2^(b+15)=k*2^(b+15)+2^(b+15):=by rw[Nat.add_mul,Nat.one_mul]
  split
  ·exact zrg hx f (k+1) v _ c (by omega) (by omega) hst (by omega) (by omega)
  ·exact zrg hx f (k+1) v s _ (by omega) (by omega) hst (by omega) (by omega)
theorem se_bl {x:Fx} {b:Nat} (hb:1≤b∧b≤1000) (hx:x.2≤4*2^b):bl (seF x b).1.2≤2000∧bl (seF x b).2.2≤2000:=by
 have b15:2^(b+15)=32768*2^b:=by rw[Nat.add_comm,Nat.pow_add]
 have h:=zrg hx (b+23) 1 (false,2^b) (false,0) (false,2^b) (by decide) (by omega) ⟨fun _=>Nat.pow_lt_pow_right (by decide) (by omega),fun c=>absurd c (by decide)⟩ (Nat.zero_le _) (by simp only;omega)
 have hm:(b+24)*2^(b+15)<2^11*2^(b+15):=Nat.mul_lt_mul_of_pos_right (by omega) (Nat.two_pow_pos _)
 unfold seF
 exact⟨zp6 (Nat.lt_of_le_of_lt h.1 hm) (by omega),zp6 (Nat.lt_of_le_of_lt h.2 hm) (by omega)⟩
def ptS (k:Nat) (s c:Fx):Fx:=if k % 4=1 then c else if k % 4=2 then ngF s else if k % 4=3 then ngF c else s
def ptI (d:Dy) (cos:Bool) (p:Nat):Iv:=if vu d=0 then(if cos=true then vj (jz 1)else vj d)else
 neI (ptS (rdK d (p+64)+(if cos=true then 1 else 0)) (seF (rdF d (p+64)) (p+64)).1 (seF (rdF d (p+64)) (p+64)).2) (p+64) p
theorem zqa {d:Dy} (hd:VD d) (cos:Bool) (p:Nat) (hp:8≤p∧p≤512):CI (ptI d cos p):=by
 unfold ptI
 split
 ·split
  ·exact .inr ⟨rfl,ke 1 (by decide),ke 1 (by decide)⟩
  ·exact .inr ⟨rfl,hd,hd⟩
 ·exact CI_ne _ _ _ hp
theorem c141 {d:Dy} (hd:VD d) (ht:zj d≤100) (cos:Bool) (p:Nat) (hp:8≤p∧p≤512):Fn 141 G0 [.agg (dyC d),.bool cos,.int .i64 p] (.agg (ivC (ptI d cos p))) G0:=by
 have a1:=zql hd
 have hR:ptI d cos p=if vu d=0 then(if cos=true then vj (jz 1)else vj d)else neI (ptS (rdK d (p+64)+(if cos=true then 1 else 0)) (seF (rdF d (p+64)) (p+64)).1 (seF (rdF d (p+64)) (p+64)).2) (p+64) p:=rfl
 generalize ptI d cos p=R at*
 by_cases hs:vu d=0
 ·rw[if_pos hs]at hR
  rw[hs]at a1
  have a2:=v77 1 (by decide)
  have a3:=qbh (ke 1 (by decide))
  have a4:=qbh hd
  generalize jz 1=o at*
  cases cos with
  |true=>
   rw[if_pos rfl]at hR
   rw[←hR]at a3
   refine fnT hT6 hmx Tryz.func141 rfl rfl (ex:= []) ?_;conv=>whnf
   refine gZn a1 ?_;conv=>whnf
   refine gZc a2 ?_;conv=>whnf
   refine gZn a3 ?_;conv=>whnf
   exact⟨lr rfl,leG⟩
  |false=>
   rw[if_neg (by simp)]at hR
   rw[←hR]at a4
   refine fnT hT6 hmx Tryz.func141 rfl rfl (ex:= []) ?_;conv=>whnf
   refine gZn a1 ?_;conv=>whnf
   refine gZn a4 ?_;conv=>whnf
   exact⟨lr rfl,leG⟩
 rw[if_neg hs]at hR
 have c1:=c204 hd ht (p+64) (by omega)
 have hx:=rd_bd d (b:=p+64)
 have c2:=c205 (rdF d (p+64)) (p+64) (by omega) hx
 obtain⟨h1,h2⟩:=se_bl (by omega) hx
 have hk:=qcg d (p+64)
 generalize seF (rdF d (p+64)) (p+64)=W at*
 generalize rdF d (p+64)=X at*
 generalize rdK d (p+64)=k at*
 obtain⟨S,C⟩:=W
 simp only at*
 have hS: ∀q,bl (ptS q S C).2≤2000:=fun q=>by
  unfold ptS
  split
  ·exact h2
  split
  ·exact h1
  split
  ·exact h2
  ·exact h1
 have c3:=c207 (ptS (k+(if cos=true then 1 else 0)) S C) (p+64) p (by omega) hp (by have:=hS (k+(if cos=true then 1 else 0));omega)
 rw[←hR]at c3
 have c4:=qan S
 have c5:=qan C
 have hw:IntKind.i64.wrap ((p:Int)+64)=((p+64:Nat):Int):=by rw[wI (by omega)];omega
 generalize vu d=sg at*
 clear hR hS h1 h2 hx hd ht
 generalize p+64=b at*
 have key: ∀P:Fx,P=ptS (k+(if cos=true then 1 else 0)) S C→Fn 207 G0 [.agg (fxC P),.int .i64 b,.int .i64 p] (.agg (ivC R)) G0:=fun P h=>by rw[h];exact c3
 clear c3
 obtain rfl|rfl|rfl|rfl:k=0∨k=1∨k=2∨k=3:=by omega
 all_goals cases cos
 all_goals
  first
   |replace key:=key S rfl
   |replace key:=key C rfl
   |replace key:=key (ngF S) rfl
   |replace key:=key (ngF C) rfl
  refine fnT hT6 hmx Tryz.func141 rfl rfl (ex:= []) ?_;conv=>whnf
  refine gZn a1 ?_;conv=>whnf
  refine brI (fun k1=>?_) (fun _=>?_)
  ·have k1:(sg==0)=true:=k1
   exact absurd (by simpa using k1) hs
  conv=>whnf
  rw[hw]
  refine gZc c1 ?_;conv=>whnf
  refine gZc c2 ?_;conv=>whnf
  refine⟨by decide,?_⟩;conv=>whnf
  first
   |(refine gZn c4 ?_
     conv=>whnf
     refine gZc key ?_;conv=>whnf
     exact⟨lr rfl,leG⟩)
   |(refine gZn c5 ?_
     conv=>whnf
     refine gZc key ?_;conv=>whnf
     exact⟨lr rfl,leG⟩)
   |(refine gZc key ?_
     conv=>whnf
     exact⟨lr rfl,leG⟩)
theorem zt5:VD (jz (-1)):=ke (-1) (by decide)
def unI:Iv:=⟨jz (-1),jz 1,false⟩
theorem zua:CI unI:= .inr ⟨rfl,zt5,ke 1 (by decide)⟩
theorem c138:Fn 138 G0 [] (.agg (ivC unI)) G0:=by
 have a1:=v77 (-1) (by decide)
 have a2:=v77 1 (by decide)
 have hR:unI=⟨jz (-1),jz 1,false⟩:=rfl
 rw[hR]
 generalize jz (-1)=m at*
 generalize jz 1=o at*
 refine fnT hT6 hmx Tryz.func138 rfl rfl (ex:= []) ?_;conv=>whnf
 refine gZc a1 ?_;conv=>whnf
 refine gZc a2 ?_;conv=>whnf
 exact⟨lr rfl,leG⟩
end Go.Proofs.YtajnlbbgolmklaaGreatDoor

namespace Go.Proofs.YtajnlbbgolmklaaGreatDoor
open Go Go.Sx
set_option maxRecDepth 100000
set_option maxHeartbeats 8000000
def flF (a c:Fx):Fx:=if a.1=true∧a.2 % c.2≠0 then jk (a.1,a.2/c.2) (true,1)else(a.1,a.2/c.2)
theorem c213 (a c:Fx) (ha:bl a.2≤4000) (hc:bl c.2≤4000) (h0:c.2≠0):Fn 213 G0 [.agg (fxC a),.agg (fxC c)] (.agg (fxC (flF a c))) G0:=by
 have c1:=n190 a.2 c.2 (by omega) (by omega) h0
 have hR:flF a c=if a.1=true∧a.2 % c.2≠0 then jk (a.1,a.2/c.2) (true,1)else(a.1,a.2/c.2):=rfl
 generalize flF a c=R at*
 have b1:bl (a.2/c.2)≤4000:=Nat.le_trans (zt (Nat.div_le_self _ _)) ha
 have b2:bl (a.2 % c.2)≤4000:=Nat.le_trans (zt (Nat.mod_le _ _)) ha
 have c2:=qa6 (a.2 % c.2) (by omega)
 have c3:=c211 (-1) (by decide)
 have c4:=zou (a.1,a.2/c.2) (true,1) (by simp only;omega) (by decide+kernel)
 have hb0:= @yn (a.2 % c.2)
 obtain⟨s,n⟩:=a
 obtain⟨t,m⟩:=c
 simp only at*
 have c3:Fn 211 G0 [.int .i64 (-1)] (.agg [.bool true,.sl .u32 (toL 1)]) G0:=c3
 have c4:Fn 215 [] [.agg [.bool s,.sl .u32 (toL (n/m))],.agg [.bool true,.sl .u32 (toL 1)]] (.agg (fxC (jk (s,n/m) (true,1)))) []:=c4
 generalize toL 1=O at*
 cases s with
 |false=>
  rw[if_neg (by simp)]at hR
  subst hR
  refine fnT hT6 hmx Tryz.func213 rfl rfl (ex:= []) ?_;conv=>whnf
  refine gZn c1 ?_;conv=>whnf
  exact⟨lr rfl,leG⟩
 |true=>
  by_cases hr:n % m=0
  ·rw[if_neg (by simp[hr])]at hR
   subst hR
   rw[hr]at c1 c2
   have c2:Fn 192 [] [.sl .u32 (toL 0)] (.int .i64 0) []:=c2
   generalize toL 0=Z at*
   refine fnT hT6 hmx Tryz.func213 rfl rfl (ex:= []) ?_;conv=>whnf
   refine gZn c1 ?_;conv=>whnf
   refine gZn c2 ?_;conv=>whnf
   exact⟨lr rfl,leG⟩
  ·rw[if_pos ⟨rfl,hr⟩]at hR
   rw[←hR]at c4
   have hbb:bl (n % m)≠0:=fun c=>hr (hb0.1 c)
   clear hR hb0 hr
   generalize toL (n % m)=Z at*
   generalize bl (n % m)=z at*
   generalize toL (n/m)=Q at*
   refine fnT hT6 hmx Tryz.func213 rfl rfl (ex:= []) ?_;conv=>whnf
   refine gZn c1 ?_;conv=>whnf
   refine gZn c2 ?_;conv=>whnf
   refine brI (fun _=>?_) (fun k1=>?_)
   ·conv=>whnf
    refine gZc c3 ?_;conv=>whnf
    refine gZn c4 ?_;conv=>whnf
    (refine⟨by kernel_rfl,by kernel_rfl,?_⟩;(conv=>whnf))
    exact⟨lr rfl,leG⟩
   ·have k1:=of_decide_eq_false k1
    omega
theorem zg6 {a b:Fx} {k:Nat} (ha:bl a.2≤k) (hb:bl b.2≤k):bl (jk a b).2≤k+1:=by
 have h1:=za8 a b
 have h2:=jd.1 ha
 have h3:=jd.1 hb
 have h4:2^(k+1)=2^k*2:=Nat.pow_succ ..
 exact jd.2 (by omega)
def mtT (x:Iv):Nat:=(max (max (zj x.lo) (zj x.hi)) 0).toNat
def mtB (x:Iv) (p:Nat):Nat:=p+mtT x+40
def mt2 (x:Iv) (p:Nat):Fx:=(false,(piF (mtB x p)).2*2^1)
def mtS (x:Iv) (sh p:Nat):Fx:=(false,sh*(piF (mtB x p)).2/2^0/2^1)
def mtE (x:Iv):Fx:=(false,2^(mtT x+28))
def mtK (x:Iv) (sh p:Nat):Fx:=flF (jk (jk (ofF x.hi (mtB x p)) (ngF (mtS x sh p))) (mtE x)) (mt2 x p)
def mtD (x:Iv) (sh p:Nat):Fx:=jk (jk (jk ((mtK x sh p).1,(mtK x sh p).2*(mt2 x p).2) (mtS x sh p)) (ngF (ofF x.lo (mtB x p)))) (mtE x)
def mtF (x:Iv) (sh p:Nat):Bool:=decide ((mtD x sh p).2=0)|| !(mtD x sh p).1
theorem fl_bd {a c:Fx} {k:Nat} (ha:bl a.2≤k) (hk:1≤k):bl (flF a c).2≤k+1:=by
 have h1:bl (a.2/c.2)≤k:=Nat.le_trans (zt (Nat.div_le_self _ _)) ha
 unfold flF
 split
 ·exact zg6 (a:=(a.1,a.2/c.2)) (b:=(true,1)) h1 (Nat.le_trans (by decide+kernel:bl 1≤1) hk)
 ·exact Nat.le_succ_of_le h1
theorem c142 (x:Iv) (hl:VD x.lo) (hh:VD x.hi) (t1:zj x.lo≤100) (t2:zj x.hi≤100) (sh p:Nat) (hs:sh≤3) (hp:p≤1000):Fn 142 G0 [.agg (ivC x),.int .i64 sh,.int .i64 p] (.bool (mtF x sh p)) G0:=by
 have low: ∀d,VD d→ -100000≤zj d:=fun d hd=>by
  have:=hd.exp
  unfold zj;split<;>omega
 have l1:=low _ hl
 have l2:=low _ hh
 have ht:mtT x≤100:=by unfold mtT;omega
 have hB:mtB x p=p+mtT x+40:=rfl
 have htm:((mtT x:Nat):Int)=max (max (zj x.lo) (zj x.hi)) 0:=by unfold mtT;omega
 have a1:=zm4 hl
 have a2:=zm4 hh
 have hpi:=zy8 (b:=mtB x p) (by omega)
 have p1:=Nat.two_pow_pos (mtB x p)
 have bP:bl (piF (mtB x p)).2≤1146:=zp6 (j:=4) (b:=mtB x p) (by omega) (by omega)
 have b2:bl ((piF (mtB x p)).2*2^1)≤1146:=zp6 (j:=5) (b:=mtB x p) (by omega) (by omega)
 have bS0:bl (sh*(piF (mtB x p)).2)≤1146:=zp6 (j:=5) (b:=mtB x p) (by
  have:=Nat.mul_le_mul_right (piF (mtB x p)).2 hs
  omega) (by omega)
 have bS:bl (sh*(piF (mtB x p)).2/2^0/2^1)≤1146:=Nat.le_trans (zt (Nat.le_trans (Nat.div_le_self _ _) (Nat.div_le_self _ _))) bS0
 have bh:bl (ofF x.hi (mtB x p)).2≤1300:=Nat.le_trans (jd.2 (zvh (t:=100) hh (by omega))) (by omega)
 have blo:bl (ofF x.lo (mtB x p)).2≤1300:=Nat.le_trans (jd.2 (zvh (t:=100) hl (by omega))) (by omega)
 have bE:bl (2^(mtT x+28))≤1300:=by have:=bl_2 (mtT x+28);omega
 have c1:=c208 (mtB x p) (by omega)
 have c2:=zwh (piF (mtB x p)).2 1 (by omega) (by decide)
 have c3:=c211 sh (by omega)
 rw[show decide ((sh:Int)<0)=false by simp,Int.natAbs_natCast]at c3
 have c4:=c212 (false,sh) (piF (mtB x p)) 0 (by simp only;exact Nat.le_trans (zt hs) (by decide+kernel)) (by omega) (by decide)
 have c5:=qd6 (sh*(piF (mtB x p)).2/2^0) 1 (Nat.le_trans (zt (Nat.div_le_self _ _)) (by omega)) (by decide)
 have c6:=zwh 1 (mtT x+28) (by rw[Nat.one_mul];omega) (by omega)
 rw[toL1,Nat.one_mul]at c6
 have c7:=c214 hh (mtB x p) 100 t2 (by omega) (by omega)
 have c8:=qan (mtS x sh p)
 have c9:=zou (ofF x.hi (mtB x p)) (ngF (mtS x sh p)) (by omega) (by show bl (sh*(piF (mtB x p)).2/2^0/2^1)≤_;omega)
 have z9:=zg6 (a:=ofF x.hi (mtB x p)) (b:=ngF (mtS x sh p)) (k:=1300) (by omega) (by show bl (sh*(piF (mtB x p)).2/2^0/2^1)≤_;omega)
 have c10:=zou (jk (ofF x.hi (mtB x p)) (ngF (mtS x sh p))) (mtE x) (by omega) (show bl (2^(mtT x+28))≤8000 by omega)
 have z10:=zg6 (k:=1301) z9 (show bl (mtE x).2≤1301 from(by show bl (2^(mtT x+28))≤1301;omega))
 have c11:=c213 (jk (jk (ofF x.hi (mtB x p)) (ngF (mtS x sh p))) (mtE x)) (mt2 x p) (by omega) (show bl ((piF (mtB x p)).2*2^1)≤4000 by omega) (show(piF (mtB x p)).2*2^1≠0 by omega)
 have z11:=fl_bd (c:=mt2 x p) z10 (by decide)
 rw[show flF (jk (jk (ofF x.hi (mtB x p)) (ngF (mtS x sh p))) (mtE x)) (mt2 x p)=mtK x sh p from rfl]at c11 z11
 have m12:=za7 (mtK x sh p).2 ((piF (mtB x p)).2*2^1)
 have c12:=qby (mtK x sh p).2 ((piF (mtB x p)).2*2^1) (by omega) (by omega) (by omega)
 have c13:=zou ((mtK x sh p).1,(mtK x sh p).2*(mt2 x p).2) (mtS x sh p) (show bl ((mtK x sh p).2*((piF (mtB x p)).2*2^1))≤8000 by omega) (by show bl (sh*(piF (mtB x p)).2/2^0/2^1)≤_;omega)
 have z13:=zg6 (a:=((mtK x sh p).1,(mtK x sh p).2*(mt2 x p).2)) (b:=mtS x sh p) (k:=2600) (show bl ((mtK x sh p).2*((piF (mtB x p)).2*2^1))≤2600 by omega) (by show bl (sh*(piF (mtB x p)).2/2^0/2^1)≤_;omega)
 have c14:=c214 hl (mtB x p) 100 t1 (by omega) (by omega)
 have c15:=qan (ofF x.lo (mtB x p))
 have c16:=zou (jk ((mtK x sh p).1,(mtK x sh p).2*(mt2 x p).2) (mtS x sh p)) (ngF (ofF x.lo (mtB x p))) (by omega) (show bl (ofF x.lo (mtB x p)).2≤8000 by omega)
 have z16:=zg6 (b:=ngF (ofF x.lo (mtB x p))) (k:=2601) z13 (show bl (ofF x.lo (mtB x p)).2≤2601 by omega)
 have c17:=zou (jk (jk ((mtK x sh p).1,(mtK x sh p).2*(mt2 x p).2) (mtS x sh p)) (ngF (ofF x.lo (mtB x p)))) (mtE x) (by omega) (show bl (2^(mtT x+28))≤8000 by omega)
 have z17:=zg6 (k:=2602) z16 (show bl (mtE x).2≤2602 from(by show bl (2^(mtT x+28))≤2602;omega))
 rw[show jk (jk (jk ((mtK x sh p).1,(mtK x sh p).2*(mt2 x p).2) (mtS x sh p)) (ngF (ofF x.lo (mtB x p)))) (mtE x)=mtD x sh p from rfl]at c17 z17
 have c18:=c216 (mtD x sh p) (by omega)
 have hR:mtF x sh p=(decide ((mtD x sh p).2=0)|| !(mtD x sh p).1):=rfl
 have hw1:IntKind.i64.wrap (IntKind.i64.wrap ((p:Int)+(mtT x:Int))+40)=(mtB x p:Int):=by
  rw[wI (x:=(p:Int)+(mtT x:Int)) (by omega),wI (by omega)];omega
 have hw2:IntKind.i64.wrap (IntKind.i64.wrap ((mtT x:Int)+24)+4)=((mtT x+28:Nat):Int):=by
  rw[wI (x:=(mtT x:Int)+24) (by omega),wI (by omega)];omega
 clear z17 z16 z13 m12 z11 z10 z9 bE blo bh bS bS0 b2 bP p1 hpi hB
 generalize mtF x sh p=R at*
 generalize mtD x sh p=D at*
 generalize jk (jk ((mtK x sh p).1,(mtK x sh p).2*(mt2 x p).2) (mtS x sh p)) (ngF (ofF x.lo (mtB x p)))=D2 at*
 generalize jk ((mtK x sh p).1,(mtK x sh p).2*(mt2 x p).2) (mtS x sh p)=D1 at*
 generalize mtK x sh p=K at*
 generalize jk (jk (ofF x.hi (mtB x p)) (ngF (mtS x sh p))) (mtE x)=A2 at*
 generalize jk (ofF x.hi (mtB x p)) (ngF (mtS x sh p))=A1 at*
 have e2:fxC (mt2 x p)= [.bool false,.sl .u32 (toL ((piF (mtB x p)).2*2^1))]:=rfl
 have e3:fxC (mtS x sh p)= [.bool false,.sl .u32 (toL (sh*(piF (mtB x p)).2/2^0/2^1))]:=rfl
 have e4:fxC (mtE x)= [.bool false,.sl .u32 (toL (2^(mtT x+28)))]:=rfl
 have e5:fxC (false,sh)= [.bool false,.sl .u32 (toL sh)]:=rfl
 have e6:fxC (K.1,K.2*(mt2 x p).2)= [.bool K.1,.sl .u32 (toL (K.2*((piF (mtB x p)).2*2^1)))]:=rfl
 have e7:fxC (zkc (false,sh) (piF (mtB x p)) 0)= [.bool (false != (piF (mtB x p)).1),.sl .u32 (toL (sh*(piF (mtB x p)).2/2^0))]:=rfl
 rw[e6,e3]at c13
 rw[e4]at c10 c17
 rw[e2]at c11
 rw[e3]at c8
 rw[e5]at c3 c4
 rw[e7]at c4
 generalize toL (K.2*((piF (mtB x p)).2*2^1))=L1 at*
 generalize toL ((piF (mtB x p)).2*2^1)=L2 at*
 generalize toL (sh*(piF (mtB x p)).2/2^0/2^1)=L3 at*
 generalize toL (sh*(piF (mtB x p)).2/2^0)=L4 at*
 generalize toL (2^(mtT x+28))=L5 at*
 generalize toL sh=L6 at*
 clear e2 e3 e4 e5 e6 e7
 generalize ngF (mtS x sh p)=N1 at*
 generalize ngF (ofF x.lo (mtB x p))=N2 at*
 generalize ofF x.lo (mtB x p)=F1 at*
 generalize ofF x.hi (mtB x p)=F2 at*
 generalize piF (mtB x p)=P at*
 generalize (false != P.1)=u at*
 generalize zj x.lo=q1 at*
 generalize zj x.hi=q2 at*
 generalize mtT x=t at*
 generalize mtB x p=b at*
 have hmax:(if(0:Int)>(if q2>q1 then q2 else q1)then 0 else(if q2>q1 then q2 else q1))=(t:Int):=by rw[htm];split<;>split<;>omega
 refine fnT hT6 hmx Tryz.func142 rfl rfl (ex:= []) ?_;conv=>whnf
 refine gZn a1 ?_;conv=>whnf
 refine gZn a2 ?_;conv=>whnf
 (refine⟨by kernel_rfl,by kernel_rfl,?_⟩;(conv=>whnf))
 rw[hmax,hw1]
 refine gZc c1 ?_;conv=>whnf
 refine gZn c2 ?_;conv=>whnf
 refine gZc c3 ?_;conv=>whnf
 refine gZn c4 ?_;conv=>whnf
 refine gZn c5 ?_;conv=>whnf
 (refine⟨by kernel_rfl,by kernel_rfl,?_⟩;(conv=>whnf))
 rw[hw2]
 refine gZn c6 ?_;conv=>whnf
 refine gZn c7 ?_;conv=>whnf
 refine gZn c8 ?_;conv=>whnf
 refine gZn c9 ?_;conv=>whnf
 refine gZn c10 ?_;conv=>whnf
 refine gZc c11 ?_;conv=>whnf
 (refine⟨by kernel_rfl,by kernel_rfl,?_⟩;(conv=>whnf))
 refine gZn c12 ?_;conv=>whnf
 refine gZn c13 ?_;conv=>whnf
 refine gZn c14 ?_;conv=>whnf
 refine gZn c15 ?_;conv=>whnf
 refine gZn c16 ?_;conv=>whnf
 refine gZn c17 ?_;conv=>whnf
 (refine⟨by kernel_rfl,by kernel_rfl,?_⟩;(conv=>whnf))
 refine cbI [] (decide (D.2=0)) c18 (fun h=>?_) (fun h=>?_)
 ·rw[h,Bool.true_or]at hR
  subst hR
  conv=>whnf
  exact⟨lr rfl,leG⟩
 ·rw[h,Bool.false_or]at hR
  conv=>whnf
  exact⟨ab0 hR.symm,leG⟩
end Go.Proofs.YtajnlbbgolmklaaGreatDoor

namespace Go.Proofs.YtajnlbbgolmklaaGreatDoor
open Go Go.Sx
set_option maxRecDepth 100000
set_option maxHeartbeats 8000000
def wdD (x:Iv):Dy×Int:=zbt x.hi (xo x.lo) 64 true
theorem VD_wd (x:Iv):VD (wdD x).1:=zt6 _ _ _ _ (by decide)
theorem c139 {x:Iv} (hx:RI x) (k:KI x):Fn 139 G0 [.agg (ivC x),.int .i64 64] (.tup [.agg (dyC (wdD x).1),.bool (decide ((wdD x).2=0))]) G0:=by
 have c1:=zn5 [x] (by simp) (by simpa using hx)
 rw[show [x].all kB=true by simp[(qc hx).2 k]]at c1
 have c2:=zxl 64
 rw[show pcB 64=true from rfl]at c2
 have c3:=zyc k.lo
 rw[show(if nm x.lo=0 then d0 else⟨!x.lo.neg,x.lo.m,x.lo.e⟩)=xo x.lo from rfl]at c3
 have c4:=v129 k.hi (zdm k.lo) 64 (by decide)
 rw[show zbt x.hi (xo x.lo) 64 true=wdD x from rfl]at c4
 generalize wdD x=W at*
 generalize xo x.lo=N at*
 obtain⟨W,w⟩:=W
 refine fnT hT6 hmx Tryz.func139 rfl rfl (ex:= []) ?_;conv=>whnf
 refine gZn c1 ?_;conv=>whnf
 refine gZn c2 ?_;conv=>whnf
 refine gZn c3 ?_;conv=>whnf
 refine gZc c4 ?_;conv=>whnf
 (refine⟨by kernel_rfl,by kernel_rfl,?_⟩;(conv=>whnf))
 refine⟨lt0 (lc (lr rfl) (lc (ab0 ?_) ln0)),leG⟩
 show(w==0)=decide (w=0)
 rfl
def meI (x y:Iv):Iv×Bool:=
 if viB x=false∨viB y=false then(zI,false)else if x.all=true then(y,true)else if y.all=true then(x,true)else
 if 0<qq (yi x.lo y.lo) (xe x.hi y.hi)then(zI,false)else(⟨yi x.lo y.lo,xe x.hi y.hi,false⟩,true)
theorem CI_me {x y:Iv} (hx:CI x) (hy:CI y):CI (meI x y).1:=by
 have hz:CI zI:= .inr ⟨rfl,qs,qs⟩
 unfold meI
 split
 ·exact hz
 split
 ·exact hy
 split
 ·exact hx
 rename_i h1 h2
 split
 ·exact hz
 rcases hx with rfl|⟨_,a1,a2⟩
 ·exact absurd rfl h1
 rcases hy with rfl|⟨_,b1,b2⟩
 ·exact absurd rfl h2
 exact .inr ⟨rfl,zjk a1 b1,zjl a2 b2⟩
theorem c140 (x y:Iv) (hx:RI x) (hy:RI y):Fn 140 [] [.agg (ivC x),.agg (ivC y)] (.tup [.agg (ivC (meI x y).1),.bool (meI x y).2]) []:=by
 have c1:=i51 x hx
 have c2:=i51 y hy
 have hR:meI x y=if viB x=false∨viB y=false then(zI,false)else if x.all=true then(y,true)else if y.all=true then(x,true)else
  if 0<qq (yi x.lo y.lo) (xe x.hi y.hi)then(zI,false)else(⟨yi x.lo y.lo,xe x.hi y.hi,false⟩,true):=rfl
 generalize meI x y=R at*
 have hz: ∀ {h h':Hp},leA h h' (.agg [.bool false,.nilsl,.int .i64 0,.bool false,.nilsl,.int .i64 0,.bool false]) (.agg (ivC zI)):=
  lg0 (lc (lr rfl) (lc (li0 rfl) (lc (lr rfl) (lc (lr rfl) (lc (li0 rfl) (lc (lr rfl) (lc (lr rfl) ln0)))))))
 by_cases h1:viB x=true
 rotate_left
 ·have h1:viB x=false:=by simpa using h1
  rw[if_pos (.inl h1)]at hR
  subst hR
  rw[h1]at c1
  refine fnT hT6 hmx Tryz.func140 rfl rfl (ex:= []) ?_;conv=>whnf
  refine gZn c1 ?_;conv=>whnf
  exact⟨lt0 (lc hz (lc (lr rfl) ln0)),lh0⟩
 rw[h1]at c1
 by_cases h2:viB y=true
 rotate_left
 ·have h2:viB y=false:=by simpa using h2
  rw[if_pos (.inr h2)]at hR
  subst hR
  rw[h2]at c2
  refine fnT hT6 hmx Tryz.func140 rfl rfl (ex:= []) ?_;conv=>whnf
  refine gZn c1 ?_;conv=>whnf
  refine gZn c2 ?_;conv=>whnf
  exact⟨lt0 (lc hz (lc (lr rfl) ln0)),lh0⟩
 rw[h2]at c2
 rw[if_neg (by simp[h1,h2])]at hR
 have vx:=(zfb hx).1 h1
 have vy:=(zfb hy).1 h2
 have hk:x.all=false→y.all=false→KI x∧KI y:=fun a b=>by
  rcases vx with vx|rfl
  ·rcases vy with vy|rfl
   ·exact⟨vx,vy⟩
   ·cases b
  ·cases a
 clear h1 h2 hx hy vx vy
 obtain⟨xl,xh,xa⟩:=x
 obtain⟨yl,yh,ya⟩:=y
 simp only at*
 cases xa with
 |true=>
  rw[if_pos rfl]at hR
  subst hR
  refine fnT hT6 hmx Tryz.func140 rfl rfl (ex:= []) ?_;conv=>whnf
  refine gZn c1 ?_;conv=>whnf
  refine gZn c2 ?_;conv=>whnf
  exact⟨lr rfl,lh0⟩
 |false=>
  rw[if_neg (by simp)]at hR
  cases ya with
  |true=>
   rw[if_pos rfl]at hR
   subst hR
   refine fnT hT6 hmx Tryz.func140 rfl rfl (ex:= []) ?_;conv=>whnf
   refine gZn c1 ?_;conv=>whnf
   refine gZn c2 ?_;conv=>whnf
   exact⟨lr rfl,lh0⟩
  |false=>
   rw[if_neg (by simp)]at hR
   obtain⟨kx,ky⟩:=hk rfl rfl
   have c3:=i227 kx.lo ky.lo
   have c4:=i226 kx.hi ky.hi
   have c5:=v81 (zjk kx.lo ky.lo) (zjl kx.hi ky.hi)
   simp only at c3 c4 c5
   generalize yi xl yl=a at*
   generalize xe xh yh=b at*
   generalize qq a b=C at*
   clear kx ky hk
   refine fnT hT6 hmx Tryz.func140 rfl rfl (ex:= []) ?_;conv=>whnf
   refine gZn c1 ?_;conv=>whnf
   refine gZn c2 ?_;conv=>whnf
   refine gZn c3 ?_;conv=>whnf
   refine gZn c4 ?_;conv=>whnf
   (refine⟨by kernel_rfl,by kernel_rfl,?_⟩;(conv=>whnf))
   refine gZn c5 ?_;conv=>whnf
   refine brI (fun k1=>?_) (fun k1=>?_)
   ·have k1:0<C:=of_decide_eq_true k1
    rw[if_pos k1]at hR
    subst hR
    conv=>whnf
    exact⟨lt0 (lc hz (lc (lr rfl) ln0)),lh0⟩
   ·have k1: ¬0<C:=of_decide_eq_false k1
    rw[if_neg k1]at hR
    subst hR
    conv=>whnf
    exact⟨lr rfl,lh0⟩
theorem qem {c:Prop} [Decidable c] {a b:Dy} (ha:VD a) (hb:VD b):VD (if c then a else b):=by split<;>assumption
theorem c137 (p:Int):Fn 137 [] [.int .i64 p] (.bool (pcB p)) []:=by
 refine fnT hT6 hmx Tryz.func137 rfl rfl (ex:= []) ?_;conv=>whnf
 refine brI (fun h1=>?_) (fun h1=>?_)
 ·have h1:8≤p:=by simpa using h1
  conv=>whnf
  exact⟨ab0 (by simp[pcB,h1]),lh0⟩
 ·have h1: ¬8≤p:=by simpa using h1
  conv=>whnf
  exact⟨ab0 (by simp[pcB,h1]),lh0⟩
def ciM (x:Iv) (cos:Bool) (p:Nat):Iv×Bool:=meI (zfx (ptI x.lo cos p) (ptI x.hi cos p)) unI
def ciJ (x:Iv) (cos:Bool) (p:Nat):Iv:=
 if(ciM x cos p).2=false then unI else if qq x.lo x.hi=0 then(ciM x cos p).1 else
 ⟨if mtF x (if cos=true then 2 else 3) (p+64)=true then jz (-1)else(ciM x cos p).1.lo,if mtF x (if cos=true then 0 else 1) (p+64)=true then jz 1 else(ciM x cos p).1.hi,(ciM x cos p).1.all⟩
def ciI (x:Iv) (cos:Bool) (p:Int):Iv:=
 if pcB p=true∧kB x=true then if 100<zj x.lo∨100<zj x.hi then unI else if(wdD x).2≠0∨0≤qq (wdD x).1 (jz 7)then unI else ciJ x cos p.toNat else wI0
theorem zuc {x y:Iv} (hx:CI x) (hy:CI y):CI (zfx x y):=by
 unfold zfx
 split
 ·rename_i h
  rw[Bool.and_eq_true]at h
  have kx:=(qc hx.ri).1 h.1
  have ky:=(qc hy.ri).1 h.2
  exact .inr ⟨rfl,zjl kx.lo ky.lo,zjk kx.hi ky.hi⟩
 ·exact zg2
theorem qd3 {x:Iv} (k:KI x) (cos:Bool) {p:Nat} (hp:8≤p∧p≤512):CI (ciM x cos p).1:=CI_me (zuc (zqa k.lo _ _ hp) (zqa k.hi _ _ hp)) zua
theorem qcz {x y:Iv} (h:(meI x y).2=true) (hy:y.all=false):(meI x y).1.all =false:=by
 unfold meI at h⊢
 split
 ·rfl
 split
 ·exact hy
 split
 ·rename_i c;rw[hy]at c;cases c
 split<;>rfl
theorem qe4 {x:Iv} (hx:RI x) (cos:Bool) (p:Int):CI (ciI x cos p):=by
 unfold ciI
 split
 ·rename_i h
  have k:=(qc hx).1 h.2
  have hc:=qd3 k cos (wl h.1)
  split
  ·exact zua
  split
  ·exact zua
  unfold ciJ
  split
  ·exact zua
  rename_i h2
  split
  ·exact hc
  have ha:=qcz (x:=zfx (ptI x.lo cos p.toNat) (ptI x.hi cos p.toNat)) (y:=unI) (show(ciM x cos p.toNat).2=true by simpa using h2) rfl
  rcases hc with hc|⟨c1,c2,c3⟩
  ·rw[show ciM x cos p.toNat=meI (zfx (ptI x.lo cos p.toNat) (ptI x.hi cos p.toNat)) unI from rfl]at hc
   rw[hc]at ha;cases ha
  ·exact .inr ⟨c1,qem zt5 c2,qem (ke 1 (by decide)) c3⟩
 ·exact zg2
theorem c89 (x:Iv) (hx:RI x) (cos:Bool) (p:Int):Fn 89 G0 [.agg (ivC x),.bool cos,.int .i64 p] (.agg (ivC (ciI x cos p))) G0:=by
 have c1:=c137 p
 have c2:=i51 x hx
 have h25:=i25
 rw[e25]at h25
 have hK:kB x=(!x.all&&viB x):=rfl
 have hR:ciI x cos p=if pcB p=true∧kB x=true then if 100<zj x.lo∨100<zj x.hi then unI else if(wdD x).2≠0∨0≤qq (wdD x).1 (jz 7)then unI else ciJ x cos p.toNat else wI0:=rfl
 generalize ciI x cos p=R at*
 by_cases hp:pcB p=true
 rotate_left
 ·rw[if_neg fun c=>hp c.1]at hR
  subst hR
  rw[show pcB p=false by simpa using hp]at c1
  refine fnT hT6 hmx Tryz.func89 rfl rfl (ex:= []) ?_;conv=>whnf
  refine gZn c1 ?_;conv=>whnf
  refine gZn h25 ?_;conv=>whnf
  exact⟨lr rfl,leG⟩
 by_cases hv:viB x=true
 rotate_left
 ·rw[if_neg (by rw[hK];simp[hv])]at hR
  subst hR
  rw[hp]at c1
  rw[show viB x=false by simpa using hv]at c2
  refine fnT hT6 hmx Tryz.func89 rfl rfl (ex:= []) ?_;conv=>whnf
  refine gZn c1 ?_;conv=>whnf
  refine gZn c2 ?_;conv=>whnf
  refine gZn h25 ?_;conv=>whnf
  exact⟨lr rfl,leG⟩
 by_cases ha:x.all=true
 ·rw[if_neg (by rw[hK];simp[ha])]at hR
  subst hR
  rw[hp]at c1
  rw[hv]at c2
  obtain⟨xl,xh,xa⟩:=x
  obtain rfl:xa=true:=ha
  refine fnT hT6 hmx Tryz.func89 rfl rfl (ex:= []) ?_;conv=>whnf
  refine gZn c1 ?_;conv=>whnf
  refine gZn c2 ?_;conv=>whnf
  refine gZn h25 ?_;conv=>whnf
  exact⟨lr rfl,leG⟩
 have hk:kB x=true:=by rw[hK];simp[hv,ha]
 rw[if_pos ⟨hp,hk⟩]at hR
 have k:=(qc hx).1 hk
 obtain⟨q,rfl,hq⟩:=yz.1 hp
 rw[Int.toNat_natCast]at hR
 rw[hp]at c1
 rw[hv]at c2
 have c3:=zm4 k.lo
 have c4:=zm4 k.hi
 have c5:=c138
 have c6:=c139 hx k
 have c7:=v77 7 (by decide)
 have c8:=v81 (VD_wd x) (ke 7 (by decide))
 have c9:=fun h=>c141 k.lo h cos q hq
 have c10:=fun h=>c141 k.hi h cos q hq
 have c11:=i201 (ptI x.lo cos q) (ptI x.hi cos q) (zqa k.lo _ _ hq).ri (zqa k.hi _ _ hq).ri
 have c12:=c140 (zfx (ptI x.lo cos q) (ptI x.hi cos q)) unI (zuc (zqa k.lo _ _ hq) (zqa k.hi _ _ hq)).ri zua.ri
 have c13:=v81 k.lo k.hi
 have c14:=fun h1 h2 sh hs=>c142 x k.lo k.hi h1 h2 sh (q+64) hs (by omega)
 have c15:=v77 1 (by decide)
 have c16:=v77 (-1) (by decide)
 have hJ:ciJ x cos q=if(ciM x cos q).2=false then unI else if qq x.lo x.hi=0 then(ciM x cos q).1 else⟨if mtF x (if cos=true then 2 else 3) (q+64)=true then jz (-1)else(ciM x cos q).1.lo,if mtF x (if cos=true then 0 else 1) (q+64)=true then jz 1 else(ciM x cos q).1.hi,(ciM x cos q).1.all⟩:=rfl
 rw[show meI (zfx (ptI x.lo cos q) (ptI x.hi cos q)) unI=ciM x cos q from rfl]at c12
 have hw:IntKind.i64.wrap ((q:Int)+64)=((q+64:Nat):Int):=by rw[wI (by omega)];omega
 have c17:=fun h1 h2=>c14 h1 h2 (if cos=true then 0 else 1) (by split<;>decide)
 have c18:=fun h1 h2=>c14 h1 h2 (if cos=true then 2 else 3) (by split<;>decide)
 clear c14
 generalize ciJ x cos q=J at*
 generalize mtF x (if cos=true then 2 else 3) (q+64)=B2 at*
 generalize mtF x (if cos=true then 0 else 1) (q+64)=B1 at*
 generalize ciM x cos q=M at*
 generalize zfx (ptI x.lo cos q) (ptI x.hi cos q)=H at*
 generalize ptI x.lo cos q=P1 at*
 generalize ptI x.hi cos q=P2 at*
 generalize unI=U at*
 generalize wdD x=W at*
 generalize jz 7=s7 at*
 generalize jz 1=o1 at*
 generalize jz (-1)=m1 at*
 generalize zj x.lo=t1 at*
 generalize zj x.hi=t2 at*
 generalize qq W.1 s7=C1 at*
 generalize qq x.lo x.hi=C2 at*
 generalize hb:q+64=b at*
 obtain⟨xl,xh,xa⟩:=x
 obtain rfl:xa=false:=by simpa using ha
 clear k hk hv ha hx hK hp
 obtain⟨W,we⟩:=W
 obtain⟨M,mb⟩:=M
 simp only at*
 refine fnT hT6 hmx Tryz.func89 rfl rfl (ex:= []) ?_;conv=>whnf
 refine gZn c1 ?_;conv=>whnf
 refine gZn c2 ?_;conv=>whnf
 refine gZn c3 ?_;conv=>whnf
 refine brI (fun k1=>?_) (fun k1=>?_)
 ·rw[if_pos (.inl (of_decide_eq_true k1))]at hR
  subst hR
  conv=>whnf
  refine gZc c5 ?_;conv=>whnf
  exact⟨lr rfl,leG⟩
 have k1: ¬100<t1:=of_decide_eq_false k1
 conv=>whnf
 refine gZn c4 ?_;conv=>whnf
 refine brI (fun k2=>?_) (fun k2=>?_)
 ·rw[if_pos (.inr (of_decide_eq_true k2))]at hR
  subst hR
  conv=>whnf
  refine gZc c5 ?_;conv=>whnf
  exact⟨lr rfl,leG⟩
 have k2: ¬100<t2:=of_decide_eq_false k2
 rw[if_neg (by omega)]at hR
 conv=>whnf
 by_cases hwe:we=0
 rotate_left
 ·rw[if_pos (.inl hwe)]at hR
  subst hR
  rw[decide_eq_false hwe]at c6
  refine gZc c6 ?_;conv=>whnf
  (refine⟨by kernel_rfl,by kernel_rfl,?_⟩;(conv=>whnf))
  refine gZc c5 ?_;conv=>whnf
  exact⟨lr rfl,leG⟩
 subst hwe
 refine gZc c6 ?_;conv=>whnf
 refine gZc c7 ?_;conv=>whnf
 refine gZn c8 ?_;conv=>whnf
 (refine⟨by kernel_rfl,by kernel_rfl,?_⟩;(conv=>whnf))
 refine brI (fun k3=>?_) (fun k3=>?_)
 ·rw[if_pos (.inr (of_decide_eq_true k3))]at hR
  subst hR
  conv=>whnf
  refine gZc c5 ?_;conv=>whnf
  exact⟨lr rfl,leG⟩
 have k3: ¬0≤C1:=of_decide_eq_false k3
 rw[if_neg (by simp[k3])]at hR
 rw[hR]
 clear hR
 have c9:=c9 (by omega)
 have c10:=c10 (by omega)
 have c17:=c17 (by omega) (by omega)
 have c18:=c18 (by omega) (by omega)
 cases cos
 all_goals
  conv=>whnf
  refine gZc c9 ?_;conv=>whnf
  refine gZc c10 ?_;conv=>whnf
  refine gZn c11 ?_;conv=>whnf
  refine gZc c5 ?_;conv=>whnf
  cases mb with
  |false=>
   rw[if_pos rfl]at hJ
   subst hJ
   refine gZn c12 ?_;conv=>whnf
   (refine⟨by kernel_rfl,by kernel_rfl,?_⟩;(conv=>whnf))
   refine gZc c5 ?_;conv=>whnf
   exact⟨lr rfl,leG⟩
  |true=>
   rw[if_neg (by simp)]at hJ
   refine gZn c12 ?_;conv=>whnf
   (refine⟨by kernel_rfl,by kernel_rfl,?_⟩;(conv=>whnf))
   refine gZn c13 ?_;conv=>whnf
   refine brI (fun k4=>?_) (fun k4=>?_)
   ·have k4:C2=0:=by have k4:(C2==0)=true:=k4;simpa using k4
    rw[if_pos k4]at hJ
    subst hJ
    conv=>whnf
    exact⟨lr rfl,leG⟩
   have k4: ¬C2=0:=by have k4:(C2==0)=false:=k4;simpa using k4
   rw[if_neg k4]at hJ
   conv=>whnf
   rw[hw]
   refine cbI [.gst JT] B1 c17 (fun h1=>?_) (fun h1=>?_)
   ·rw[h1]at hJ
    conv=>whnf
    refine gZc c15 ?_;conv=>whnf
    rw[hw]
    refine cbI [.gst JT] B2 c18 (fun h2=>?_) (fun h2=>?_)
    ·rw[h2]at hJ
     subst hJ
     conv=>whnf
     refine gZc c16 ?_;conv=>whnf
     exact⟨lr rfl,leG⟩
    ·rw[h2]at hJ
     subst hJ
     conv=>whnf
     exact⟨lr rfl,leG⟩
   ·rw[h1]at hJ
    conv=>whnf
    rw[hw]
    refine cbI [.gst JT] B2 c18 (fun h2=>?_) (fun h2=>?_)
    ·rw[h2]at hJ
     subst hJ
     conv=>whnf
     refine gZc c16 ?_;conv=>whnf
     exact⟨lr rfl,leG⟩
    ·rw[h2]at hJ
     subst hJ
     conv=>whnf
     exact⟨lr rfl,leG⟩
theorem c35 (x:Iv) (hx:RI x) (p:Int):Fn 35 G0 [.agg (ivC x),.int .i64 p] (.agg (ivC (ciI x false p))) G0:=by
 have h:=c89 x hx false p
 generalize ciI x false p=R at*
 refine fnT hT6 hmx Tryz.func35 rfl rfl (ex:= []) ?_;conv=>whnf
 refine gZc h ?_;conv=>whnf
 exact⟨lr rfl,leG⟩
theorem c36 (x:Iv) (hx:RI x) (p:Int):Fn 36 G0 [.agg (ivC x),.int .i64 p] (.agg (ivC (ciI x true p))) G0:=by
 have h:=c89 x hx true p
 generalize ciI x true p=R at*
 refine fnT hT6 hmx Tryz.func36 rfl rfl (ex:= []) ?_;conv=>whnf
 refine gZc h ?_;conv=>whnf
 exact⟨lr rfl,leG⟩
end Go.Proofs.YtajnlbbgolmklaaGreatDoor
