/-
  Seat of round r6: the reference's conditions: valid matrices, cases, boxes; points.
-/
import Derived.Test.YtgehdbenidimlaaGreatDoorQNe
import Derived.Test.YtgehdbenidimlaaGreatDoorQRb
import Derived.Test.YtgehdbenidimlaaGreatDoorQNf
set_option linter.unusedVariables false
set_option linter.unusedSimpArgs false
namespace Go.Proofs.YtgehdbenidimlaaGreatDoor
open Go Go.Sx
set_option maxRecDepth 100000
set_option maxHeartbeats 8000000
set_option linter.unusedVariables false
end Go.Proofs.YtgehdbenidimlaaGreatDoor

namespace Go.Proofs.YtgehdbenidimlaaGreatDoor
open Go Go.Sx
set_option maxRecDepth 100000
set_option maxHeartbeats 8000000
set_option linter.unusedVariables false
theorem n31 (d:Dy):Fn 31 [] [.agg (dyC d)] (.agg (ivC (ke d))) []:=by
 refine fnT hTM hmx Tryz.func31 rfl rfl (ex:= []) ?_
 conv=>whnf
 exact⟨lr rfl,lh0⟩
theorem n24 (n:Int) (h: -4611686018427387904≤n∧n≤4611686018427387904):Fn 24 [] [.int .i64 n] (.agg (ivC (whI n))) []:=by
 have h1:=r262 n h
 have h2:=n31 (zd6 n)
 show Fn 24 [] [.int .i64 n] (.agg (ivC (ke (zd6 n)))) []
 generalize zd6 n=d at*
 refine fnT hTM hmx Tryz.func24 rfl rfl (ex:= []) ?_
 conv=>whnf
 refine⟨[],_,h1,?_⟩
 conv=>whnf
 refine⟨[],_,h2,?_⟩
 conv=>whnf
 exact⟨lr rfl,lh0⟩
theorem n80 {x:Iv} (hx:VI x) {d:Dy} (hd:VD d) (h:inI (dv d) x):Fn 80 [] [.agg (ivC x),.agg (dyC d)] (.bool true) []:=by
 have h40:=r108 x hx.ri
 rw[(yu hx.ri).2 hx]at h40
 have h82:=r174 d hd.lb (by have:=hd.len;omega)
 rw[(yf hd.lb).2 hd]at h82
 obtain⟨lo,hi,al⟩:=x
 cases al with
 |true=>
  refine fnT hTM hmx Tryz.func80 rfl rfl (ex:= []) ?_
  conv=>whnf
  refine⟨[],_,h40,?_⟩
  conv=>whnf
  refine⟨[],_,h82,?_⟩
  conv=>whnf
  exact⟨lr rfl,lh0⟩
 |false=>
  have k:=(zh6 hx).1 rfl
  rcases h with c|⟨c1,c2⟩
  ·cases c
  have e1:=r175 k.lo hd
  have e2:=r175 hd k.hi
  have c1:=kw.2 c1
  have c2:=kw.2 c2
  have c1:qi lo d≤0:=c1
  have c2:qi d hi≤0:=c2
  refine fnT hTM hmx Tryz.func80 rfl rfl (ex:= []) ?_
  conv=>whnf
  refine⟨[],_,h40,?_⟩
  conv=>whnf
  refine⟨[],_,h82,?_⟩
  conv=>whnf
  refine⟨[],_,e1,?_⟩
  conv=>whnf
  refine brI (fun c=>?_) (fun c=>absurd c1 (of_decide_eq_false c))
  conv=>whnf
  refine⟨[],_,e2,?_⟩
  conv=>whnf
  exact⟨ab0 (by rw[decide_eq_true c2]),lh0⟩
theorem n37 {x:Iv} (hx:VI x) (n:Int) (hn: -4611686018427387904≤n∧n≤4611686018427387904) (h:inI (n:Rat) x):Fn 37 [] [.agg (ivC x),.int .i64 n] (.bool true) []:=by
 have h1:=r262 n hn
 have h2:=n80 hx (zju n hn) (by rw[zae];exact h)
 generalize zd6 n=d at*
 refine fnT hTM hmx Tryz.func37 rfl rfl (ex:= []) ?_
 conv=>whnf
 refine⟨[],_,h1,?_⟩
 conv=>whnf
 refine⟨[],_,h2,?_⟩
 (refine⟨by kernel_rfl,by kernel_rfl,?_⟩;(conv=>whnf))
 exact⟨lr rfl,lh0⟩
end Go.Proofs.YtgehdbenidimlaaGreatDoor

namespace Go.Proofs.YtgehdbenidimlaaGreatDoor
open Go Go.Sx
set_option maxRecDepth 100000
set_option maxHeartbeats 8000000
set_option linter.unusedVariables false
theorem zjz (n:Int) (h: -4611686018427387904≤n∧n≤4611686018427387904):RI (whI n):=(zf3 h).ri
theorem zxf:RX awA:=by
 refine⟨fun r hr x hx=>?_,fun r hr=>?_,by decide⟩
 ·simp only[awA,List.mem_cons,List.not_mem_nil,or_false]at hr
  rcases hr with rfl|rfl<;>simp only[List.mem_cons,List.not_mem_nil,or_false]at hx<;>rcases hx with rfl|rfl<;>exact zjz _ (by decide)
 ·simp only[awA,List.mem_cons,List.not_mem_nil,or_false]at hr
  rcases hr with rfl|rfl<;>decide
theorem zzp {a:Mx} (ha:RX a) {t:Iv} (ht:RI t) {p:Int} {X:Mx} (h:zk1 a t p=(X,0)): ∃n,VM n n a∧VM n n X:=by
 unfold zk1 at h
 split at h
 ·rename_i c
  obtain⟨n,va,kt,hp⟩:=zjq ha ht c
  split at h
  ·rename_i y hy
   cases h
   exact⟨n,va,(zq5 va kt hp hy).1⟩
  ·cases h
 ·cases h
theorem zza {a:Mx} {b x:List Iv} (hb: ∀y∈b,RI y) {t:Iv} {p:Int} {L:List Iv} (h:zpz a b x t p=(L,0)):bvB L=true:=by
 rw[zet]at h
 split at h
 ·cases h
 ·cases hbot:zc5 a t p with
  |none=>rw[hbot]at h;cases h
  |some y=>
   rw[hbot]at h
   simp only[zxw]at h
   split at h
   ·rename_i c;cases h;exact c
   ·cases h
theorem zxb {y:Iv} {n:Int} (h:awH y n=true):y.all=false∧inI (n:Rat) y:=by
 unfold awH at h
 simp only[Bool.and_eq_true,Bool.not_eq_true',decide_eq_true_eq]at h
 obtain⟨⟨h1,h2⟩,h3⟩:=h
 have h2:=kw.1 h2
 have h3:=kw.1 h3
 rw[zae]at h2 h3
 exact⟨h1,.inr ⟨h2,h3⟩⟩
theorem zx2 {p:Int} (u v:List Iv): ∀z∈List.zipWith (fun u v=>zas u v p) u v,RI z:=fun z hz=>by
 obtain⟨i,hi⟩:=List.getElem?_of_mem hz
 rw[List.getElem?_zipWith]at hi
 split at hi
 ·cases hi;exact zm9 _ _ _
 ·cases hi
theorem zzb {a:Mx} {b x:List Iv} {t:Iv} {p:Int} {L:List Iv} (h:zpz a b x t p=(L,0)): ∀z∈L,RI z:=by
 rw[zet]at h
 split at h
 ·cases h
 ·cases hbot:zc5 a t p with
  |none=>rw[hbot]at h;cases h
  |some y=>
   rw[hbot]at h
   simp only[zxw]at h
   split at h
   ·cases h;exact zx2 _ _
   ·cases h
theorem gx0 {α:Type} {x:α} {l:List α} {P:α→Prop} (h:P x):((0:Int)≤0∧(0:Int)<((x::l).length :Int))∧ ∀y:α,(x::l)[(0:Int).toNat]? =some y→P y:=
 ⟨⟨by omega,by simp only[List.length_cons];omega⟩,fun y hy=>by cases hy;exact h⟩
theorem gx1 {α:Type} {x z:α} {l:List α} {P:α→Prop} (h:P z):((0:Int)≤1∧(1:Int)<((x::z::l).length :Int))∧ ∀y:α,(x::z::l)[(1:Int).toNat]? =some y→P y:=
 ⟨⟨by omega,by simp only[List.length_cons];omega⟩,fun y hy=>by cases hy;exact h⟩
theorem n8:Fn 8 G0 [] (.bool true) G0:=by
 have c14:=n14 awA zxf (whI 3) (zjz 3 (by decide)) 30
 have c16:=n16 awA zxf [whI 0,whI (-2)] [whI 1,whI 5] (fun y hy=>by
  simp only[List.mem_cons,List.not_mem_nil,or_false]at hy
  rcases hy with rfl|rfl<;>exact zjz _ (by decide)) (fun y hy=>by
  simp only[List.mem_cons,List.not_mem_nil,or_false]at hy
  rcases hy with rfl|rfl<;>exact zjz _ (by decide)) (by decide) (by decide) (whI 3) (zjz 3 (by decide)) 30
 have hE:=qac
 have hL:=qab
 have vE:=fun X h=>zzp zxf (zjz 3 (by decide)) (p:=30) (X:=X) h
 have vL:=fun L h=>zzb (a:=awA) (b:= [whI 0,whI (-2)]) (x:= [whI 1,whI 5]) (t:=whI 3) (p:=30) (L:=L) h
 have vL2:=fun L h=>zza (a:=awA) (b:= [whI 0,whI (-2)]) (x:= [whI 1,whI 5]) (fun y hy=>by
  simp only[List.mem_cons,List.not_mem_nil,or_false]at hy
  rcases hy with rfl|rfl<;>exact zjz _ (by decide)) (t:=whI 3) (p:=30) (L:=L) h
 generalize zk1 awA (whI 3) 30=X at*
 generalize zpz awA [whI 0,whI (-2)] [whI 1,whI 5] (whI 3) 30=L at*
 unfold awE at hE
 split at hE
 ·rename_i w y r2
  unfold awL at hL
  split at hL
  ·rename_i y1 y2
   rw[Bool.and_eq_true]at hL
   obtain⟨ya,yin⟩:=zxb hE
   obtain⟨y1a,y1in⟩:=zxb hL.1
   obtain⟨y2a,y2in⟩:=zxb hL.2
   obtain⟨n,_,vX⟩:=vE _ rfl
   have vy:VI y:=vX.el [w,y] (by simp) y (by simp)
   obtain⟨_,kb⟩:=zw1 (vL _ rfl) (vL2 _ rfl)
   have k1:=kb y1 (by simp)
   have k2:=kb y2 (by simp)
   have c37:=n37 vy 3 (by decide) yin
   have c37a:=n37 (.inl k1) 7 (by decide) y1in
   have c37b:=n37 (.inl k2) (-1) (by decide) y2in
   have w0:=n24 0 (by decide)
   have w1:=n24 1 (by decide)
   have w3:=n24 3 (by decide)
   have w2:=n24 (-2) (by decide)
   have w5:=n24 5 (by decide)
   unfold awA at c14 c16
   generalize whI 0=z0 at*
   generalize whI 1=z1 at*
   generalize whI 3=z3 at*
   generalize whI (-2)=z2 at*
   generalize whI 5=z5 at*
   obtain⟨yl,yh,ya'⟩:=y
   obtain⟨y1l,y1h,y1a'⟩:=y1
   have ya:ya'=false:=ya
   have y1a:y1a'=false:=y1a
   subst ya;subst y1a
   refine fnT hTM hmx Tryz.func8 rfl rfl (ex:= []) ?_
   conv=>whnf
   refine⟨[],_,w0,?_⟩
   conv=>whnf
   refine⟨[],_,w1,?_⟩
   conv=>whnf
   refine⟨[],_,w0,?_⟩
   conv=>whnf
   refine⟨[],_,w0,?_⟩
   conv=>whnf
   refine⟨[],_,w3,?_⟩
   conv=>whnf
   refine⟨[.gst JT],_,c14,?_⟩
   conv=>whnf
   refine⟨[],_,w0,?_⟩
   conv=>whnf
   refine⟨[],_,w2,?_⟩
   conv=>whnf
   refine⟨[],_,w1,?_⟩
   conv=>whnf
   refine⟨[],_,w5,?_⟩
   conv=>whnf
   refine⟨[],_,w3,?_⟩
   conv=>whnf
   refine⟨[.gst JT],_,c16,?_⟩
   conv=>whnf
   refine gx0 ?_
   conv=>whnf
   refine gx1 ?_
   conv=>whnf
   refine⟨[],_,c37,?_⟩
   conv=>whnf
   refine gx0 ?_
   conv=>whnf
   refine gx1 ?_
   conv=>whnf
   refine gx0 ?_
   conv=>whnf
   refine⟨[],_,c37a,?_⟩
   conv=>whnf
   refine gx1 ?_
   conv=>whnf
   refine⟨[],_,c37b,?_⟩
   conv=>whnf
   refine gx0 ?_
   conv=>whnf
   exact⟨lr rfl,wv⟩
  ·cases hL
 ·cases hE
end Go.Proofs.YtgehdbenidimlaaGreatDoor
