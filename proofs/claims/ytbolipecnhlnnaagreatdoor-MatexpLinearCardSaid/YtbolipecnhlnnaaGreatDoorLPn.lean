/- the reference's dot product (layer 7). -/
import Derived.Test.YtbolipecnhlnnaaGreatDoorLRs
import Derived.Test.YtbolipecnhlnnaaGreatDoorLNg
set_option linter.all false
open And renaming intro->q7
open Int renaming toNat_natCast->q5
open List renaming getElem?_eq_getElem->q0,mem_of_getElem?->q1,range->q2,take_of_length_le->q4,drop_of_length_le->q6,mem_map->q9
open Nat renaming zero_le->q3,le_refl->q8
namespace Go.Proofs.YtbolipecnhlnnaaGreatDoor
open Go Go.Sx
set_option maxRecDepth 100000
set_option maxHeartbeats 8000000
theorem zfb{α β:Type}{f:Nat->α->β}{l:List α}{i:Nat}{x:α}(h:l[i]? =some x):(l.mapIdx f).take (i+1)=(l.mapIdx f).take i++ [f i x]:=by
 rw[List.take_add_one,List.getElem?_mapIdx,h];rfl
theorem zgg{α β:Type}{f:Nat->α->β}(l:List α):(l.mapIdx f).take l.length=l.mapIdx f:=q4 (by rw[List.length_mapIdx];exact q8 _)
theorem k63{x y:Iv}(hx:RI x)(hy:RI y)(p:Int):Fn 63 [] [.agg (ivC x),.agg (ivC y),.int .i64 p] (.agg (ivC (yp x y p))) []:=by
 have h:=r176 x y hx hy p;rw[zzk hx hy]at h;exact h
theorem k218{x y:Iv}(hx:RI x)(hy:RI y)(p:Int):Fn 218 [] [.agg (ivC x),.agg (ivC y),.int .i64 p] (.agg (ivC (kf x y p))) []:=by
 have h:=r178 x y hx hy p;rw[zx9 hx hy]at h;exact h
theorem k216{x y:Iv}(hx:RI x)(hy:RI y)(p:Int):Fn 216 [] [.agg (ivC x),.agg (ivC y),.int .i64 p] (.agg (ivC (ze9 x y p))) []:=by
 have h:=r179 x y hx hy p;rw[zy3 hx hy]at h;exact h
theorem k146{r c:List Iv}(hr:∀x∈r,RI x)(hc:∀x∈c,RI x)(hl:r.length=c.length)(h1:1<=r.length/\r.length<=100)(p:Int):Fn 146 [] [.sl .iv r,.sl .iv c,.int .i64 p] (.agg (ivC (dtM p r c))) []:=by
 obtain⟨R,hR⟩:∃R,dtM p r c=R:=⟨_,rfl⟩;obtain⟨x0,hx0⟩:∃x,r[0]? =some x:=⟨_,q0 O⟩;obtain⟨y0,hy0⟩:∃x,c[0]? =some x:=⟨_,q0 O⟩;have rx0:=hr x0 (q1 hx0);have ry0:=hc y0 (q1 hy0);have c0:=k218 rx0 ry0 p;have e0:dtG p (r.drop 1) (c.drop 1) (kf x0 y0 p)=R:=by
  rw[<-hR]
  match r,c,hx0,hy0 with
  | _::_,_::_,h1,h2=>cases h1;cases h2;rfl
 have rm:RI (kf x0 y0 p):=zjz _ _ _;rw[hR];refine fZN Tryz.func146 rfl rfl ?_;conv=>whnf
 refine⟨⟨O,O⟩,fun(x:Iv)hx=>?_⟩;obtain rfl:x=x0:=by have hx:r[0]? =some x:=hx;rw[hx0]at hx;cases hx;rfl
 conv=>whnf
 refine⟨⟨O,O⟩,fun(y:Iv)hy=>?_⟩;obtain rfl:y=y0:=by have hy:c[0]? =some y:=hy;rw[hy0]at hy;cases hy;rfl
 conv=>whnf
 refine gZn c0 ?_
 (refine⟨Z,Z,?_⟩;(conv=>whnf))
 refine⟨Nat×Iv,fun s=>(1<=s.1/\s.1<=r.length)/\RI s.2/\dtG p (r.drop s.1) (c.drop s.1) s.2=R,fun s=> [(8,.int .i64 s.1)],fun s=> [(7,.cells (ivC s.2))],fun s=>r.length-s.1,(1,kf x y p),⟨⟨q8 _,h1.1⟩,rm,e0⟩,?_,fun s hs=>?_⟩
 .exact KZ0
 obtain⟨i,o⟩:=s;obtain⟨⟨g1,g2⟩,g3,g4⟩:=hs;simp only at g1 g2 g3 g4
 (refine⟨Z,?_⟩;(conv=>whnf))
 refine brI (fun d=>?_) (fun d=>?_)
 .have d:i<r.length:=by have d:((i:Nat):Int)<(r.length:Int):=Z0 d;omega
  obtain⟨u,hu⟩:∃x,r[i]? =some x:=⟨_,q0 d⟩;obtain⟨v,hv⟩:∃x,c[i]? =some x:=⟨_,q0 O⟩;have cm:=k218 (hr u (q1 hu)) (hc v (q1 hv)) p;have ca:=k63 g3 (zjz u v p) p;rw[zu hu,zu hv]at g4;have ra:RI (yp o (kf u v p) p):=znf _ _ _;conv=>whnf
  refine⟨⟨O,OD⟩,fun(z:Iv)hz=>?_⟩;obtain rfl:z=u:=by have hz:r[((i:Nat):Int).toNat]? =some z:=hz;rw[q5,hu]at hz;cases hz;rfl
  conv=>whnf
  refine⟨⟨O,OD⟩,fun(z2:Iv)hz2=>?_⟩;obtain rfl:z2=v:=by have hz2:c[((i:Nat):Int).toNat]? =some z2:=hz2;rw[q5,hv]at hz2;cases hz2;rfl
  conv=>whnf
  refine gZn cm ?_;conv=>whnf
  refine gZn ca ?_
  (refine⟨Z,Z,?_⟩;(conv=>whnf))
  refine⟨(i+1,yp o (kf z z2 p) p),⟨⟨OD,d⟩,ra,g4⟩,by show r.length-(i+1)<r.length-i;omega,?_⟩;exact KZ0
 .have d:i=r.length:=by have d:¬((i:Nat):Int)<(r.length:Int):=Z1 d;omega
  subst d;rw[q6 (q8 _),q6 O]at g4;have g4:o=R:=g4;subst g4;conv=>whnf
  exact⟨lr rfl,lh0⟩
theorem k145(p:Int):Fn 145 [] [.int .i64 p] (.bool (pcB p)) []:=by
 rw[show pcB p=decide (8<=p/\p<=512) by unfold pcB;rw[Bool.eq_iff_iff];simp];exact r329 p
theorem k219{a b:Mx}{n k m l:Nat}(va:VM n k a)(vb:VM m l b){p:Int}(hp:pcB p=true):Fn 219 [] [.sl .vs a,.sl .vs b,.int .i64 p] (.int .i64 0) []:=by
 have c1:=zwm va.rx va.ok;have c2:=zwm vb.rx vb.ok;have c3:=k145 p;rw[hp]at c3;refine fZM Tryz.func219 rfl rfl ?_;conv=>whnf
 refine gZn c1 ?_;conv=>whnf
 refine gZn c2 ?_;conv=>whnf
 refine gZn c3 ?_;conv=>whnf
 exact⟨lr rfl,lh0⟩
theorem zc6{α:Type}{l:List α}{i:Nat}{x:α}(h:l[i]? =some x){z:α}(hz:l[((i:Nat):Int).toNat]? =some z):z=x:=by
 rw[q5,h]at hz;cases hz;rfl
theorem zv0{a b:Int}(c:(a != b)=true)(h:a=b):False:=absurd h (by simpa using c)
theorem qhx{a b:Mx}{n k:Nat}(va:VM n k a)(vb:VM n k b){p:Int}(hp:pcB p=true):Fn 144 [] [.sl .vs a,.sl .vs b,.int .i64 p,.bool false] (.tup [.sl .vs (adM a b p).1,.int .i64 0]) []:=by
 have c219:=k219 va vb hp;obtain⟨G,hG⟩:∃G,(adM a b p).1=G:=⟨_,rfl⟩;have hGe:(a.mapIdx fun i r=>r.mapIdx fun j x=>yp x (atM b i j) p)=G:=by
  rw[<-hG];unfold adM;rw[Z5 (by rw[va.ok,vb.ok];simp),Z5 (by rw[hp];simp),Z5 (by rw[va.len,vb.len,va.hd,vb.hd];simp)];rfl
 have hal:=va.len;have hbl:=vb.len;have n1:=va.n1;have k1:=va.k1;have har:=va.row;have hbr:=vb.row;have hae:=va.rx.1;have hbe:=vb.rx.1;obtain⟨a0,ha0⟩:∃x,a[0]? =some x:=⟨_,q0 O⟩;obtain⟨b0,hb0⟩:∃x,b[0]? =some x:=⟨_,q0 O⟩;have a0l:=har a0 (q1 ha0);have b0l:=hbr b0 (q1 hb0);rw[hG];refine fZM Tryz.func144 rfl rfl ?_;conv=>whnf
 refine gZn c219 ?_;conv=>whnf
 refine brI (fun c=>(zv0 c O).elim) (fun c=>?_);conv=>whnf
 refine⟨⟨O,O⟩,fun(r0:List Iv)hr0=>?_⟩;obtain rfl:r0=a0:=by have hr0:a[0]? =some r0:=hr0;rw[ha0]at hr0;cases hr0;rfl
 conv=>whnf
 refine⟨⟨O,O⟩,fun(s0:List Iv)hs0=>?_⟩;obtain rfl:s0=b0:=by have hs0:b[0]? =some s0:=hs0;rw[hb0]at hs0;cases hs0;rfl
 (refine⟨Z,Z,?_⟩;(conv=>whnf))
 refine brI (fun c=>?_) (fun c=>?_)
 .have c:((r0.length:Int) != (s0.length:Int))=true:=c;exact(zv0 c O).elim
 conv=>whnf
 refine⟨Nat,fun i=>i<=a.length,fun i=> [(12,.int .i64 i),(11,.own 95)],fun i=> [(91,.free),(95,.buf 23 .vs (G.take i))],fun i=>a.length-i,0,q3 _,?_,fun i hi=>?_⟩
 .exact KZ0
 have hi:i<=a.length:=hi
 (refine⟨Z,?_⟩;(conv=>whnf))
 refine brI (fun d=>?_) (fun d=>?_)
 .have d:i<a.length:=by have d:((i:Nat):Int)<(a.length:Int):=Z0 d;omega
  obtain⟨r,hr⟩:∃x,a[i]? =some x:=⟨_,q0 d⟩;obtain⟨s,hs⟩:∃x,b[i]? =some x:=⟨_,q0 O⟩;have rl:=har r (q1 hr);have sl:=hbr s (q1 hs);have re:=hae r (q1 hr);have se:=hbe s (q1 hs);have hGi:=zfb (f:=fun i r=>r.mapIdx fun j x=>yp x (atM b i j) p) hr;rw[hGe]at hGi;conv=>whnf
  refine⟨Nat,fun j=>j<=r.length,fun j=> [(14,.int .i64 j),(13,.own 91)],fun j=> [(91,.buf 28 .iv ((r.mapIdx fun j x=>yp x (atM b i j) p).take j))],fun j=>r.length-j,0,q3 _,?_,fun j hj=>?_⟩
  .exact KZ0
  have hj:j<=r.length:=hj
  (refine⟨Z,?_⟩;(conv=>whnf))
  refine⟨⟨O,O⟩,fun(z1:List Iv)hz1=>?_⟩;obtain rfl:=zc6 hr hz1;conv=>whnf
  refine brI (fun d2=>?_) (fun d2=>?_)
  .have d2:j<z1.length:=by have d2:((j:Nat):Int)<(z1.length:Int):=Z0 d2;omega
   obtain⟨u,hu⟩:∃x,z1[j]? =some x:=⟨_,q0 d2⟩;obtain⟨v,hv⟩:∃x,s[j]? =some x:=⟨_,q0 O⟩;have ca:=k63 (re u (q1 hu)) (se v (q1 hv)) p;have hyt:=zfb (f:=fun j x=>yp x (atM b i j) p) hu;rw[zci hs hv]at hyt;conv=>whnf
   refine⟨⟨O,O⟩,fun(z2:List Iv)hz2=>?_⟩;obtain rfl:=zc6 hr hz2;conv=>whnf
   refine⟨⟨O,O⟩,fun(z3:Iv)hz3=>?_⟩;obtain rfl:=zc6 hu hz3;conv=>whnf
   refine⟨⟨O,O⟩,fun(z4:List Iv)hz4=>?_⟩;obtain rfl:=zc6 hs hz4;conv=>whnf
   refine⟨⟨O,O⟩,fun(z5:Iv)hz5=>?_⟩;obtain rfl:=zc6 hv hz5;conv=>whnf
   refine gZn ca ?_;conv=>whnf
   refine⟨OE,?_⟩
   (refine⟨Z,Z,?_⟩;(conv=>whnf))
   refine⟨j+1,d2,by show z2.length-(j+1)<z2.length-j;omega,?_⟩;exact KZ0
  .have d2:j=z1.length:=by have d2:¬((j:Nat):Int)<(z1.length:Int):=Z1 d2;omega
   conv=>whnf
   refine⟨OE,?_⟩;conv=>whnf
   refine⟨i+1,d,by show a.length-(i+1)<a.length-i;omega,?_⟩
   ((conv=>whnf);refine q7 ?_ ?_;repeat' first|refine lc ?_ ?_|refine lh1 ?_ ?_|refine bc0 ?_|exact KXZ|refine lg0 ?_|refine lt0 ?_)
   .exact ai0 (by rw[wI O];omega)
   .exact bb0 (by rw[hGi,d2,zgg])
 .have d:i=a.length:=by have d:¬((i:Nat):Int)<(a.length:Int):=Z1 d;omega
  subst d;conv=>whnf
  exact⟨lt0 (lc (qs (by rw[<-hGe,zgg])) (lc (lr rfl) ln0)),lh0⟩
theorem k142{a:Mx}{n k:Nat}(va:VM n k a){x:Iv}(vx:VI x){p:Int}(hp:pcB p=true):Fn 142 [] [.sl .vs a,.agg (ivC x),.int .i64 p] (.sl .vs (scM a x p)) []:=by
 have c114:=zwm va.rx va.ok;have c74:=zxp x vx.ri;rw[(wu vx.ri).2 vx]at c74;have c145:=k145 p;rw[hp]at c145;obtain⟨G,hG⟩:∃G,scM a x p=G:=⟨_,rfl⟩;have hGe:(a.mapIdx fun i r=>r.mapIdx fun j y=>kf x y p)=G:=by
  rw[<-hG];unfold scM;rw[Z4 (by rw[va.ok,(wu vx.ri).2 vx,hp];rfl)];rfl
 have hal:=va.len;have n1:=va.n1;have k1:=va.k1;have har:=va.row;have hae:=va.rx.1;have hx:=vx.ri;rw[hG];refine fZM Tryz.func142 rfl rfl ?_;conv=>whnf
 refine gZn c114 ?_;conv=>whnf
 refine gZn c74 ?_;conv=>whnf
 refine gZn c145 ?_;conv=>whnf
 refine⟨Nat,fun i=>i<=a.length,fun i=> [(8,.int .i64 i),(7,.own 55)],fun i=> [(51,.free),(55,.buf 23 .vs (G.take i))],fun i=>a.length-i,0,q3 _,?_,fun i hi=>?_⟩
 .exact KZ0
 have hi:i<=a.length:=hi
 (refine⟨Z,?_⟩;(conv=>whnf))
 refine brI (fun d=>?_) (fun d=>?_)
 .have d:i<a.length:=by have d:((i:Nat):Int)<(a.length:Int):=Z0 d;omega
  obtain⟨r,hr⟩:∃x,a[i]? =some x:=⟨_,q0 d⟩;have rl:=har r (q1 hr);have re:=hae r (q1 hr);have hGi:=zfb (f:=fun(i:Nat)r=>r.mapIdx fun(j:Nat)y=>kf x y p) hr;rw[hGe]at hGi;conv=>whnf
  refine⟨Nat,fun j=>j<=r.length,fun j=> [(10,.int .i64 j),(9,.own 51)],fun j=> [(51,.buf 28 .iv ((r.mapIdx fun(j:Nat)y=>kf x y p).take j))],fun j=>r.length-j,0,q3 _,?_,fun j hj=>?_⟩
  .exact KZ0
  have hj:j<=r.length:=hj
  (refine⟨Z,?_⟩;(conv=>whnf))
  refine⟨⟨O,O⟩,fun(z1:List Iv)hz1=>?_⟩;obtain rfl:=zc6 hr hz1;conv=>whnf
  refine brI (fun d2=>?_) (fun d2=>?_)
  .have d2:j<z1.length:=by have d2:((j:Nat):Int)<(z1.length:Int):=Z0 d2;omega
   obtain⟨u,hu⟩:∃x,z1[j]? =some x:=⟨_,q0 d2⟩;have ca:=k218 hx (re u (q1 hu)) p;have hyt:=zfb (f:=fun(j:Nat)y=>kf x y p) hu;conv=>whnf
   refine⟨⟨O,O⟩,fun(z2:List Iv)hz2=>?_⟩;obtain rfl:=zc6 hr hz2;conv=>whnf
   refine⟨⟨O,O⟩,fun(z3:Iv)hz3=>?_⟩;obtain rfl:=zc6 hu hz3;conv=>whnf
   refine gZn ca ?_;conv=>whnf
   refine⟨OE,?_⟩
   (refine⟨Z,Z,?_⟩;(conv=>whnf))
   refine⟨j+1,d2,by show z2.length-(j+1)<z2.length-j;omega,?_⟩;exact KZ0
  .have d2:j=z1.length:=by have d2:¬((j:Nat):Int)<(z1.length:Int):=Z1 d2;omega
   conv=>whnf
   refine⟨OE,?_⟩;conv=>whnf
   refine⟨i+1,d,by show a.length-(i+1)<a.length-i;omega,?_⟩
   ((conv=>whnf);refine q7 ?_ ?_;repeat' first|refine lc ?_ ?_|refine lh1 ?_ ?_|refine bc0 ?_|exact KXZ|refine lg0 ?_|refine lt0 ?_)
   .exact ai0 (by rw[wI O];omega)
   .exact bb0 (by rw[hGi,d2,zgg])
 .have d:i=a.length:=by have d:¬((i:Nat):Int)<(a.length:Int):=Z1 d;omega
  subst d;conv=>whnf
  exact⟨qs (by rw[<-hGe,zgg]),lh0⟩
theorem rng{n i:Nat}(h:i<n):(q2 n)[i]? =some i:=List.getElem?_range h
theorem k220{a:Mx}{n k:Nat}(va:VM n k a):Fn 220 [] [.sl .vs a] (.sl .vs ((q2 k).map (zdm a))) []:=by
 have c114:=zwm va.rx va.ok;obtain⟨G,hG⟩:∃G,(q2 k).map (zdm a)=G:=⟨_,rfl⟩;have hGl:G.length=k:=by rw[<-hG];simp
 have hal:=va.len;have n1:=va.n1;have k1:=va.k1;have har:=va.row;obtain⟨a0,ha0⟩:∃x,a[0]? =some x:=⟨_,q0 O⟩;have a0l:=har a0 (q1 ha0);rw[hG];refine fZM Tryz.func220 rfl rfl ?_;conv=>whnf
 refine gZn c114 ?_;conv=>whnf
 refine⟨Nat,fun i=>i<=k,fun i=> [(4,.int .i64 i),(3,.own 37)],fun i=> [(33,.free),(37,.buf 23 .vs (G.take i))],fun i=>k-i,0,q3 _,?_,fun i hi=>?_⟩
 .exact KZ0
 have hi:i<=k:=hi
 (refine⟨Z,?_⟩;(conv=>whnf))
 refine⟨⟨O,O⟩,fun(z0:List Iv)hz0=>?_⟩;obtain rfl:z0=a0:=by have hz0:a[0]? =some z0:=hz0;rw[ha0]at hz0;cases hz0;rfl
 conv=>whnf
 refine brI (fun d=>?_) (fun d=>?_)
 .have d:i<k:=by have d:((i:Nat):Int)<(z0.length:Int):=Z0 d;omega
  have hGi:=jy (f:=zdm a) (rng d);rw[hG]at hGi;conv=>whnf
  refine⟨Nat,fun j=>j<=a.length,fun j=> [(6,.int .i64 j),(5,.own 33)],fun j=> [(33,.buf 28 .iv ((zdm a i).take j))],fun j=>a.length-j,0,q3 _,?_,fun j hj=>?_⟩
  .exact KZ0
  have hj:j<=a.length:=hj
  (refine⟨Z,?_⟩;(conv=>whnf))
  refine brI (fun d2=>?_) (fun d2=>?_)
  .have d2:j<a.length:=by have d2:((j:Nat):Int)<(a.length:Int):=Z0 d2;omega
   obtain⟨r,hr⟩:∃x,a[j]? =some x:=⟨_,q0 d2⟩;have rl:=har r (q1 hr);obtain⟨u,hu⟩:∃x,r[i]? =some x:=⟨_,q0 O⟩;have hyt:(zdm a i).take (j+1)=(zdm a i).take j++ [u]:=by
    have:=jy (f:=fun r:List Iv=>(r[i]?).getD zI) hr;rw[hu]at this;exact this
   conv=>whnf
   refine⟨⟨O,O⟩,fun(z2:List Iv)hz2=>?_⟩;obtain rfl:=zc6 hr hz2;conv=>whnf
   refine⟨⟨O,O⟩,fun(z3:Iv)hz3=>?_⟩;obtain rfl:=zc6 hu hz3;conv=>whnf
   refine⟨OE,?_⟩;conv=>whnf
   refine⟨j+1,d2,by show a.length-(j+1)<a.length-j;omega,?_⟩;exact KZ0
  .have d2:j=a.length:=by have d2:¬((j:Nat):Int)<(a.length:Int):=Z1 d2;omega
   conv=>whnf
   refine⟨OE,?_⟩;conv=>whnf
   refine⟨i+1,d,by show k-(i+1)<k-i;omega,?_⟩
   ((conv=>whnf);refine q7 ?_ ?_;repeat' first|refine lc ?_ ?_|refine lh1 ?_ ?_|refine bc0 ?_|exact KXZ|refine lg0 ?_|refine lt0 ?_)
   .exact ai0 (by rw[wI O];omega)
   .exact bb0 (by rw[hGi,d2];unfold zdm;rw[zap])
 .have d:i=k:=by have d:¬((i:Nat):Int)<(z0.length:Int):=Z1 d;omega
  conv=>whnf
  exact⟨qs (by rw[q4 O]),lh0⟩
theorem qej{b:Mx}(hb:∀r∈b,∀x∈r,RI x){n k:Nat}(vb:VM n k b){j:Nat}(hj:j<k):∀x∈zdm b j,RI x:=fun x hx=>by
 obtain⟨r,hr,rfl⟩:=q9.1 hx;have hl:=vb.row r hr;rw[q0 O];exact hb r hr _ (List.getElem_mem _)
theorem k143{a b:Mx}{n k l:Nat}(va:VM n k a)(vb:VM k l b){p:Int}(hp:pcB p=true):Fn 143 [] [.sl .vs a,.sl .vs b,.int .i64 p] (.tup [.sl .vs (muM a b p).1,.int .i64 0]) []:=by
 have c219:=k219 va vb hp;have c220:=k220 vb;obtain⟨G,hG⟩:∃G,(muM a b p).1=G:=⟨_,rfl⟩;have hcol:∀c∈(q2 l).map (zdm b),c.length=k/\∀x∈c,RI x:=fun c hc=>by
  obtain⟨j,hj,rfl⟩:=q9.1 hc;exact⟨by unfold zdm;rw[List.length_map,vb.len],qej vb.rx.1 vb (List.mem_range.1 hj)⟩
 have hTl:((q2 l).map (zdm b)).length =l:=OC;have hGe:(a.map fun r=>((q2 l).map (zdm b)).map fun c=>dtM p r c)=G:=by
  rw[<-hG];unfold muM;rw[Z5 (by rw[va.ok,vb.ok];simp),Z5 (by rw[hp];simp),Z5 (by rw[va.hd,vb.len];simp),vb.hd];simp only[List.map_map];rfl
 have hal:=va.len;have hbl:=vb.len;have n1:=va.n1;have k1:=va.k1;have l1:=vb.k1;have har:=va.row;have hae:=va.rx.1;obtain⟨a0,ha0⟩:∃x,a[0]? =some x:=⟨_,q0 O⟩;have a0l:=har a0 (q1 ha0);generalize (q2 l).map (zdm b)=T at*;rw[hG];refine fZM Tryz.func143 rfl rfl ?_;conv=>whnf
 refine gZn c219 ?_;conv=>whnf
 refine⟨⟨O,O⟩,fun(r0:List Iv)hr0=>?_⟩;obtain rfl:r0=a0:=by have hr0:a[0]? =some r0:=hr0;rw[ha0]at hr0;cases hr0;rfl
 conv=>whnf
 refine brI (fun c=>?_) (fun c=>?_)
 .have c:((r0.length:Int) != (b.length:Int))=true:=c;exact(zv0 c O).elim
 conv=>whnf
 refine gZn c220 ?_;conv=>whnf
 refine⟨Nat,fun i=>i<=a.length,fun i=> [(11,.int .i64 i),(10,.own 58)],fun i=> [(54,.free),(58,.buf 23 .vs (G.take i))],fun i=>a.length-i,0,q3 _,?_,fun i hi=>?_⟩
 .exact KZ0
 have hi:i<=a.length:=hi
 (refine⟨Z,?_⟩;(conv=>whnf))
 refine brI (fun d=>?_) (fun d=>?_)
 .have d:i<a.length:=by have d:((i:Nat):Int)<(a.length:Int):=Z0 d;omega
  obtain⟨r,hr⟩:∃x,a[i]? =some x:=⟨_,q0 d⟩;have rl:=har r (q1 hr);have re:=hae r (q1 hr);have hGi:=jy (f:=fun r:List Iv=>T.map fun c=>dtM p r c) hr;rw[hGe]at hGi;conv=>whnf
  refine⟨Nat,fun j=>j<=T.length,fun j=> [(13,.int .i64 j),(12,.own 54)],fun j=> [(54,.buf 28 .iv ((T.map fun c=>dtM p r c).take j))],fun j=>T.length-j,0,q3 _,?_,fun j hj=>?_⟩
  .exact KZ0
  have hj:j<=T.length:=hj
  (refine⟨Z,?_⟩;(conv=>whnf))
  refine brI (fun d2=>?_) (fun d2=>?_)
  .have d2:j<T.length:=by have d2:((j:Nat):Int)<(T.length:Int):=Z0 d2;omega
   obtain⟨c,hc⟩:∃x,T[j]? =some x:=⟨_,q0 d2⟩;obtain⟨cl,ce⟩:=hcol c (q1 hc);have ca:=k146 re ce O O p;have hyt:=jy (f:=fun c=>dtM p r c) hc;conv=>whnf
   refine⟨⟨O,O⟩,fun(z2:List Iv)hz2=>?_⟩;obtain rfl:=zc6 hr hz2;conv=>whnf
   refine⟨⟨O,O⟩,fun(z3:List Iv)hz3=>?_⟩;obtain rfl:=zc6 hc hz3;conv=>whnf
   refine gZn ca ?_;conv=>whnf
   refine⟨OE,?_⟩
   (refine⟨Z,Z,?_⟩;(conv=>whnf))
   refine⟨j+1,d2,by show T.length-(j+1)<T.length-j;omega,?_⟩;exact KZ0
  .have d2:j=T.length:=by have d2:¬((j:Nat):Int)<(T.length:Int):=Z1 d2;omega
   conv=>whnf
   refine⟨OE,?_⟩;conv=>whnf
   refine⟨i+1,d,by show a.length-(i+1)<a.length-i;omega,?_⟩
   ((conv=>whnf);refine q7 ?_ ?_;repeat' first|refine lc ?_ ?_|refine lh1 ?_ ?_|refine bc0 ?_|exact KXZ|refine lg0 ?_|refine lt0 ?_)
   .exact ai0 (by rw[wI O];omega)
   .exact bb0 (by rw[hGi,d2,zap])
 .have d:i=a.length:=by have d:¬((i:Nat):Int)<(a.length:Int):=Z1 d;omega
  subst d;conv=>whnf
  exact⟨lt0 (lc (qs (by rw[<-hGe,zap])) (lc (lr rfl) ln0)),lh0⟩
theorem k62{a:Mx}{n k:Nat}(va:VM n k a){x:List Iv}(hx:∀y∈x,VI y)(hxl:x.length=k){p:Int}(hp:pcB p=true):Fn 62 [] [.sl .vs a,.sl .iv x,.int .i64 p] (.tup [.sl .iv (apM a x p),.int .i64 0]) []:=by
 have c114:=zwm va.rx va.ok;have c145:=k145 p;rw[hp]at c145;obtain⟨G,hG⟩:∃G,apM a x p=G:=⟨_,rfl⟩;have hGe:(a.map fun r=>dtM p r x)=G:=hG;have hal:=va.len;have n1:=va.n1;have k1:=va.k1;have har:=va.row;have hae:=va.rx.1;obtain⟨a0,ha0⟩:∃x,a[0]? =some x:=⟨_,q0 O⟩;have a0l:=har a0 (q1 ha0);rw[hG];refine fZM Tryz.func62 rfl rfl ?_;conv=>whnf
 refine gZn c114 ?_;conv=>whnf
 refine⟨Nat,fun i=>i<=x.length,fun i=> [(8,.int .i64 i)],fun i=> [],fun i=>x.length-i,0,q3 _,?_,fun i hi=>?_⟩
 .exact KZ0
 have hi:i<=x.length:=hi
 (refine⟨Z,?_⟩;(conv=>whnf))
 refine brI (fun d=>?_) (fun d=>?_)
 .have d:i<x.length:=by have d:((i:Nat):Int)<(x.length:Int):=Z0 d;omega
  obtain⟨y,hy⟩:∃z,x[i]? =some z:=⟨_,q0 d⟩;have vy:=hx y (q1 hy);have c74:=zxp y vy.ri;rw[(wu vy.ri).2 vy]at c74;conv=>whnf
  refine⟨⟨O,O⟩,fun(z1:Iv)hz1=>?_⟩;obtain rfl:=zc6 hy hz1;conv=>whnf
  refine gZn c74 ?_;conv=>whnf
  refine⟨i+1,d,by show x.length-(i+1)<x.length-i;omega,?_⟩;exact KZ0
 conv=>whnf
 refine gZn c145 ?_;conv=>whnf
 refine⟨⟨O,O⟩,fun(r0:List Iv)hr0=>?_⟩;obtain rfl:r0=a0:=by have hr0:a[0]? =some r0:=hr0;rw[ha0]at hr0;cases hr0;rfl
 conv=>whnf
 refine brI (fun c=>?_) (fun c=>?_)
 .have c:((r0.length:Int) != (x.length:Int))=true:=c;exact(zv0 c O).elim
 conv=>whnf
 refine⟨Nat,fun i=>i<=a.length,fun i=> [(10,.int .i64 i),(9,.own 51)],fun i=> [(51,.buf 28 .iv (G.take i))],fun i=>a.length-i,0,q3 _,?_,fun i hi=>?_⟩
 .exact KZ0
 have hi:i<=a.length:=hi
 (refine⟨Z,?_⟩;(conv=>whnf))
 refine brI (fun d=>?_) (fun d=>?_)
 .have d:i<a.length:=by have d:((i:Nat):Int)<(a.length:Int):=Z0 d;omega
  obtain⟨r,hr⟩:∃x,a[i]? =some x:=⟨_,q0 d⟩;have rl:=har r (q1 hr);have re:=hae r (q1 hr);have hGi:=jy (f:=fun r:List Iv=>dtM p r x) hr;rw[hGe]at hGi;have ca:=k146 re (fun y hy=>(hx y hy).ri) O O p;conv=>whnf
  refine⟨⟨O,O⟩,fun(z2:List Iv)hz2=>?_⟩;obtain rfl:=zc6 hr hz2;conv=>whnf
  refine gZn ca ?_;conv=>whnf
  refine⟨OE,?_⟩;conv=>whnf
  refine⟨i+1,d,by show a.length-(i+1)<a.length-i;omega,?_⟩;exact KZ0
 .have d:i=a.length:=by have d:¬((i:Nat):Int)<(a.length:Int):=Z1 d;omega
  subst d;conv=>whnf
  exact⟨lt0 (lc (qs (by rw[<-hGe,zap])) (lc (lr rfl) ln0)),lh0⟩
theorem k17z:Fn 17 [] [.agg [.bool false,.nilsl,.int .i64 0]] (.agg (ivC (whI 0))) []:=by
 refine fZM Tryz.func17 rfl rfl ?_;conv=>whnf
 (refine q7 ?_ ?_;repeat' first|exact ln0|exact lh0|exact la0|exact lr rfl|exact li0 rfl|refine lg0 ?_|refine lt0 ?_|exact bf0|exact bd0|refine lc ?_ ?_|refine lh1 ?_ ?_|refine bc0 ?_|fail)
theorem k17o:Fn 17 [] [.agg [.bool false,.sl .u32 [1],.int .i64 0]] (.agg (ivC (whI 1))) []:=n31 (zcb 1)
theorem k215{n:Nat}(hn:1<=n/\n<=8):Fn 215 [] [.int .i64 n] (.sl .vs (idM n)) []:=by
 obtain⟨G,hG⟩:∃G,idM n=G:=⟨_,rfl⟩;have hGe:((q2 n).map fun i=>(q2 n).map fun j=>whI (if i=j then 1 else 0))=G:=by rw[<-hG];unfold idM;rw[Z5 O]
 have hGl:G.length=n:=by rw[<-hGe];simp
 have c0:=k17z;have c1:=k17o;rw[hG];refine fZM Tryz.func215 rfl rfl ?_;conv=>whnf
 refine brI (fun c=>absurd (Z0 c) O) (fun c=>?_);conv=>whnf
 refine brI (fun c=>absurd (Z0 c) O) (fun c=>?_);conv=>whnf
 refine⟨Nat,fun i=>i<=n,fun i=> [(4,.int .i64 i),(3,.own 38)],fun i=> [(7,.free),(34,.free),(38,.buf 23 .vs (G.take i))],fun i=>n-i,0,q3 _,?_,fun i hi=>?_⟩
 .exact KZ0
 have hi:i<=n:=hi
 (refine⟨Z,?_⟩;(conv=>whnf))
 refine brI (fun d=>?_) (fun d=>?_)
 .have d:i<n:=by have d:((i:Nat):Int)<(n:Int):=Z0 d;omega
  have hGi:=jy (f:=fun i=>(q2 n).map fun j=>whI (if i=j then 1 else 0)) (rng d);rw[hGe]at hGi;have hrl:((q2 n).map fun j=>whI (if i=j then 1 else 0)).length =n:=OC;have hrt:∀j,j<n->((q2 n).map fun j=>whI (if i=j then 1 else 0)).take (j+1)=((q2 n).map fun j=>whI (if i=j then 1 else 0)).take j++ [whI (if i=j then 1 else 0)]:=fun j hj=>jy (f:=fun j=>whI (if i=j then 1 else 0)) (rng hj)
  generalize ((q2 n).map fun j=>whI (if i=j then 1 else 0))=row at*;conv=>whnf
  refine⟨Nat,fun j=>j<=n,fun j=> [(6,.int .i64 j),(5,.own 34)],fun j=> [(7,.free),(34,.buf 28 .iv (row.take j))],fun j=>n-j,0,q3 _,?_,fun j hj=>?_⟩
  .exact KZ0
  have hj:j<=n:=hj
  (refine⟨Z,?_⟩;(conv=>whnf))
  refine brI (fun d2=>?_) (fun d2=>?_)
  .have d2:j<n:=by have d2:((j:Nat):Int)<(n:Int):=Z0 d2;omega
   have hyt:=hrt j d2;conv=>whnf
   refine brI (fun e=>?_) (fun e=>?_)
   .have e:i=j:=by have e:(((i:Nat):Int)==(j:Int))=true:=e;have:=beq_iff_eq.1 e;omega
    rw[Z4 e]at hyt;conv=>whnf
    refine gZn c1 ?_;conv=>whnf
    refine⟨OE,?_⟩;conv=>whnf
    refine⟨j+1,d2,by show n-(j+1)<n-j;omega,?_⟩;exact KZ0
   .have e:i≠j:=by have e:(((i:Nat):Int)==(j:Int))=false:=e;have:=beq_eq_false_iff_ne.1 e;omega
    rw[Z5 e]at hyt;conv=>whnf
    refine gZn c0 ?_;conv=>whnf
    refine⟨OE,?_⟩;conv=>whnf
    refine⟨j+1,d2,by show n-(j+1)<n-j;omega,?_⟩;exact KZ0
  .have d2:j=n:=by have d2:¬((j:Nat):Int)<(n:Int):=Z1 d2;omega
   have hra:row.take j=row:=q4 O;rw[hra];conv=>whnf
   refine⟨OE,?_⟩;conv=>whnf
   refine⟨i+1,d,by show n-(i+1)<n-i;omega,?_⟩;exact KZ0
 .have d:i=n:=by have d:¬((i:Nat):Int)<(n:Int):=Z1 d;omega
  conv=>whnf
  exact⟨qs (by rw[q4 O]),lh0⟩
theorem k217(n:Int)(h: -4611686018427387904<=n/\n<=4611686018427387904):Fn 217 [] [.int .i64 n] (.agg (ivC (whI n))) []:=by
 have c1:=r262 n h;have c2:=n31 (zcb n);have e:whI n=zx (zcb n):=rfl;rw[e];generalize zcb n=d at*;obtain⟨d1,d2,d3⟩:=d;refine fZM Tryz.func217 rfl rfl ?_;conv=>whnf
 refine gZn c1 ?_;conv=>whnf
 refine gZn c2 ?_;conv=>whnf
 exact⟨lr rfl,lh0⟩
