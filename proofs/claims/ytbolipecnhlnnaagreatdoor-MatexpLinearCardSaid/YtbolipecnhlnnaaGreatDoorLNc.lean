/- matrix.Mul, matrix.Scale, matrix.Add, matrix.Apply. -/
import Derived.Test.YtbolipecnhlnnaaGreatDoorLNb
set_option linter.all false
open List renaming mem_of_getElem?->q0,getElem?_eq_getElem->q1,take_of_length_le->q3,getElem?_eq_some_iff->q4,drop_of_length_le->q5,drop_length->q6,any_cons->q7
open Nat renaming zero_le->q2
namespace Go.Proofs.YtbolipecnhlnnaaGreatDoor
open Go Go.Sx
set_option maxRecDepth 100000
set_option maxHeartbeats 8000000
theorem za1{h h':Hp}:leH h h' G0 G0:=lh1 (bg0 rfl) lh0
theorem zgl{m:Mx}(hm:RX m){b:Bool}(h:vmB m=b):Fn 125 [] [.sl .vs m] (.bool b) []:=by rw[<-h];exact n71 m hm
theorem zx4{p:Int}{b:Bool}(h:pcB p=b):Fn 137 [] [.int .i64 p] (.bool b) []:=by rw[<-h];exact n72 p
theorem VM.rx{n k:Nat}{m:Mx}(v:VM n k m):RX m:=⟨v.ri,fun r hr=>by rw[v.row r hr];have:=v.k1;omega,by rw[v.len];have:=v.n1;omega⟩
theorem n33(a b:Mx)(ha:RX a)(hb:RX b)(p:Int):Fn 132 G0 [.sl .vs a,.sl .vs b,.int .i64 p] (.tup [.sl .vs (muM a b p).1,.int .i64 (muM a b p).2]) G0:=by
 cases h1:vmB a with
 |false=>
  have e:muM a b p=([],1):=by unfold muM;rw[Z4 (by rw[h1];rfl)]
  rw[e];refine fZN Tryz.func132 rfl rfl ?_;conv=>whnf
  refine gZn (zgl ha h1) ?_;conv=>whnf
  exact⟨lt0 (lc (li0 rfl) (lc (lr rfl) ln0)),za1⟩
 |true=>
 cases h2:vmB b with
 |false=>
  have e:muM a b p=([],1):=by unfold muM;rw[Z4 (by rw[h1,h2];rfl)]
  rw[e];refine fZN Tryz.func132 rfl rfl ?_;conv=>whnf
  refine gZn (zgl ha h1) ?_;conv=>whnf
  refine gZn (zgl hb h2) ?_;conv=>whnf
  exact⟨lt0 (lc (li0 rfl) (lc (lr rfl) ln0)),za1⟩
 |true=>
 cases h3:pcB p with
 |false=>
  have e:muM a b p=([],2):=by unfold muM;rw[Z5 (by rw[h1,h2];simp),Z4 h3]
  rw[e];refine fZN Tryz.func132 rfl rfl ?_;conv=>whnf
  refine gZn (zgl ha h1) ?_;conv=>whnf
  refine gZn (zgl hb h2) ?_;conv=>whnf
  refine gZn (zx4 h3) ?_;conv=>whnf
  exact⟨lt0 (lc (li0 rfl) (lc (lr rfl) ln0)),za1⟩
 |true=>
 obtain⟨n,k,va⟩:=(zfw ha.el).1 h1;obtain⟨k',l,vb⟩:=(zfw hb.el).1 h2;have n1:=va.n1;have k1:=va.k1;have n1':=vb.n1;have k1':=vb.k1;obtain⟨r0,hr0⟩:∃r,a[0]? =some r:=⟨_,q1 (by rw[va.len];omega)⟩;have hr0l:=va.row r0 (q0 hr0);have hal:=va.len;have hbl:=vb.len;by_cases h4:k=k'
 .subst h4;have e:muM a b p=(a.map fun r=>(List.range l).map fun j=>dtM p r (zdm b j),0):=by
   unfold muM;rw[Z5 (by rw[h1,h2];simp),Z5 (by rw[h3];simp),Z5 (by rw[va.hd,vb.len];simp),vb.hd]
  rw[e];refine qy (code:=qbk) hTN hmx Tryz.func132 rfl rfl (ex:= []) ?_;conv=>whnf
  refine je hTN hmx 2 (fun _:Unit=>⟨[.sl .vs a,.any,.int .i64 p,.any,.ptr 4 0,.any,.nilsl,.int .i64 0]++jr 58,[(4,.cells [.sl .vs b])]++frM++G0⟩) (fun _=>Z) ?_ (fun _=>n33s a b va.ri vb.ri p l O O (fun r hr=>by rw[va.row r hr,hbl]) vb.row O);conv=>whnf
  refine gZn (zgl ha h1) ?_;conv=>whnf
  refine gZn (zgl hb h2) ?_;conv=>whnf
  refine gZn (zx4 h3) ?_;conv=>whnf
  refine⟨⟨O,O⟩,fun(x:List Iv)hx=>?_⟩;obtain rfl:r0=x:=by
   have hx:a[0]? =some x:=hx;rw[hr0]at hx;exact Option.some.inj hx
  (refine⟨Z,Z,?_⟩;(conv=>whnf))
  refine brI (fun c=>?_) (fun c=>?_)
  .have c:((r0.length:Int) != (b.length:Int))=true:=c;simp at c;omega
  conv=>whnf
  refine⟨(),?_⟩;exact KZ0
 .have e:muM a b p=([],3):=by
   unfold muM;rw[Z5 (by rw[h1,h2];simp),Z5 (by rw[h3];simp),Z4 (by rw[va.hd,vb.len];exact h4)]
  rw[e];refine fZN Tryz.func132 rfl rfl ?_;conv=>whnf
  refine gZn (zgl ha h1) ?_;conv=>whnf
  refine gZn (zgl hb h2) ?_;conv=>whnf
  refine gZn (zx4 h3) ?_;conv=>whnf
  refine⟨⟨O,O⟩,fun(x:List Iv)hx=>?_⟩;obtain rfl:r0=x:=by
   have hx:a[0]? =some x:=hx;rw[hr0]at hx;exact Option.some.inj hx
  (refine⟨Z,Z,?_⟩;(conv=>whnf))
  refine brI (fun c=>?_) (fun c=>?_)
  .conv=>whnf
   exact⟨lt0 (lc (li0 rfl) (lc (lr rfl) ln0)),za1⟩
  .have c:((r0.length:Int) != (b.length:Int))=false:=c;simp at c;omega
theorem n129(x:Iv)(hx:RI x)(p:Int){m:Mx}(hm:RM m):CE x p (fun _ _ y=>kf x y p) m:=fun K hK hM i j row y0 hr hy=>by
 have hy0:=hm row (q0 hr) y0 (q0 hy);refine fZN Tryz.func204 rfl rfl ?_;conv=>whnf
 refine⟨[.gst (zni JT K)],_,(i84 x y0 hx hy0 p).lift yq hK hM,?_⟩;conv=>whnf
 exact⟨lr rfl,lh1 (bg0 rfl) (lh1 (zg rfl rfl) (lh1 (zg rfl rfl) lh0))⟩
theorem i51b{x:Iv}(hx:RI x){b:Bool}(h:viB x=b):Fn 35 [] [.agg (ivC x)] (.bool b) []:=by rw[<-h];exact i51 x hx
theorem n84(a:Mx)(ha:RX a)(x:Iv)(hx:RI x)(p:Int):Fn 127 G0 [.sl .vs a,.agg (ivC x),.int .i64 p] (.sl .vs (scM a x p)) G0:=by
 cases h1:vmB a with
 |false=>
  have e:scM a x p= []:=by unfold scM;rw[Z5 (by rw[h1];simp)]
  rw[e];refine fZN Tryz.func127 rfl rfl ?_;conv=>whnf
  refine gZn (zgl ha h1) ?_;conv=>whnf
  exact⟨li0 rfl,za1⟩
 |true=>
 cases h2:viB x with
 |false=>
  have e:scM a x p= []:=by unfold scM;rw[Z5 (by rw[h1,h2];simp)]
  rw[e];refine fZN Tryz.func127 rfl rfl ?_;conv=>whnf
  refine gZn (zgl ha h1) ?_;conv=>whnf
  refine gZn (i51b hx h2) ?_;conv=>whnf
  exact⟨li0 rfl,za1⟩
 |true=>
 cases h3:pcB p with
 |false=>
  have e:scM a x p= []:=by unfold scM;rw[Z5 (by rw[h1,h2,h3];simp)]
  rw[e];refine fZN Tryz.func127 rfl rfl ?_;conv=>whnf
  refine gZn (zgl ha h1) ?_;conv=>whnf
  refine gZn (i51b hx h2) ?_;conv=>whnf
  refine gZn (zx4 h3) ?_;conv=>whnf
  exact⟨li0 rfl,za1⟩
 |true=>
 obtain⟨n,k,va⟩:=(zfw ha.el).1 h1;have e:scM a x p=xt (fun _ _ y=>kf x y p) a:=by unfold scM;rw[Z4 (by rw[h1,h2,h3];rfl)]
 rw[e];refine fZN Tryz.func127 rfl rfl ?_;conv=>whnf
 refine gZn (zgl ha h1) ?_;conv=>whnf
 refine gZn (i51b hx h2) ?_;conv=>whnf
 refine gZn (zx4 h3) ?_;conv=>whnf
 refine⟨[.gst JT,.cells (ivC x),.cells [.int .i64 p]],_,(n125E x p (n129 x hx p va.ri) (by rw[va.len];have:=va.n1;omega) fun r hr=>by rw[va.row r hr];have:=va.k1;omega).sw [(4,1000003),(5,1000004)] rfl,?_⟩;conv=>whnf
 exact⟨lr rfl,za1⟩
theorem n126(b:Mx)(p:Int){n k:Nat}{a:Mx}(va:VM n k a)(vb:VM n k b):CA b p (fun i j x=>yp x (atM b i j) p) a:=fun K hK hM i j row y0 hr hy=>by
 have hy0:=(va.el row (q0 hr) y0 (q0 hy)).ri;have hi:i<n:=by have:=(q4.1 hr).1;rw[va.len]at this;exact this
 have hj:j<k:=by have:=(q4.1 hy).1;rw[va.row row (q0 hr)]at this;exact this
 have n1:=va.n1;have k1:=va.k1;have hbl:=vb.len;have hri:=(xw vb hi hj).ri;obtain⟨r,hbr,hm⟩:∃r,b[i]? =some r/\r∈b:=⟨b[i]'(O),q1 O,List.getElem_mem _⟩;have hrl:=vb.row r hm;obtain⟨z,hz⟩:∃z,r[j]? =some z:=⟨_,q1 O⟩;have ez:atM b i j=z:=by unfold atM;rw[hbr,Option.getD_some,hz];rfl
 show Fn 299 (HA b p K) [.int .i64 i,.int .i64 j,.agg (ivC y0),.ptr 1000003 0,.ptr 1000004 0,.ptr 1000005 0] (.agg (ivC (yp y0 (atM b i j) p))) (HA b p K);rw[ez]at hri⊢;refine fZN Tryz.func299 rfl rfl ?_;conv=>whnf
 refine⟨⟨O,O⟩,fun(r':List Iv)hx=>?_⟩;obtain rfl:r=r':=by
  have hx:b[i]? =some r':=by simpa using hx
  rw[hbr]at hx;exact Option.some.inj hx
 conv=>whnf
 refine⟨⟨O,O⟩,fun(z':Iv)hx=>?_⟩;obtain rfl:z=z':=by
  have hx:r[j]? =some z':=by simpa using hx
  rw[hz]at hx;exact Option.some.inj hx
 conv=>whnf
 refine⟨[.gst (zni JT K)],_,(i82 y0 z hy0 hri p).lift yq hK hM,?_⟩
 (refine⟨Z,Z,?_⟩;(conv=>whnf))
 exact⟨lr rfl,lh1 (bg0 rfl) (lh1 (zg rfl rfl) (lh1 (zg rfl rfl) (lh1 (zg rfl rfl) lh0)))⟩
theorem n75{n k:Nat}{a b:Mx}(va:VM n k a)(vb:VM n k b){p:Int}(hp:pcB p=true):Fn 213 G0 [.sl .vs a,.sl .vs b,.int .i64 p,.fn 23 []] (.tup [.sl .vs (adM a b p).1,.int .i64 0]) G0:=by
 have n1:=va.n1;have k1:=va.k1;have hal:=va.len;have hbl:=vb.len;have e:(adM a b p).1=xt (fun i j x=>yp x (atM b i j) p) a:=by
  unfold adM;rw[Z5 (by rw[va.ok,vb.ok];simp),Z5 (by rw[hp];simp),Z5 (by rw[va.len,vb.len,va.hd,vb.hd];simp)]
 rw[e];obtain⟨r0,hr0⟩:∃r,a[0]? =some r:=⟨_,q1 O⟩;have hr0l:=va.row r0 (q0 hr0);obtain⟨s0,hs0⟩:∃r,b[0]? =some r:=⟨_,q1 O⟩;have hs0l:=vb.row s0 (q0 hs0);refine fZN Tryz.func213 rfl rfl ?_;conv=>whnf
 refine gZn (zgl va.rx va.ok) ?_;conv=>whnf
 refine gZn (zgl vb.rx vb.ok) ?_;conv=>whnf
 refine gZn (zx4 hp) ?_;conv=>whnf
 have:((a.length:Int) != (b.length:Int))=false:=OE;rw[this];conv=>whnf
 refine⟨⟨O,O⟩,fun(x:List Iv)hx=>?_⟩;obtain rfl:r0=x:=by
  have hx:a[0]? =some x:=hx;rw[hr0]at hx;exact Option.some.inj hx
 conv=>whnf
 refine⟨⟨O,O⟩,fun(x:List Iv)hx=>?_⟩;obtain rfl:s0=x:=by
  have hx:b[0]? =some x:=hx;rw[hs0]at hx;exact Option.some.inj hx
 (refine⟨Z,Z,?_⟩;(conv=>whnf))
 refine brI (fun c=>?_) (fun c=>?_)
 .have c:((r0.length:Int) != (s0.length:Int))=true:=c;simp at c;omega
 conv=>whnf
 refine⟨[.gst JT,.cells [.fn 23 []],.cells [.sl .vs b],.cells [.int .i64 p]],_,(n125A b p (n126 b p va vb) O fun r hr=>by rw[va.row r hr];omega).sw [(7,1000003),(5,1000004),(6,1000005)] rfl,?_⟩;conv=>whnf
 exact⟨lr rfl,za1⟩
theorem n34{n k:Nat}{a b:Mx}(va:VM n k a)(vb:VM n k b){p:Int}(hp:pcB p=true):Fn 133 G0 [.sl .vs a,.sl .vs b,.int .i64 p] (.tup [.sl .vs (adM a b p).1,.int .i64 0]) G0:=by
 refine fZN Tryz.func133 rfl rfl ?_;conv=>whnf
 refine gZc (n75 va vb hp) ?_;conv=>whnf
 exact⟨lr rfl,za1⟩
theorem jy{α β:Type}{f:α->β}{l:List α}{i:Nat}{x:α}(h:l[i]? =some x):(l.map f).take (i+1)=(l.map f).take i++ [f x]:=by
 rw[List.take_add_one,List.getElem?_map,h];rfl
theorem zap{α β:Type}{f:α->β}(l:List α):(l.map f).take l.length=l.map f:=q3 (by rw[List.length_map];exact Nat.le_refl _)
theorem n134(m:Mx)(hm:RM m)(hl:m.length<=100)(h8:∀r∈m,r.length<=100)(e:Iv)(he:RI e)(p:Int):Fn 211 G0 [.sl .vs m,.agg (ivC e),.int .i64 p] (.sl .vs (arM m e p)) G0:=by
 obtain⟨G,hG⟩:∃G,arM m e p=G:=⟨_,rfl⟩;have hGl:G.length=m.length:=by rw[<-hG];unfold arM;simp
 have hneg:RI (ze6 e):=(qjl he).ri;have hhul:RI (zbr (ze6 e) e):=(zky hneg he).ri;rw[hG];refine fZN Tryz.func211 rfl rfl ?_;conv=>whnf
 refine gZn (i86 e he) ?_;conv=>whnf
 refine gZn (i201 (ze6 e) e hneg he) ?_
 (refine⟨Z,Z,?_⟩;(conv=>whnf))
 refine⟨Nat,fun i=>i<=m.length,fun i=> [(20,.int .i64 i),(8,.own 41)],fun i=> [(13,.free),(36,.free),(41,.buf 23 .vs (G.take i))],fun i=>m.length-i,0,q2 _,?_,fun i hi=>?_⟩
 .exact KZ0
 (refine⟨Z,?_⟩;(conv=>whnf))
 refine brI (fun c=>?_) (fun c=>?_)
 .have c:i<m.length:=by have:=Z0 c;omega
  conv=>whnf
  refine⟨⟨O,O⟩,fun(row:List Iv)hr=>?_⟩;have hr:m[i]? =some row:=by simpa using hr
  have hrm:=q0 hr;have hrl:=h8 row hrm;have hGi:=jy (f:=fun r:List Iv=>r.map fun y=>yp y (zbr (ze6 e) e) p) hr;have hGe:(m.map fun r=>r.map fun y=>yp y (zbr (ze6 e) e) p)=G:=hG;rw[hGe]at hGi;conv=>whnf
  refine⟨Nat,fun j=>j<=row.length,fun j=> [(26,.int .i64 j),(11,.own 36)],fun j=> [(13,.free),(36,.buf 28 .iv ((row.map fun y=>yp y (zbr (ze6 e) e) p).take j))],fun j=>row.length-j,0,q2 _,?_,fun j hj=>?_⟩
  .exact KZ0
  (refine⟨Z,?_⟩;(conv=>whnf))
  refine brI (fun c2=>?_) (fun c2=>?_)
  .have c2:j<row.length:=by have:=Z0 c2;omega
   conv=>whnf
   refine⟨⟨O,O⟩,fun(y:Iv)hy=>?_⟩;have hy:row[j]? =some y:=by simpa using hy
   have hyt:=jy (f:=fun y=>yp y (zbr (ze6 e) e) p) hy;conv=>whnf
   refine gZc (i82 y (zbr (ze6 e) e) (hm row hrm y (q0 hy)) hhul p) ?_;conv=>whnf
   refine⟨OE,?_⟩;conv=>whnf
   refine⟨j+1,c2,by show row.length-(j+1)<row.length-j;omega,?_⟩;exact KZ0
  .have c2:j=row.length:=by have:=Z1 c2;omega
   conv=>whnf
   refine⟨OE,?_⟩;conv=>whnf
   refine⟨i+1,c,by show m.length-(i+1)<m.length-i;omega,?_⟩
   ((conv=>whnf);refine And.intro ?_ ?_;repeat' first|refine lc ?_ ?_|refine lh1 ?_ ?_|refine bc0 ?_|exact KXZ|refine lg0 ?_|refine lt0 ?_)
   .exact ai0 (by rw[wI O];omega)
   .exact bb0 (by rw[hGi,c2,zap])
 .have c:=Z1 c;conv=>whnf
  exact⟨qs (by rw[q3 O]),za1⟩
theorem n89(m:Mx)(hm:RM m)(hl:m.length<=100)(h8:∀r∈m,r.length<=100)(p:Int):Fn 134 G0 [.sl .vs m,.int .i64 p] (.sl .vs (rdM m p)) G0:=by
 obtain⟨G,hG⟩:∃G,rdM m p=G:=⟨_,rfl⟩;have hGl:G.length=m.length:=by rw[<-hG];unfold rdM;simp
 rw[hG];refine fZN Tryz.func134 rfl rfl ?_;conv=>whnf
 refine⟨Nat,fun i=>i<=m.length,fun i=> [(13,.int .i64 i),(5,.own 33)],fun i=> [(10,.free),(28,.free),(33,.buf 23 .vs (G.take i))],fun i=>m.length-i,0,q2 _,?_,fun i hi=>?_⟩
 .exact KZ0
 (refine⟨Z,?_⟩;(conv=>whnf))
 refine brI (fun c=>?_) (fun c=>?_)
 .have c:i<m.length:=by have:=Z0 c;omega
  conv=>whnf
  refine⟨⟨O,O⟩,fun(row:List Iv)hr=>?_⟩;have hr:m[i]? =some row:=by simpa using hr
  have hrm:=q0 hr;have hrl:=h8 row hrm;have hGi:=jy (f:=fun r:List Iv=>r.map fun y=>ux y p) hr;have hGe:(m.map fun r=>r.map fun y=>ux y p)=G:=hG;rw[hGe]at hGi;conv=>whnf
  refine⟨Nat,fun j=>j<=row.length,fun j=> [(19,.int .i64 j),(8,.own 28)],fun j=> [(10,.free),(28,.buf 28 .iv ((row.map fun y=>ux y p).take j))],fun j=>row.length-j,0,q2 _,?_,fun j hj=>?_⟩
  .exact KZ0
  (refine⟨Z,?_⟩;(conv=>whnf))
  refine brI (fun c2=>?_) (fun c2=>?_)
  .have c2:j<row.length:=by have:=Z0 c2;omega
   conv=>whnf
   refine⟨⟨O,O⟩,fun(y:Iv)hy=>?_⟩;have hy:row[j]? =some y:=by simpa using hy
   have hyt:=jy (f:=fun y=>ux y p) hy;conv=>whnf
   refine gZc (i189 y (hm row hrm y (q0 hy)) p) ?_;conv=>whnf
   refine⟨OE,?_⟩;conv=>whnf
   refine⟨j+1,c2,by show row.length-(j+1)<row.length-j;omega,?_⟩;exact KZ0
  .have c2:j=row.length:=by have:=Z1 c2;omega
   conv=>whnf
   refine⟨OE,?_⟩;conv=>whnf
   refine⟨i+1,c,by show m.length-(i+1)<m.length-i;omega,?_⟩
   ((conv=>whnf);refine And.intro ?_ ?_;repeat' first|refine lc ?_ ?_|refine lh1 ?_ ?_|refine bc0 ?_|exact KXZ|refine lg0 ?_|refine lt0 ?_)
   .exact ai0 (by rw[wI O];omega)
   .exact bb0 (by rw[hGi,c2,zap])
 .have c:=Z1 c;conv=>whnf
  exact⟨qs (by rw[q3 O]),za1⟩
theorem n90(m:Mx)(hl:m.length<=100)(h8:∀r∈m,r.length<=100):Fn 135 [] [.sl .vs m] (.bool (knM m)) []:=by
 refine fZN Tryz.func135 rfl rfl ?_;conv=>whnf
 refine⟨Nat,fun i=>i<=m.length/\(m.any fun r=>r.any fun x=>x.all)=((m.drop i).any fun r=>r.any fun x=>x.all),fun i=> [(9,.int .i64 i)],fun i=> [(6,.free)],fun i=>m.length-i,0,⟨q2 _,rfl⟩,?_,fun i hi=>?_⟩
 .exact KZ0
 obtain⟨hi,he⟩:=hi
 (refine⟨Z,?_⟩;(conv=>whnf))
 refine brI (fun c=>?_) (fun c=>?_)
 .have c:i<m.length:=by have:=Z0 c;omega
  conv=>whnf
  refine⟨⟨O,O⟩,fun(row:List Iv)hr=>?_⟩;have hr:m[i]? =some row:=by simpa using hr
  have hrl:=h8 row (q0 hr);rw[zu hr,q7]at he;conv=>whnf
  refine⟨Nat,fun j=>j<=row.length/\(row.any fun x=>x.all)=((row.drop j).any fun x=>x.all),fun j=> [(15,.int .i64 j)],fun j=> [(6,.free)],fun j=>row.length-j,0,⟨q2 _,rfl⟩,?_,fun j hj=>?_⟩
  .exact KZ0
  obtain⟨hj,hje⟩:=hj
  (refine⟨Z,?_⟩;(conv=>whnf))
  refine brI (fun c2=>?_) (fun c2=>?_)
  .have c2:j<row.length:=by have:=Z0 c2;omega
   conv=>whnf
   refine⟨⟨O,O⟩,fun(y:Iv)hy=>?_⟩;have hy:row[j]? =some y:=by simpa using hy
   rw[zu hy,q7]at hje;conv=>whnf
   refine brI (fun c3=>?_) (fun c3=>?_)
   .conv=>whnf
    exact⟨ab0 (by unfold knM;rw[he,hje,c3];simp),lh0⟩
   .conv=>whnf
    refine⟨j+1,⟨c2,by rw[hje,c3];rfl⟩,by show row.length-(j+1)<row.length-j;omega,?_⟩;exact KZ0
  .have c2:j=row.length:=by have:=Z1 c2;omega
   have hje:(row.any fun x=>x.all)=false:=by rw[hje,c2,q6];rfl
   conv=>whnf
   refine⟨i+1,⟨c,by rw[he,hje];rfl⟩,by show m.length-(i+1)<m.length-i;omega,?_⟩;exact KZ0
 .have c:=Z1 c;have he:(m.any fun r=>r.any fun x=>x.all)=false:=by rw[he,q5 O];rfl
  conv=>whnf
  exact⟨ab0 (by unfold knM;rw[he,Bool.eq_iff_iff];simp),lh0⟩
theorem qg6(n:Int)(h: -4611686018427387904<=n/\n<=4611686018427387904):Fn 209 G0 [.int .i64 n] (.agg (ivC (whI n))) G0:=by
 have h78:=v77 n h;have h77:=i136 (zjy n h);show Fn 209 G0 [.int .i64 n] (.agg (ivC (zx (zcb n)))) G0;generalize zcb n=d at*;obtain⟨d1,d2,d3⟩:=d;refine fZN Tryz.func209 rfl rfl ?_;conv=>whnf
 refine gZc h78 ?_;conv=>whnf
 refine gZn h77 ?_;conv=>whnf
 exact⟨lr rfl,za1⟩
theorem hd0{h h':Hp}:leA h h' (.agg [.bool false,.nilsl,.int .i64 0]) (.agg (dyC d0)):=lg0 (lc (lr rfl) (lc (li0 rfl) (lc (lr rfl) ln0)))
theorem n85(a:Mx)(ha:RX a)(p:Int):Fn 128 G0 [.sl .vs a,.int .i64 p] (.tup [.agg (dyC (nmM a p).1),.bool (nmM a p).2]) G0:=by
 cases h1:vmB a with
 |false=>
  have e:nmM a p=(d0,false):=by unfold nmM;rw[Z5 (by rw[h1];simp)]
  rw[e];refine fZN Tryz.func128 rfl rfl ?_;conv=>whnf
  refine gZn (zgl ha h1) ?_;conv=>whnf
  exact⟨lt0 (lc hd0 (lc (lr rfl) ln0)),za1⟩
 |true=>
 cases h3:pcB p with
 |false=>
  have e:nmM a p=(d0,false):=by unfold nmM;rw[Z5 (by rw[h3];simp)]
  rw[e];refine fZN Tryz.func128 rfl rfl ?_;conv=>whnf
  refine gZn (zgl ha h1) ?_;conv=>whnf
  refine gZn (zx4 h3) ?_;conv=>whnf
  exact⟨lt0 (lc hd0 (lc (lr rfl) ln0)),za1⟩
 |true=>
 obtain⟨n,k,va⟩:=(zfw ha.el).1 h1;obtain⟨q,rfl,hq2⟩:=yu.1 h3;obtain⟨p,hpq⟩:∃p:Int,p=(q:Int):=⟨_,rfl⟩;rw[<-hpq]at h3⊢;have hlen:=va.len;have n1:=va.n1;obtain⟨R,hR⟩:∃R,nmG p a d0=R:=⟨_,rfl⟩;have e:nmM a p=R.elim (d0,false) fun d=>(d,true):=by unfold nmM;rw[Z4 (by rw[h1,h3];rfl),hR];cases R<;>rfl
 rw[e];refine fZN Tryz.func128 rfl rfl ?_;conv=>whnf
 refine gZn (zgl ha h1) ?_;conv=>whnf
 refine gZn (zx4 h3) ?_;conv=>whnf
 refine⟨Nat×Dy,fun z=>z.1<=a.length/\VD z.2/\nmG p (a.drop z.1) z.2=R,fun z=> [(27,.int .i64 z.1)],fun z=> [(6,.cells (dyC z.2)),(9,.free),(11,.free),(12,.free),(14,.free)],fun z=>a.length-z.1,(0,d0),⟨q2 _,qf,hR⟩,?_,?_⟩
 .exact KZ0
 rintro⟨i,D⟩ ⟨hi,hD,he⟩;have hi:i<=a.length:=hi;have hD:VD D:=hD;have he:nmG p (a.drop i) D=R:=he
 (refine⟨Z,?_⟩;(conv=>whnf))
 refine brI (fun c=>?_) (fun c=>?_)
 .have c:i<a.length:=by have:=Z0 c;omega
  conv=>whnf
  refine⟨⟨O,O⟩,fun(row:List Iv)hr=>?_⟩;have hr:a[i]? =some row:=by simpa using hr
  have hrm:=q0 hr;have hrl:=va.row row hrm;have k1:=va.k1;rw[zu hr]at he;conv=>whnf
  refine⟨Nat×Dy,fun z=>z.1<=row.length/\VD z.2/\zgi p (row.drop z.1) z.2=zgi p row d0,fun z=> [(33,.int .i64 z.1)],fun z=> [(9,.cells (dyC z.2)),(11,.free),(12,.free),(14,.free)],fun z=>row.length-z.1,(0,d0),⟨q2 _,qf,rfl⟩,?_,?_⟩
  .exact KZ0
  rintro⟨j,s⟩ ⟨hj,hs,hje⟩;have hj:j<=row.length:=hj;have hs:VD s:=hs;have hje:zgi p (row.drop j) s=zgi p row d0:=hje
  (refine⟨Z,?_⟩;(conv=>whnf))
  refine brI (fun c2=>?_) (fun c2=>?_)
  .have c2:j<row.length:=by have:=Z0 c2;omega
   conv=>whnf
   refine⟨⟨O,O⟩,fun(x:Iv)hx=>?_⟩;have hx:row[j]? =some x:=by simpa using hx
   have hxr:=ha.el row hrm x (q0 hx);rw[zu hx]at hje;have h182:=i182 x hxr
   cases hk:kB x with
   |false=>
    have hn:zgi p row d0=none:=by rw[<-hje];unfold zgi;rw[Z5 (by rw[hk];simp)]
    have hR2:R=none:=by rw[<-he];unfold nmG;rw[hn]
    subst hR2;rw[hk]at h182;conv=>whnf
    refine gZn h182 ?_;conv=>whnf
    exact⟨lt0 (lc hd0 (lc (lr rfl) ln0)),za1⟩
   |true=>
    rw[hk,Z4 rfl]at h182;have kx:=(qb hxr).1 hk;have hmag:=zjx kx;have hadd:=v129 hs hmag q hq2;rw[<-hpq,(O:q=p.toNat)]at hadd;have hje2:(if(za7 s (zdn x) p.toNat true).2=0 then zgi p (row.drop (j+1)) (za7 s (zdn x) p.toNat true).1 else none)=zgi p row d0:=by
     rw[<-hje,zgi];simp only[hk,true_and]
    have hva:VD (za7 s (zdn x) p.toNat true).1:=zdb _ _ _ _ (vg h3);generalize za7 s (zdn x) p.toNat true=A at*;obtain⟨A1,A2⟩:=A;conv=>whnf
    refine gZn h182 ?_;conv=>whnf
    refine gZc hadd ?_;conv=>whnf
    refine brI (fun c3=>?_) (fun c3=>?_)
    .have c3:A2≠0:=by
      have c3:(A2 != 0)=true:=c3;simpa using c3
     have hn:zgi p row d0=none:=by rw[<-hje2,Z5 c3]
     have hR2:R=none:=by rw[<-he];unfold nmG;rw[hn]
     subst hR2;conv=>whnf
     exact⟨lt0 (lc hd0 (lc (lr rfl) ln0)),za1⟩
    .have c3:A2=0:=by
      have c3:(A2 != 0)=false:=c3;simpa using c3
     rw[Z4 c3]at hje2;conv=>whnf
     refine⟨(j+1,A1),⟨c2,hva,hje2⟩,by show row.length-(j+1)<row.length-j;omega,?_⟩;exact KZ0
  .have c2:j=row.length:=by have:=Z1 c2;omega
   have hrow:zgi p row d0=some s:=by rw[<-hje,c2,q6];rfl
   have he2:nmG p (a.drop (i+1)) (if 0<qh s D then s else D)=R:=by rw[<-he,nmG,hrow]
   conv=>whnf
   refine gZn (v81 hs hD) ?_;conv=>whnf
   refine brI (fun c3=>?_) (fun c3=>?_)
   .have c3:0<qh s D:=Z0 c3;rw[Z4 c3]at he2;conv=>whnf
    refine⟨(i+1,s),⟨c,hs,he2⟩,by show a.length-(i+1)<a.length-i;omega,?_⟩;exact KZ0
   .have c3:¬0<qh s D:=Z1 c3;rw[Z5 c3]at he2;conv=>whnf
    refine⟨(i+1,D),⟨c,hD,he2⟩,by show a.length-(i+1)<a.length-i;omega,?_⟩;exact KZ0
 .have c:=Z1 c;rw[q5 O]at he;have he:some D=R:=he;subst he;conv=>whnf
  exact⟨lr rfl,za1⟩
