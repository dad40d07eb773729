/-
  Seat of round r7: the walk of MatexpDiagonal.
-/
import Derived.Test.YtbolipecnhlnnaaGreatDoorQNx
import Derived.Test.YtbolipecnhlnnaaGreatDoorQNl
set_option linter.unusedVariables false
set_option linter.unusedSimpArgs false
open And renaming intro->q3
open List renaming getElem?_eq_some_iff->q2,getElem?_mapIdx->q4,mem_of_getElem?->q5,getElem?_eq_getElem->q6
open Nat renaming zero_le->q9
open Rat renaming le_refl->q7
namespace Go.Proofs.YtbolipecnhlnnaaGreatDoor
open Go Go.Sx
set_option maxRecDepth 100000
set_option maxHeartbeats 8000000
def zq5 (n:Nat) (i:Nat) (d:Dy):List Iv:=(List.replicate n (zj d0)).set i (zj d)
def dgM (l:List Dy):Mx:=l.mapIdx fun i d=>zq5 l.length i d
theorem zep (l:List Dy):(dgM l).length =l.length:=by unfold dgM;simp
theorem zuc {l:List Dy} {r:List Iv} (h:r∈dgM l): ∃(i:Nat) (d:Dy),l[i]? =some d/\d∈l/\r=zq5 l.length i d:=wz h
theorem znx (n i:Nat) (d:Dy):(zq5 n i d).length =n:=by unfold zq5;simp
theorem zny {n i:Nat} {d:Dy} {j:Nat} (hj:j<n):(zq5 n i d)[j]? =some (zj (if i=j then d else d0)):=by
 unfold zq5;rw[List.getElem?_set];by_cases c:i=j
 ·subst c;rw[if_pos rfl,if_pos rfl,if_pos (by simp;exact hj)]
 ·rw[if_neg c,if_neg c,List.getElem?_replicate,if_pos hj]
theorem qgc {l:List Dy} {i j:Nat} {d:Dy} (hd:l[i]? =some d) (hj:j<l.length):atM (dgM l) i j=zj (if i=j then d else d0):=by
 refine zes (r:=zq5 l.length i d) ?_ (zny hj);unfold dgM;rw[q4,hd];rfl
theorem zua {l:List Dy} {i:Nat} {d:Dy} (h:l[i]? =some d):(dgM l).take (i+1)=(dgM l).take i++ [zq5 l.length i d]:=by
 rw[List.take_add_one];unfold dgM;rw[q4,h];rfl
structure RDy (d:Dy):Prop where
 lb:LB d.m
 l1:d.m.length<9223372036854775808
theorem qg1 {d:Dy} (h:RDy d):RI (zj d):=⟨h.lb,h.lb,h.l1,h.l1⟩
theorem qb6 {l:List Dy} (hl: ∀d∈l,RDy d) (hlen:l.length<9223372036854775808):RX (dgM l):=by
 refine⟨fun r hr x hx=>?_,fun r hr=>?_,by rw[zep];exact hlen⟩
 ·obtain⟨i,d,_,hd,rfl⟩:=zuc hr;obtain⟨j,hj⟩:=List.getElem?_of_mem hx;have hjl:=(q2.1 hj).1;rw[znx]at hjl;rw[zny hjl]at hj;cases hj
  split
  ·exact qg1 (hl d hd)
  ·exact(zhq qc).ri
 ·obtain⟨i,d,_,_,rfl⟩:=zuc hr;rw[znx];exact hlen
theorem dg_cr {l:List Dy} {k:Nat} (hk:l.length=k+1) (va:VM (k+1) (k+1) (dgM l)):inM (k+1) (k+1) (dgQ fun i=>dv (l[i]?.getD d0)) (dgM l):=
 ⟨va,fun i j hi hj=>by
  obtain⟨d,hd⟩: ∃d,l[i]? =some d:=⟨_,q6 (by omega)⟩;rw[qgc hd (by omega)];unfold dgQ;by_cases c:i=j
  ·rw[if_pos c,if_pos c];show inI (dv (l[i]?.getD d0)) (zj d);rw[hd];exact .inr ⟨q7,q7⟩
  ·rw[if_neg c,if_neg c];refine .inr ⟨?_,?_⟩
   ·show dv d0<=0;rw[ym];exact q7
   ·show 0<=dv d0;rw[ym];exact q7⟩
structure DgF (l:List Dy) (t:Iv) (p:Int) (X:Mx):Prop where
 len:X.length=l.length
 row: ∀r∈X,r.length=l.length
 off: ∀(i j:Nat) (r:List Iv) (y:Iv),X[i]? =some r->r[j]? =some y->i≠j->Mt y (whI 0)
 on: ∀(i:Nat) (r:List Iv) (y:Iv) (d:Dy),X[i]? =some r->r[i]? =some y->l[i]? =some d->Mt y (zve (jh (zj d) (zj t.hi) 200) p)
theorem qb7 {l:List Dy} (hl: ∀d∈l,RDy d) (hlen:1<=l.length/\l.length<=3) {t:Iv} (ht:RI t) {p:Int} (hp:pcB p=true) (h:zmj (dgM l) t []=true):KI t/\ ∃w,zq4 (dgM l) t p=(w,0)/\DgF l t p w:=by
 obtain⟨sm,_⟩:=sm_ok h;have rx:=qb6 hl (by omega);obtain⟨n,va,kt,_⟩:=ziy rx ht sm.cas;have hel:=zzg rx ht sm.cas;have hn:n=l.length:=by rw[←va.len,zep]
 obtain⟨k,rfl⟩: ∃k,n=k+1:=⟨n-1,by omega⟩;have hk:k<=2:=by omega
 obtain⟨w,hw⟩:=qd7 hk va sm kt hel hp;have hin:=dg_cr hn.symm va;obtain⟨v,hm⟩:=zxg hk hin kt hp hw;have hcas:ziz (dgM l) t p=true:=by
  have h1:=sm.cas;unfold ziz at h1⊢;rw[hp];simp only[Bool.and_eq_true]at h1⊢;exact⟨⟨⟨h1.1.1.1,h1.1.1.2⟩,trivial⟩,h1.2⟩
 refine⟨kt,w.exp,by unfold zq4;rw[if_pos hcas,hw],⟨by rw[v.len,hn],fun r hr=>by rw[v.row r hr,hn],fun i j r y hr hy c=>?_,fun i r y d hr hy hd=>?_⟩⟩
 ·have i1:=(q2.1 hr).1;have j1:=(q2.1 hy).1;rw[v.len]at i1;rw[v.row r (q5 hr)]at j1;have:=(hm i j (by omega) (by omega)).1 c;rw[zes hr hy]at this;exact this
 ·have i1:=(q2.1 hr).1;rw[v.len]at i1;have kd:KI (zj d):=by
   obtain⟨r',hr',hx'⟩:=at_el va i1 i1;have:=hel r' hr' _ hx';rw[qgc hd (by omega),if_pos rfl]at this;exact this
  have vt:VI (zj t.hi):= .inl (zhq kt.hi);have vu:VI (jh (zj d) (zj t.hi) 200):=wq (.inl kd) vt (by decide);have iu:inI (dv (l[i]?.getD d0)*dv t.hi) (jh (zj d) (zj t.hi) 200):=by
   rw[hd];exact zcj (.inl kd) vt (by decide) (qej d) (qej t.hi)
  have:=(hm i i (by omega) (by omega)).2 rfl _ vu iu;rw[zes hr hy]at this;exact this
theorem d4 (l:List Dy) (hl: ∀d∈l,RDy d) (hlen:l.length<9223372036854775808) (t:Iv) (ht:RI t) {P:Int} (hP:0<=P/\P<=255):
 Fn 4 G0 [.sl .dy l,.agg (ivC t),.int .u8 P] (.bool true) G0:=by
 have c12:=n19 P hP;have hp:pcB (24+P % 41)=true:=by unfold pcB;simp;omega
 generalize 24+P % 41=p at*;by_cases h1:1<=l.length/\l.length<=3
 ·obtain⟨b,hb⟩: ∃b,zmj (dgM l) t []=b:=⟨_,rfl⟩;have c10:=n18n (qb6 hl hlen) ht hb;have eT:(dgM l).take l.length=dgM l:=List.take_of_length_le (by rw[zep];exact Nat.le_refl _)
  cases b with
  |false=>
   refine fnT hTM hmx Tryz.func4 rfl rfl (ex:= []) ?_;conv=>whnf
   refine gZc n8 ?_;conv=>whnf
   refine brI (fun c=>absurd (of_decide_eq_true c) (by omega)) (fun c=>?_);conv=>whnf
   refine brI (fun c2=>absurd (of_decide_eq_true c2) (by omega)) (fun c2=>?_);conv=>whnf
   refine⟨Nat,fun i=>i<=l.length,fun i=> [(35,.int .i64 i),(7,.own 51)],fun i=> [(9,.free),(42,.free),(51,.buf 23 .vs ((dgM l).take i))],fun i=>l.length-i,0,q9 _,?_,fun i hi=>?_⟩
   ·((conv=>whnf);refine q3 ?_ ?_;repeat' first|refine lc ?_ ?_|exact la0|exact lr rfl|exact ln0|refine lh1 ?_ ?_|exact lh0|exact bf0|exact bd0|refine bc0 ?_|exact bm0 rfl|exact bb0 rfl|exact bg0 rfl|exact li0 rfl|refine lg0 ?_|refine lt0 ?_|fail)
    ·exact trivial
    ·exact⟨rfl,rfl⟩
   (refine⟨by kernel_rfl,?_⟩;(conv=>whnf))
   refine brI (fun c3=>?_) (fun c3=>?_)
   ·have c3:i<l.length:=by have:=of_decide_eq_true c3;omega
    conv=>whnf
    refine⟨⟨by omega,by omega⟩,fun(d:Dy) hd=>?_⟩;have hd:l[i]? =some d:=by simpa using hd
    have htk:=zua hd;have c31:=n31 d;conv=>whnf
    refine⟨⟨by omega,by omega,by omega⟩,?_⟩;conv=>whnf
    refine gZn c31 ?_;conv=>whnf
    refine⟨⟨by omega,by simp;omega⟩,?_⟩;conv=>whnf
    refine⟨by simp;omega,?_⟩;conv=>whnf
    refine⟨by simp[zep];omega,?_⟩;conv=>whnf
    refine⟨i+1,c3,by show l.length-(i+1)<l.length-i;omega,?_⟩
    ((conv=>whnf);refine q3 ?_ ?_;repeat' first|refine lc ?_ ?_|exact la0|exact lr rfl|exact ln0|refine lh1 ?_ ?_|exact lh0|exact bf0|exact bd0|refine bc0 ?_|exact bm0 rfl|exact bb0 rfl|exact bg0 rfl|exact li0 rfl|refine lg0 ?_|refine lt0 ?_|fail)
    ·exact ai0 (by rw[wI (by omega)];omega)
    ·exact bb0 htk.symm
   ·have c3:i=l.length:=by
     have hi:i<=l.length:=hi;have:=of_decide_eq_false c3;omega
    subst c3;rw[eT];conv=>whnf
    refine gZn c10 ?_;conv=>whnf
    exact⟨lr rfl,zal⟩
  |true=>
   obtain⟨kt,w,hw,hF⟩:=qb7 hl h1 ht hp hb;have c18:=n14 (dgM l) (qb6 hl hlen) t ht p;rw[hw]at c18;have c18:Fn 18 G0 [.sl .vs (dgM l),.agg (ivC t),.int .i64 p] (.tup [.sl .vs w,.int .i64 0]) G0:=c18;have c19:=n24 0 (by decide);have c17:=n31 t.hi;have hwl:=hF.len;refine fnT hTM hmx Tryz.func4 rfl rfl (ex:= []) ?_;conv=>whnf
   refine gZc n8 ?_;conv=>whnf
   refine brI (fun c=>absurd (of_decide_eq_true c) (by omega)) (fun c=>?_);conv=>whnf
   refine brI (fun c2=>absurd (of_decide_eq_true c2) (by omega)) (fun c2=>?_);conv=>whnf
   refine⟨Nat,fun i=>i<=l.length,fun i=> [(35,.int .i64 i),(7,.own 51)],fun i=> [(9,.free),(42,.free),(51,.buf 23 .vs ((dgM l).take i))],fun i=>l.length-i,0,q9 _,?_,fun i hi=>?_⟩
   ·((conv=>whnf);refine q3 ?_ ?_;repeat' first|refine lc ?_ ?_|exact la0|exact lr rfl|exact ln0|refine lh1 ?_ ?_|exact lh0|exact bf0|exact bd0|refine bc0 ?_|exact bm0 rfl|exact bb0 rfl|exact bg0 rfl|exact li0 rfl|refine lg0 ?_|refine lt0 ?_|fail)
    ·exact trivial
    ·exact⟨rfl,rfl⟩
   (refine⟨by kernel_rfl,?_⟩;(conv=>whnf))
   refine brI (fun c3=>?_) (fun c3=>?_)
   ·have c3:i<l.length:=by have:=of_decide_eq_true c3;omega
    conv=>whnf
    refine⟨⟨by omega,by omega⟩,fun(d:Dy) hd=>?_⟩;have hd:l[i]? =some d:=by simpa using hd
    have htk:=zua hd;have c31:=n31 d;conv=>whnf
    refine⟨⟨by omega,by omega,by omega⟩,?_⟩;conv=>whnf
    refine gZn c31 ?_;conv=>whnf
    refine⟨⟨by omega,by simp;omega⟩,?_⟩;conv=>whnf
    refine⟨by simp;omega,?_⟩;conv=>whnf
    refine⟨by simp[zep];omega,?_⟩;conv=>whnf
    refine⟨i+1,c3,by show l.length-(i+1)<l.length-i;omega,?_⟩
    ((conv=>whnf);refine q3 ?_ ?_;repeat' first|refine lc ?_ ?_|exact la0|exact lr rfl|exact ln0|refine lh1 ?_ ?_|exact lh0|exact bf0|exact bd0|refine bc0 ?_|exact bm0 rfl|exact bb0 rfl|exact bg0 rfl|exact li0 rfl|refine lg0 ?_|refine lt0 ?_|fail)
    ·exact ai0 (by rw[wI (by omega)];omega)
    ·exact bb0 htk.symm
   ·have c3:i=l.length:=by
     have hi:i<=l.length:=hi;have:=of_decide_eq_false c3;omega
    subst c3;rw[eT];conv=>whnf
    refine gZn c10 ?_;conv=>whnf
    refine gZn c12 ?_;conv=>whnf
    refine gZc c18 ?_;conv=>whnf
    refine⟨Nat,fun i=>i<=w.length,fun i=> [(70,.int .i64 i)],fun i=> [(16,.free),(17,.free),(18,.free)],fun i=>w.length-i,0,q9 _,?_,fun i hi=>?_⟩
    ·((conv=>whnf);refine q3 ?_ ?_;repeat' first|refine lc ?_ ?_|exact la0|exact lr rfl|exact ln0|refine lh1 ?_ ?_|exact lh0|exact bf0|exact bd0|refine bc0 ?_|exact bm0 rfl|exact bb0 rfl|exact bg0 rfl|exact li0 rfl|refine lg0 ?_|refine lt0 ?_|fail)
    (refine⟨by kernel_rfl,?_⟩;(conv=>whnf))
    refine brI (fun d1=>?_) (fun d1=>?_)
    ·have d1:i<w.length:=by have:=of_decide_eq_true d1;omega
     conv=>whnf
     refine⟨⟨by omega,by omega⟩,fun(r:List Iv) hr=>?_⟩;have hr:w[i]? =some r:=by simpa using hr
     have hrl:=hF.row r (q5 hr);conv=>whnf
     refine⟨Nat,fun j=>j<=r.length,fun j=> [(78,.int .i64 j)],fun j=> [(16,.free),(17,.free),(18,.free)],fun j=>r.length-j,0,q9 _,?_,fun j hj=>?_⟩
     ·((conv=>whnf);refine q3 ?_ ?_;repeat' first|refine lc ?_ ?_|exact la0|exact lr rfl|exact ln0|refine lh1 ?_ ?_|exact lh0|exact bf0|exact bd0|refine bc0 ?_|exact bm0 rfl|exact bb0 rfl|exact bg0 rfl|exact li0 rfl|refine lg0 ?_|refine lt0 ?_|fail)
     (refine⟨by kernel_rfl,?_⟩;(conv=>whnf))
     refine brI (fun d2=>?_) (fun d2=>?_)
     ·have d2:j<r.length:=by have:=of_decide_eq_true d2;omega
      conv=>whnf
      refine⟨⟨by omega,by omega⟩,fun(y:Iv) hy=>?_⟩;have hy:r[j]? =some y:=by simpa using hy
      conv=>whnf
      refine gZn c19 ?_;conv=>whnf
      refine brI (fun d3=>?_) (fun d3=>?_)
      ·have d3:i=j:=by
        have d3:((i:Int)==(j:Int))=true:=d3;simp at d3;omega
       subst d3;obtain⟨d,hd⟩: ∃d,l[i]? =some d:=⟨_,q6 (by omega)⟩;obtain⟨z,hz⟩:=n54 (hF.on i r y d hr hy hd);have hdr:(dgM l)[i]? =some (zq5 l.length i d):=by unfold dgM;rw[q4,hd];rfl
       have hde:(zq5 l.length i d)[i]? =some (zj d):=by rw[zny (by omega),if_pos rfl]
       have rd:=qg1 (hl d (q5 hd));have rt:=(zhq kt.hi).ri;have c21:Fn 21 G0 [.agg (ivC (zj d)),.agg (ivC (zj t.hi)),.int .i64 200] (.agg (ivC (jh (zj d) (zj t.hi) 200))) G0:=i84 _ _ rd rt 200;have c20:Fn 20 G0 [.agg (ivC (jh (zj d) (zj t.hi) 200)),.int .i64 p] (.agg (ivC (zve (jh (zj d) (zj t.hi) 200) p))) G0:=x33 _ (zmi _ _ _) p;generalize zve (jh (zj d) (zj t.hi) 200) p=u at*;generalize jh (zj d) (zj t.hi) 200=v at*;conv=>whnf
       refine⟨⟨by omega,by rw[zep];omega⟩,fun(r':List Iv) hr'=>?_⟩;obtain rfl:zq5 l.length i d=r':=by
        have hr':(dgM l)[i]? =some r':=by simpa using hr'
        rw[hdr]at hr';exact Option.some.inj hr'
       conv=>whnf
       refine⟨⟨by omega,by rw[znx];omega⟩,fun(m:Iv) hm=>?_⟩;obtain rfl:zj d=m:=by
        have hm:(zq5 l.length i d)[i]? =some m:=by simpa using hm
        rw[hde]at hm;exact Option.some.inj hm
       conv=>whnf
       refine gZn c17 ?_;conv=>whnf
       refine gZc c21 ?_;conv=>whnf
       refine gZc c20 ?_
       (refine⟨by kernel_rfl,by kernel_rfl,?_⟩;(conv=>whnf))
       refine gZn hz ?_;conv=>whnf
       refine⟨i+1,d2,by show r.length-(i+1)<r.length-i;omega,?_⟩
       ((conv=>whnf);refine q3 ?_ ?_;repeat' first|refine lc ?_ ?_|exact la0|exact lr rfl|exact ln0|refine lh1 ?_ ?_|exact lh0|exact bf0|exact bd0|refine bc0 ?_|exact bm0 rfl|exact bb0 rfl|exact bg0 rfl|exact li0 rfl|refine lg0 ?_|refine lt0 ?_|fail)
       exact ai0 (by rw[wI (by omega)];omega)
      ·have d3:i≠j:=by
        have d3:((i:Int)==(j:Int))=false:=d3;simp at d3;omega
       obtain⟨z,hz⟩:=n54 (hF.off i j r y hr hy d3);conv=>whnf
       refine gZn hz ?_;conv=>whnf
       refine⟨j+1,d2,by show r.length-(j+1)<r.length-j;omega,?_⟩
       ((conv=>whnf);refine q3 ?_ ?_;repeat' first|refine lc ?_ ?_|exact la0|exact lr rfl|exact ln0|refine lh1 ?_ ?_|exact lh0|exact bf0|exact bd0|refine bc0 ?_|exact bm0 rfl|exact bb0 rfl|exact bg0 rfl|exact li0 rfl|refine lg0 ?_|refine lt0 ?_|fail)
       exact ai0 (by rw[wI (by omega)];omega)
     ·conv=>whnf
      refine⟨i+1,d1,by show w.length-(i+1)<w.length-i;omega,?_⟩
      ((conv=>whnf);refine q3 ?_ ?_;repeat' first|refine lc ?_ ?_|exact la0|exact lr rfl|exact ln0|refine lh1 ?_ ?_|exact lh0|exact bf0|exact bd0|refine bc0 ?_|exact bm0 rfl|exact bb0 rfl|exact bg0 rfl|exact li0 rfl|refine lg0 ?_|refine lt0 ?_|fail)
      exact ai0 (by rw[wI (by omega)];omega)
    ·conv=>whnf
     exact⟨lr rfl,zal⟩
 ·refine fnT hTM hmx Tryz.func4 rfl rfl (ex:= []) ?_;conv=>whnf
  refine gZc n8 ?_;conv=>whnf
  refine brI (fun c=>?_) (fun c=>?_)
  ·conv=>whnf
   refine gZc n8 ?_;conv=>whnf
   exact⟨lr rfl,zal⟩
  have c:=of_decide_eq_false c;conv=>whnf
  refine brI (fun c2=>?_) (fun c2=>?_)
  ·conv=>whnf
   refine gZc n8 ?_;conv=>whnf
   exact⟨lr rfl,zal⟩
  have c2:=of_decide_eq_false c2;omega
end Go.Proofs.YtbolipecnhlnnaaGreatDoor
