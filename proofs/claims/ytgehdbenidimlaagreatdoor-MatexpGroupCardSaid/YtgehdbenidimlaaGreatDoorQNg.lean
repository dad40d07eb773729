/-
  Seat of round r6: the reference's conditions: valid matrices, cases, boxes; points.
-/
import Derived.Test.YtgehdbenidimlaaGreatDoorQNe
import Derived.Test.YtgehdbenidimlaaGreatDoorQRb
set_option linter.unusedVariables false
set_option linter.unusedSimpArgs false
namespace Go.Proofs.YtgehdbenidimlaaGreatDoor
open Go Go.Sx
set_option maxRecDepth 100000
set_option maxHeartbeats 8000000
theorem n13 (m:Mx) (hm:RX m):Fn 13 [] [.sl .vs m] (.bool (vmB m)) []:=by
 have hlen:=hm.len;refine fnT hTM hmx Tryz.func13 rfl rfl (ex:= []) ?_;conv=>whnf
 refine brI (fun h1=>?_) (fun h1=>?_)
 ·have h1:=of_decide_eq_true h1;conv=>whnf
  exact⟨ab0 (zeq m (by omega)).symm,lh0⟩
 have h1:=of_decide_eq_false h1;conv=>whnf
 refine brI (fun h2=>?_) (fun h2=>?_)
 ·have h2:=of_decide_eq_true h2;conv=>whnf
  exact⟨ab0 (zeq m (by omega)).symm,lh0⟩
 have h2:=of_decide_eq_false h2;obtain⟨r0,hr0⟩: ∃r,m[0]? =some r:=⟨_,List.getElem?_eq_getElem (by omega)⟩;have e:=ztl hr0;have hrl0:=hm.rl r0 (List.mem_of_getElem? hr0);have hg0: ∀(x:List Iv),m[(0:Int).toNat]? =some x->r0=x:=fun x hx=>by
  have hx:m[0]? =some x:=hx;rw[hr0]at hx;exact Option.some.inj hx
 conv=>whnf
 refine⟨⟨by omega,by omega⟩,fun(x:List Iv) hx=>?_⟩;obtain rfl:=hg0 x hx;conv=>whnf
 refine brI (fun h3=>?_) (fun h3=>?_)
 ·have h3:=of_decide_eq_true h3;conv=>whnf
  exact⟨ab0 (zeq m (by omega)).symm,lh0⟩
 have h3:=of_decide_eq_false h3;conv=>whnf
 refine⟨⟨by omega,by omega⟩,fun(x:List Iv) hx=>?_⟩;obtain rfl:=hg0 x hx;conv=>whnf
 refine brI (fun h4=>?_) (fun h4=>?_)
 ·have h4:=of_decide_eq_true h4;conv=>whnf
  exact⟨ab0 (zeq m (by omega)).symm,lh0⟩
 have h4:=of_decide_eq_false h4;rw[zxq m (by omega) (by omega)];conv=>whnf
 refine⟨Nat,fun i=>i<=m.length/\m.any (rwB m)=(m.drop i).any (rwB m),fun i=> [(3,.int .i64 i)],fun i=> [],fun i=>m.length-i,0,⟨Nat.zero_le _,rfl⟩,?_,fun i hi=>?_⟩
 ·((conv=>whnf);refine And.intro ?_ ?_;repeat' first|refine lc ?_ ?_|exact la0|exact lr rfl|exact ln0|refine lh1 ?_ ?_|exact lh0|exact bf0|exact bd0|refine bc0 ?_|exact bm0 rfl|exact bb0 rfl|exact bg0 rfl|exact li0 rfl|refine lg0 ?_|refine lt0 ?_|fail)
 obtain⟨hi,he⟩:=hi
 (refine⟨by kernel_rfl,?_⟩;(conv=>whnf))
 refine brI (fun c=>?_) (fun c=>?_)
 ·have c:i<m.length:=by have:=of_decide_eq_true c;omega
  obtain⟨row,hr⟩: ∃r,m[i]? =some r:=⟨_,List.getElem?_eq_getElem c⟩;have hrm:=List.mem_of_getElem? hr;have hrl:=hm.rl row hrm;have hgi: ∀(x:List Iv),m[((i:Nat):Int).toNat]? =some x->row=x:=fun x hx=>by
   have hx:m[i]? =some x:=by simpa using hx
   rw[hr]at hx;exact Option.some.inj hx
  rw[zq hr,List.any_cons]at he;conv=>whnf
  refine⟨⟨by omega,by omega⟩,fun(x:List Iv) hx=>?_⟩;obtain rfl:=hgi x hx;conv=>whnf
  refine⟨⟨by omega,by omega⟩,fun(x:List Iv) hx=>?_⟩;obtain rfl:=hg0 x hx
  (refine⟨by kernel_rfl,by kernel_rfl,?_⟩;(conv=>whnf))
  refine brI (fun c2=>?_) (fun c2=>?_)
  ·have c2:row.length≠r0.length:=by
    have c2:((row.length:Int) != (r0.length:Int))=true:=c2;simp at c2;omega
   have hb:rwB m row=true:=by unfold rwB;rw[e];simp[c2]
   conv=>whnf
   exact⟨ab0 (by rw[he,hb];rfl),lh0⟩
  have c2:row.length=r0.length:=by
   have c2:((row.length:Int) != (r0.length:Int))=false:=c2;simp at c2;omega
  have hb:rwB m row=row.any fun x=> !viB x:=by unfold rwB;rw[e];simp[c2]
  rw[hb]at he;conv=>whnf
  refine⟨Nat,fun j=>j<=row.length/\(row.any fun x=> !viB x)=((row.drop j).any fun x=> !viB x),fun j=> [(4,.int .i64 j)],fun j=> [],fun j=>row.length-j,0,⟨Nat.zero_le _,rfl⟩,?_,fun j hj=>?_⟩
  ·((conv=>whnf);refine And.intro ?_ ?_;repeat' first|refine lc ?_ ?_|exact la0|exact lr rfl|exact ln0|refine lh1 ?_ ?_|exact lh0|exact bf0|exact bd0|refine bc0 ?_|exact bm0 rfl|exact bb0 rfl|exact bg0 rfl|exact li0 rfl|refine lg0 ?_|refine lt0 ?_|fail)
  obtain⟨hj,hje⟩:=hj
  (refine⟨by kernel_rfl,?_⟩;(conv=>whnf))
  refine⟨⟨by omega,by omega⟩,fun(x:List Iv) hx=>?_⟩;obtain rfl:=hgi x hx;conv=>whnf
  refine brI (fun c3=>?_) (fun c3=>?_)
  ·have c3:j<row.length:=by have:=of_decide_eq_true c3;omega
   conv=>whnf
   refine⟨⟨by omega,by omega⟩,fun(x:List Iv) hx=>?_⟩;obtain rfl:=hgi x hx;conv=>whnf
   refine⟨⟨by omega,by omega⟩,fun(y:Iv) hy=>?_⟩;have hy:row[j]? =some y:=by simpa using hy
   have h40:=qcg y (hm.el row hrm y (List.mem_of_getElem? hy));rw[zq hy,List.any_cons]at hje;conv=>whnf
   cases hv:viB y with
   |false=>
    rw[hv]at h40;refine gZn h40 ?_;conv=>whnf
    exact⟨ab0 (by rw[he,hje,hv];simp),lh0⟩
   |true=>
    rw[hv]at h40;refine gZn h40 ?_;conv=>whnf
    refine⟨j+1,⟨c3,by rw[hje,hv];rfl⟩,by show row.length-(j+1)<row.length-j;omega,?_⟩
    ((conv=>whnf);refine And.intro ?_ ?_;repeat' first|refine lc ?_ ?_|exact la0|exact lr rfl|exact ln0|refine lh1 ?_ ?_|exact lh0|exact bf0|exact bd0|refine bc0 ?_|exact bm0 rfl|exact bb0 rfl|exact bg0 rfl|exact li0 rfl|refine lg0 ?_|refine lt0 ?_|fail)
    exact ai0 (by rw[wI (by omega)];omega)
  ·have c3:j=row.length:=by
    have hj:j<=row.length:=hj;have:=of_decide_eq_false c3;omega
   have hje:(row.any fun x=> !viB x)=false:=by rw[hje,c3,List.drop_length];rfl
   conv=>whnf
   refine⟨i+1,⟨c,by rw[he,hje];rfl⟩,by show m.length-(i+1)<m.length-i;omega,?_⟩
   ((conv=>whnf);refine And.intro ?_ ?_;repeat' first|refine lc ?_ ?_|exact la0|exact lr rfl|exact ln0|refine lh1 ?_ ?_|exact lh0|exact bf0|exact bd0|refine bc0 ?_|exact bm0 rfl|exact bb0 rfl|exact bg0 rfl|exact li0 rfl|refine lg0 ?_|refine lt0 ?_|fail)
   exact ai0 (by rw[wI (by omega)];omega)
 ·have c:=of_decide_eq_false c;have he:m.any (rwB m)=false:=by rw[he,List.drop_of_length_le (by omega)];rfl
  conv=>whnf
  exact⟨ab0 (by rw[he];rfl),lh0⟩
theorem n17 (l:List Iv) (hl: ∀x∈l,RI x) (hlen:l.length<1000000):Fn 17 [] [.sl .iv l] (.bool (bvB l)) []:=by
 have hno: ¬(1<=l.length/\l.length<=8)->bvB l=false:=fun h=>by unfold bvB;rw[decide_eq_false h];rfl
 refine fnT hTM hmx Tryz.func17 rfl rfl (ex:= []) ?_;conv=>whnf
 refine brI (fun h1=>?_) (fun h1=>?_)
 ·have h1:=of_decide_eq_true h1;conv=>whnf
  exact⟨ab0 (hno (by omega)).symm,lh0⟩
 have h1:=of_decide_eq_false h1;conv=>whnf
 refine brI (fun h2=>?_) (fun h2=>?_)
 ·have h2:=of_decide_eq_true h2;conv=>whnf
  exact⟨ab0 (hno (by omega)).symm,lh0⟩
 have h2:=of_decide_eq_false h2;have e:bvB l= !l.any fun x=>x.all|| !viB x:=by unfold bvB;rw[decide_eq_true (show 1<=l.length/\l.length<=8 by omega)];rfl
 rw[e];conv=>whnf
 refine⟨Nat,fun j=>j<=l.length/\(l.any fun x=>x.all|| !viB x)=((l.drop j).any fun x=>x.all|| !viB x),fun j=> [(3,.int .i64 j)],fun j=> [],fun j=>l.length-j,0,⟨Nat.zero_le _,rfl⟩,?_,fun j hj=>?_⟩
 ·((conv=>whnf);refine And.intro ?_ ?_;repeat' first|refine lc ?_ ?_|exact la0|exact lr rfl|exact ln0|refine lh1 ?_ ?_|exact lh0|exact bf0|exact bd0|refine bc0 ?_|exact bm0 rfl|exact bb0 rfl|exact bg0 rfl|exact li0 rfl|refine lg0 ?_|refine lt0 ?_|fail)
 obtain⟨hj,hje⟩:=hj
 (refine⟨by kernel_rfl,?_⟩;(conv=>whnf))
 refine brI (fun c=>?_) (fun c=>?_)
 ·have c:j<l.length:=by have:=of_decide_eq_true c;omega
  conv=>whnf
  refine⟨⟨by omega,by omega⟩,fun(y:Iv) hy=>?_⟩;have hy:l[j]? =some y:=by simpa using hy
  have hgi: ∀(x:Iv),l[((j:Nat):Int).toNat]? =some x->y=x:=fun x hx=>by
   have hx:l[j]? =some x:=by simpa using hx
   rw[hy]at hx;exact Option.some.inj hx
  have h40:=qcg y (hl y (List.mem_of_getElem? hy));rw[zq hy,List.any_cons]at hje;obtain⟨lo,hi,al⟩:=y
  cases al with
  |true=>
   conv=>whnf
   exact⟨ab0 (by rw[hje];simp),lh0⟩
  |false=>
   conv=>whnf
   refine⟨⟨by omega,by omega⟩,fun(z:Iv) hz=>?_⟩;obtain rfl:=hgi z hz;conv=>whnf
   cases hv:viB ⟨lo,hi,false⟩with
   |false=>
    rw[hv]at h40;refine gZn h40 ?_;conv=>whnf
    exact⟨ab0 (by rw[hje,hv];simp),lh0⟩
   |true=>
    rw[hv]at h40;refine gZn h40 ?_;conv=>whnf
    refine⟨j+1,⟨c,by rw[hje,hv];rfl⟩,by show l.length-(j+1)<l.length-j;omega,?_⟩
    ((conv=>whnf);refine And.intro ?_ ?_;repeat' first|refine lc ?_ ?_|exact la0|exact lr rfl|exact ln0|refine lh1 ?_ ?_|exact lh0|exact bf0|exact bd0|refine bc0 ?_|exact bm0 rfl|exact bb0 rfl|exact bg0 rfl|exact li0 rfl|refine lg0 ?_|refine lt0 ?_|fail)
    exact ai0 (by rw[wI (by omega)];omega)
 ·have c:=of_decide_eq_false c;have hje:(l.any fun x=>x.all|| !viB x)=false:=by rw[hje,List.drop_of_length_le (by omega)];rfl
  conv=>whnf
  exact⟨ab0 (by rw[hje];rfl),lh0⟩
theorem n41 (p:Int):Fn 41 [] [.int .i64 p] (.bool (pcB p)) []:=by
 have ep:pcB p=(decide (8<=p)&&decide (p<=512)):=by unfold pcB;rw[Bool.eq_iff_iff]
 rw[ep];refine fnT hTM hmx Tryz.func41 rfl rfl (ex:= []) ?_;conv=>whnf
 refine brI (fun h1=>?_) (fun h1=>?_)
 ·have h1:=of_decide_eq_true h1;conv=>whnf
  exact⟨ab0 (by rw[decide_eq_true (show 8<=p by omega)];rfl),lh0⟩
 ·have h1:=of_decide_eq_false h1;conv=>whnf
  exact⟨ab0 (by rw[decide_eq_false (show ¬8<=p by omega)];rfl),lh0⟩
theorem qd3 {m:Mx} (hm:RX m) {b:Bool} (h:vmB m=b):Fn 13 [] [.sl .vs m] (.bool b) []:=by rw[←h];exact n13 m hm
theorem n12 (a:Mx) (ha:RX a) (t:Iv) (ht:RI t) (p:Int):Fn 12 [] [.sl .vs a,.agg (ivC t),.int .i64 p] (.bool (zhh a t p)) []:=by
 rw[zuh a ht p];have h83:=qcg t ht
 cases h1:vmB a with
 |false=>
  refine fnT hTM hmx Tryz.func12 rfl rfl (ex:= []) ?_;conv=>whnf
  refine gZn (qd3 ha h1) ?_;conv=>whnf
  exact⟨lr rfl,lh0⟩
 |true=>
 obtain⟨n,k,va⟩:=(zep ha.el).1 h1;have n1:=va.n1;have k1:=va.k1;have hal:=va.len;obtain⟨r0,hr0⟩: ∃r,a[0]? =some r:=⟨_,List.getElem?_eq_getElem (by omega)⟩;have hr0l:=va.row r0 (List.mem_of_getElem? hr0);have hhd:=va.hd;rw[hhd];obtain⟨lo,hi,al⟩:=t;have hgt: ∀(x:List Iv),a[(0:Int).toNat]? =some x->r0=x:=fun x hx=>by
  have hx:a[0]? =some x:=hx;rw[hr0]at hx;exact Option.some.inj hx
 by_cases h2:a.length=k
 ·have e2:((r0.length:Int) != (a.length:Int))=false:=by simp;omega
  rw[decide_eq_true h2];cases h3:viB ⟨lo,hi,al⟩with
  |false=>
   rw[h3]at h83;refine fnT hTM hmx Tryz.func12 rfl rfl (ex:= []) ?_;conv=>whnf
   refine gZn (qd3 ha h1) ?_;conv=>whnf
   refine⟨⟨by omega,by omega⟩,fun(x:List Iv) hx=>?_⟩;obtain rfl:=hgt x hx;conv=>whnf
   rw[e2];conv=>whnf
   refine gZn h83 ?_;conv=>whnf
   exact⟨lr rfl,lh0⟩
  |true=>
  rw[h3]at h83
  cases al with
  |true=>
   refine fnT hTM hmx Tryz.func12 rfl rfl (ex:= []) ?_;conv=>whnf
   refine gZn (qd3 ha h1) ?_;conv=>whnf
   refine⟨⟨by omega,by omega⟩,fun(x:List Iv) hx=>?_⟩;obtain rfl:=hgt x hx;conv=>whnf
   rw[e2];conv=>whnf
   refine gZn h83 ?_;conv=>whnf
   exact⟨lr rfl,lh0⟩
  |false=>
   refine fnT hTM hmx Tryz.func12 rfl rfl (ex:= []) ?_;conv=>whnf
   refine gZn (qd3 ha h1) ?_;conv=>whnf
   refine⟨⟨by omega,by omega⟩,fun(x:List Iv) hx=>?_⟩;obtain rfl:=hgt x hx;conv=>whnf
   rw[e2];conv=>whnf
   refine gZn h83 ?_;conv=>whnf
   have h60:=n41 p;have ep:pcB p=(decide (8<=p)&&decide (p<=512)):=by unfold pcB;rw[Bool.eq_iff_iff]
   rw[←Bool.and_assoc (decide (8<=p)),←ep]
   cases h4:pcB p with
   |false=>
    rw[h4]at h60;refine gZn h60 ?_;conv=>whnf
    exact⟨lr rfl,lh0⟩
   |true=>
   rw[h4]at h60;refine gZn h60 ?_;conv=>whnf
   refine⟨Nat,fun i=>i<=a.length/\(a.any fun r=>r.any fun x=>x.all)=((a.drop i).any fun r=>r.any fun x=>x.all),fun i=> [(7,.int .i64 i)],fun i=> [],fun i=>a.length-i,0,⟨Nat.zero_le _,rfl⟩,?_,fun i hi=>?_⟩
   ·((conv=>whnf);refine And.intro ?_ ?_;repeat' first|refine lc ?_ ?_|exact la0|exact lr rfl|exact ln0|refine lh1 ?_ ?_|exact lh0|exact bf0|exact bd0|refine bc0 ?_|exact bm0 rfl|exact bb0 rfl|exact bg0 rfl|exact li0 rfl|refine lg0 ?_|refine lt0 ?_|fail)
   obtain⟨hi,he⟩:=hi
   (refine⟨by kernel_rfl,?_⟩;(conv=>whnf))
   refine brI (fun c=>?_) (fun c=>?_)
   ·have c:i<a.length:=by have:=of_decide_eq_true c;omega
    obtain⟨row,hr⟩: ∃r,a[i]? =some r:=⟨_,List.getElem?_eq_getElem c⟩;have hrl:=va.row row (List.mem_of_getElem? hr);rw[zq hr,List.any_cons]at he;conv=>whnf
    refine⟨Nat,fun j=>j<=row.length/\(row.any fun x=>x.all)=((row.drop j).any fun x=>x.all),fun j=> [(8,.int .i64 j)],fun j=> [],fun j=>row.length-j,0,⟨Nat.zero_le _,rfl⟩,?_,fun j hj=>?_⟩
    ·((conv=>whnf);refine And.intro ?_ ?_;repeat' first|refine lc ?_ ?_|exact la0|exact lr rfl|exact ln0|refine lh1 ?_ ?_|exact lh0|exact bf0|exact bd0|refine bc0 ?_|exact bm0 rfl|exact bb0 rfl|exact bg0 rfl|exact li0 rfl|refine lg0 ?_|refine lt0 ?_|fail)
    obtain⟨hj,hje⟩:=hj
    (refine⟨by kernel_rfl,?_⟩;(conv=>whnf))
    refine brI (fun c2=>?_) (fun c2=>?_)
    ·have c2:j<row.length:=by have:=of_decide_eq_true c2;omega
     conv=>whnf
     refine⟨⟨by omega,by omega⟩,fun(x:List Iv) hx=>?_⟩;obtain rfl:row=x:=by
      have hx:a[i]? =some x:=by simpa using hx
      rw[hr]at hx;exact Option.some.inj hx
     conv=>whnf
     refine⟨⟨by omega,by omega⟩,fun(y:Iv) hy=>?_⟩;have hy:row[j]? =some y:=by simpa using hy
     rw[zq hy,List.any_cons]at hje;conv=>whnf
     refine brI (fun c3=>?_) (fun c3=>?_)
     ·conv=>whnf
      exact⟨ab0 (by rw[he,hje,c3];simp),lh0⟩
     ·conv=>whnf
      refine⟨j+1,⟨c2,by rw[hje,c3];rfl⟩,by show row.length-(j+1)<row.length-j;omega,?_⟩
      ((conv=>whnf);refine And.intro ?_ ?_;repeat' first|refine lc ?_ ?_|exact la0|exact lr rfl|exact ln0|refine lh1 ?_ ?_|exact lh0|exact bf0|exact bd0|refine bc0 ?_|exact bm0 rfl|exact bb0 rfl|exact bg0 rfl|exact li0 rfl|refine lg0 ?_|refine lt0 ?_|fail)
      exact ai0 (by rw[wI (by omega)];omega)
    ·have c2:j=row.length:=by
      have hj:j<=row.length:=hj;have:=of_decide_eq_false c2;omega
     have hje:(row.any fun x=>x.all)=false:=by rw[hje,c2,List.drop_length];rfl
     conv=>whnf
     refine⟨i+1,⟨c,by rw[he,hje];rfl⟩,by show a.length-(i+1)<a.length-i;omega,?_⟩
     ((conv=>whnf);refine And.intro ?_ ?_;repeat' first|refine lc ?_ ?_|exact la0|exact lr rfl|exact ln0|refine lh1 ?_ ?_|exact lh0|exact bf0|exact bd0|refine bc0 ?_|exact bm0 rfl|exact bb0 rfl|exact bg0 rfl|exact li0 rfl|refine lg0 ?_|refine lt0 ?_|fail)
     exact ai0 (by rw[wI (by omega)];omega)
   ·have c:=of_decide_eq_false c;have he:(a.any fun r=>r.any fun x=>x.all)=false:=by rw[he,List.drop_of_length_le (by omega)];rfl
    conv=>whnf
    exact⟨ab0 (by rw[he];rfl),lh0⟩
 ·have e2:((r0.length:Int) != (a.length:Int))=true:=by simp;omega
  rw[decide_eq_false h2];refine fnT hTM hmx Tryz.func12 rfl rfl (ex:= []) ?_;conv=>whnf
  refine gZn (qd3 ha h1) ?_;conv=>whnf
  refine⟨⟨by omega,by omega⟩,fun(x:List Iv) hx=>?_⟩;obtain rfl:=hgt x hx;conv=>whnf
  rw[e2];conv=>whnf
  exact⟨lr rfl,lh0⟩
theorem n31 (d:Dy):Fn 31 [] [.agg (dyC d)] (.agg (ivC (zk d))) []:=by
 refine fnT hTM hmx Tryz.func31 rfl rfl (ex:= []) ?_;conv=>whnf
 exact⟨lr rfl,lh0⟩
theorem n24 (n:Int) (h: -4611686018427387904<=n/\n<=4611686018427387904):Fn 24 [] [.int .i64 n] (.agg (ivC (whI n))) []:=by
 have h1:=r262 n h;have h2:=n31 (zb4 n);show Fn 24 [] [.int .i64 n] (.agg (ivC (zk (zb4 n)))) [];generalize zb4 n=d at*;refine fnT hTM hmx Tryz.func24 rfl rfl (ex:= []) ?_;conv=>whnf
 refine gZn h1 ?_;conv=>whnf
 refine gZn h2 ?_;conv=>whnf
 exact⟨lr rfl,lh0⟩
theorem n80 {x:Iv} (hx:VI x) {d:Dy} (hd:VD d) (h:inI (dv d) x):Fn 80 [] [.agg (ivC x),.agg (dyC d)] (.bool true) []:=by
 have h40:=qcg x hx.ri;rw[(wl hx.ri).2 hx]at h40;have h82:=r174 d hd.lb (by have:=hd.len;omega);rw[(xg hd.lb).2 hd]at h82;obtain⟨lo,hi,al⟩:=x
 cases al with
 |true=>
  refine fnT hTM hmx Tryz.func80 rfl rfl (ex:= []) ?_;conv=>whnf
  refine gZn h40 ?_;conv=>whnf
  refine gZn h82 ?_;conv=>whnf
  exact⟨lr rfl,lh0⟩
 |false=>
  have k:=(un hx).1 rfl;rcases h with c|⟨c1,c2⟩
  ·cases c
  have e1:=zvv k.lo hd;have e2:=zvv hd k.hi;have c1:=jk.2 c1;have c2:=jk.2 c2;have c1:qa lo d<=0:=c1;have c2:qa d hi<=0:=c2;refine fnT hTM hmx Tryz.func80 rfl rfl (ex:= []) ?_;conv=>whnf
  refine gZn h40 ?_;conv=>whnf
  refine gZn h82 ?_;conv=>whnf
  refine gZn e1 ?_;conv=>whnf
  refine brI (fun c=>?_) (fun c=>absurd c1 (of_decide_eq_false c));conv=>whnf
  refine gZn e2 ?_;conv=>whnf
  exact⟨ab0 (by rw[decide_eq_true c2]),lh0⟩
theorem n37 {x:Iv} (hx:VI x) (n:Int) (hn: -4611686018427387904<=n/\n<=4611686018427387904) (h:inI (n:Rat) x):Fn 37 [] [.agg (ivC x),.int .i64 n] (.bool true) []:=by
 have h1:=r262 n hn;have h2:=n80 hx (zis n hn) (by rw[ji];exact h);generalize zb4 n=d at*;refine fnT hTM hmx Tryz.func37 rfl rfl (ex:= []) ?_;conv=>whnf
 refine gZn h1 ?_;conv=>whnf
 refine gZn h2 ?_
 (refine⟨by kernel_rfl,by kernel_rfl,?_⟩;(conv=>whnf))
 exact⟨lr rfl,lh0⟩
def awA:Mx:= [[whI 0,whI 1],[whI 0,whI 0]]
def awH (y:Iv) (n:Int):Bool:= !y.all&&decide (qa y.lo (zb4 n)<=0)&&decide (qa (zb4 n) y.hi<=0)
def awE (X:Mx×Int):Bool:=match X with
 |([[_,y],_],0)=>awH y 3
 | _=>false
def awL (X:List Iv×Int):Bool:=match X with
 |([y,z],0)=>awH y 7&&awH z (-1)
 | _=>false
theorem qfx:awE (zqp awA (whI 3) 30)=true:=by decide+kernel
theorem qfw:awL (zyn awA [whI 0,whI (-2)] [whI 1,whI 5] (whI 3) 30)=true:=by decide+kernel
theorem zmi (n:Int) (h: -4611686018427387904<=n/\n<=4611686018427387904):RI (whI n):=(zeo h).ri
theorem qb5:RX awA:=by
 refine⟨fun r hr x hx=>?_,fun r hr=>?_,by decide⟩
 ·simp only[awA,List.mem_cons,List.not_mem_nil,or_false]at hr;rcases hr with rfl|rfl<;>simp only[List.mem_cons,List.not_mem_nil,or_false]at hx<;>rcases hx with rfl|rfl<;>exact zmi _ (by decide)
 ·simp only[awA,List.mem_cons,List.not_mem_nil,or_false]at hr;rcases hr with rfl|rfl<;>decide
theorem qe4 {a:Mx} (ha:RX a) {t:Iv} (ht:RI t) {p:Int} {X:Mx} (h:zqp a t p=(X,0)): ∃n,VM n n a/\VM n n X:=by
 unfold zqp at h;split at h
 ·rename_i c;obtain⟨n,va,kt,hp⟩:=zex ha ht c;split at h
  ·rename_i y hy;cases h
   exact⟨n,va,(zl7 va kt hp hy).1⟩
  ·cases h
 ·cases h
theorem qef {a:Mx} {b x:List Iv} (hb: ∀y∈b,RI y) {t:Iv} {p:Int} {L:List Iv} (h:zyn a b x t p=(L,0)):bvB L=true:=by
 rw[znb]at h;split at h
 ·cases h
 ·cases hbot:zcs a t p with
  |none=>rw[hbot]at h;cases h
  |some y=>
   rw[hbot]at h;simp only[linR]at h;split at h
   ·rename_i c;cases h;exact c
   ·cases h
theorem qbz {y:Iv} {n:Int} (h:awH y n=true):y.all=false/\inI (n:Rat) y:=by
 unfold awH at h;simp only[Bool.and_eq_true,Bool.not_eq_true',decide_eq_true_eq]at h;obtain⟨⟨h1,h2⟩,h3⟩:=h;have h2:=jk.1 h2;have h3:=jk.1 h3;rw[ji]at h2 h3;exact⟨h1,.inr ⟨h2,h3⟩⟩
theorem qcs {p:Int} (u v:List Iv): ∀z∈List.zipWith (fun u v=>yy u v p) u v,RI z:=fun z hz=>by
 obtain⟨i,hi⟩:=List.getElem?_of_mem hz;rw[List.getElem?_zipWith]at hi;split at hi
 ·cases hi;exact zpq _ _ _
 ·cases hi
theorem qeg {a:Mx} {b x:List Iv} {t:Iv} {p:Int} {L:List Iv} (h:zyn a b x t p=(L,0)): ∀z∈L,RI z:=by
 rw[znb]at h;split at h
 ·cases h
 ·cases hbot:zcs a t p with
  |none=>rw[hbot]at h;cases h
  |some y=>
   rw[hbot]at h;simp only[linR]at h;split at h
   ·cases h;exact qcs _ _
   ·cases h
theorem gx0 {α:Type} {x:α} {l:List α} {P:α->Prop} (h:P x):((0:Int)<=0/\(0:Int)<((x::l).length :Int))/\ ∀y:α,(x::l)[(0:Int).toNat]? =some y->P y:=
 ⟨⟨by omega,by simp only[List.length_cons];omega⟩,fun y hy=>by cases hy;exact h⟩
theorem gx1 {α:Type} {x z:α} {l:List α} {P:α->Prop} (h:P z):((0:Int)<=1/\(1:Int)<((x::z::l).length :Int))/\ ∀y:α,(x::z::l)[(1:Int).toNat]? =some y->P y:=
 ⟨⟨by omega,by simp only[List.length_cons];omega⟩,fun y hy=>by cases hy;exact h⟩
theorem n8:Fn 8 G0 [] (.bool true) G0:=by
 have c14:=n14 awA qb5 (whI 3) (zmi 3 (by decide)) 30;have c16:=n16 awA qb5 [whI 0,whI (-2)] [whI 1,whI 5] (fun y hy=>by
  simp only[List.mem_cons,List.not_mem_nil,or_false]at hy;rcases hy with rfl|rfl<;>exact zmi _ (by decide)) (fun y hy=>by
  simp only[List.mem_cons,List.not_mem_nil,or_false]at hy;rcases hy with rfl|rfl<;>exact zmi _ (by decide)) (by decide) (by decide) (whI 3) (zmi 3 (by decide)) 30
 have hE:=qfx;have hL:=qfw;have vE:=fun X h=>qe4 qb5 (zmi 3 (by decide)) (p:=30) (X:=X) h
 have vL:=fun L h=>qeg (a:=awA) (b:= [whI 0,whI (-2)]) (x:= [whI 1,whI 5]) (t:=whI 3) (p:=30) (L:=L) h
 have vL2:=fun L h=>qef (a:=awA) (b:= [whI 0,whI (-2)]) (x:= [whI 1,whI 5]) (fun y hy=>by
  simp only[List.mem_cons,List.not_mem_nil,or_false]at hy;rcases hy with rfl|rfl<;>exact zmi _ (by decide)) (t:=whI 3) (p:=30) (L:=L) h
 generalize zqp awA (whI 3) 30=X at*;generalize zyn awA [whI 0,whI (-2)] [whI 1,whI 5] (whI 3) 30=L at*;unfold awE at hE;split at hE
 ·rename_i w y r2;unfold awL at hL;split at hL
  ·rename_i y1 y2;rw[Bool.and_eq_true]at hL;obtain⟨ya,yin⟩:=qbz hE;obtain⟨y1a,y1in⟩:=qbz hL.1;obtain⟨y2a,y2in⟩:=qbz hL.2;obtain⟨n,_,vX⟩:=vE _ rfl;have vy:VI y:=vX.el [w,y] (by simp) y (by simp);obtain⟨_,kb⟩:=qbp (vL _ rfl) (vL2 _ rfl);have k1:=kb y1 (by simp);have k2:=kb y2 (by simp);have c37:=n37 vy 3 (by decide) yin;have c37a:=n37 (.inl k1) 7 (by decide) y1in;have c37b:=n37 (.inl k2) (-1) (by decide) y2in;have w0:=n24 0 (by decide);have w1:=n24 1 (by decide);have w3:=n24 3 (by decide);have w2:=n24 (-2) (by decide);have w5:=n24 5 (by decide);unfold awA at c14 c16;generalize whI 0=z0 at*;generalize whI 1=z1 at*;generalize whI 3=z3 at*;generalize whI (-2)=z2 at*;generalize whI 5=z5 at*;obtain⟨yl,yh,ya'⟩:=y;obtain⟨y1l,y1h,y1a'⟩:=y1;have ya:ya'=false:=ya;have y1a:y1a'=false:=y1a;subst ya;subst y1a;refine fnT hTM hmx Tryz.func8 rfl rfl (ex:= []) ?_;conv=>whnf
   refine gZn w0 ?_;conv=>whnf
   refine gZn w1 ?_;conv=>whnf
   refine gZn w0 ?_;conv=>whnf
   refine gZn w0 ?_;conv=>whnf
   refine gZn w3 ?_;conv=>whnf
   refine gZc c14 ?_;conv=>whnf
   refine gZn w0 ?_;conv=>whnf
   refine gZn w2 ?_;conv=>whnf
   refine gZn w1 ?_;conv=>whnf
   refine gZn w5 ?_;conv=>whnf
   refine gZn w3 ?_;conv=>whnf
   refine gZc c16 ?_;conv=>whnf
   refine gx0 ?_;conv=>whnf
   refine gx1 ?_;conv=>whnf
   refine gZn c37 ?_;conv=>whnf
   refine gx0 ?_;conv=>whnf
   refine gx1 ?_;conv=>whnf
   refine gx0 ?_;conv=>whnf
   refine gZn c37a ?_;conv=>whnf
   refine gx1 ?_;conv=>whnf
   refine gZn c37b ?_;conv=>whnf
   refine gx0 ?_;conv=>whnf
   exact⟨lr rfl,xo⟩
  ·cases hL
 ·cases hE
end Go.Proofs.YtgehdbenidimlaaGreatDoor
