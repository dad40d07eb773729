/-
  Seat of round r6: the reference's conditions: valid matrices, cases, boxes; points.
-/
import Derived.Test.YtgehdbenidimlaaGreatDoorQNe
import Derived.Test.YtgehdbenidimlaaGreatDoorQRb
import Derived.Test.YtgehdbenidimlaaGreatDoorQNf
set_option linter.unusedVariables false
set_option linter.unusedSimpArgs false
namespace Go.Proofs.YtgehdbenidimlaaGreatDoor
open Go Go.Sx
set_option maxRecDepth 100000
set_option maxHeartbeats 8000000
set_option linter.unusedVariables false
theorem n13 (m:Mx) (hm:RX m):Fn 13 [] [.sl .vs m] (.bool (vmB m)) []:=by
 have hlen:=hm.len
 refine fnT hTM hmx Tryz.func13 rfl rfl (ex:= []) ?_
 conv=>whnf
 refine brI (fun h1=>?_) (fun h1=>?_)
 ·have h1:=of_decide_eq_true h1
  conv=>whnf
  exact⟨ab0 (zcz m (by omega)).symm,lh0⟩
 have h1:=of_decide_eq_false h1
 conv=>whnf
 refine brI (fun h2=>?_) (fun h2=>?_)
 ·have h2:=of_decide_eq_true h2
  conv=>whnf
  exact⟨ab0 (zcz m (by omega)).symm,lh0⟩
 have h2:=of_decide_eq_false h2
 obtain⟨r0,hr0⟩: ∃r,m[0]? =some r:=⟨_,List.getElem?_eq_getElem (by omega)⟩
 have e:=zqd hr0
 have hrl0:=hm.rl r0 (List.mem_of_getElem? hr0)
 have hg0: ∀(x:List Iv),m[(0:Int).toNat]? =some x→r0=x:=fun x hx=>by
  have hx:m[0]? =some x:=hx
  rw[hr0]at hx;exact Option.some.inj hx
 conv=>whnf
 refine⟨⟨by omega,by omega⟩,fun(x:List Iv) hx=>?_⟩
 obtain rfl:=hg0 x hx
 conv=>whnf
 refine brI (fun h3=>?_) (fun h3=>?_)
 ·have h3:=of_decide_eq_true h3
  conv=>whnf
  exact⟨ab0 (zcz m (by omega)).symm,lh0⟩
 have h3:=of_decide_eq_false h3
 conv=>whnf
 refine⟨⟨by omega,by omega⟩,fun(x:List Iv) hx=>?_⟩
 obtain rfl:=hg0 x hx
 conv=>whnf
 refine brI (fun h4=>?_) (fun h4=>?_)
 ·have h4:=of_decide_eq_true h4
  conv=>whnf
  exact⟨ab0 (zcz m (by omega)).symm,lh0⟩
 have h4:=of_decide_eq_false h4
 rw[ztt m (by omega) (by omega)]
 conv=>whnf
 refine⟨Nat,fun i=>i≤m.length∧m.any (rwB m)=(m.drop i).any (rwB m),fun i=> [(3,.int .i64 i)],fun i=> [],fun i=>m.length-i,0,⟨Nat.zero_le _,rfl⟩,?_,fun i hi=>?_⟩
 ·((conv=>whnf);refine And.intro ?_ ?_;repeat' first|refine lc ?_ ?_|exact la0|exact lr rfl|exact ln0|refine lh1 ?_ ?_|exact lh0|exact bf0|exact bd0|refine bc0 ?_|exact bm0 rfl|exact bb0 rfl|exact bg0 rfl|exact li0 rfl|refine lg0 ?_|refine lt0 ?_|fail)
 obtain⟨hi,he⟩:=hi
 (refine⟨by kernel_rfl,?_⟩;(conv=>whnf))
 refine brI (fun c=>?_) (fun c=>?_)
 ·have c:i<m.length:=by have:=of_decide_eq_true c;omega
  obtain⟨row,hr⟩: ∃r,m[i]? =some r:=⟨_,List.getElem?_eq_getElem c⟩
  have hrm:=List.mem_of_getElem? hr
  have hrl:=hm.rl row hrm
  have hgi: ∀(x:List Iv),m[((i:Nat):Int).toNat]? =some x→row=x:=fun x hx=>by
   have hx:m[i]? =some x:=by simpa using hx
   rw[hr]at hx;exact Option.some.inj hx
  rw[zq hr,List.any_cons]at he
  conv=>whnf
  refine⟨⟨by omega,by omega⟩,fun(x:List Iv) hx=>?_⟩
  obtain rfl:=hgi x hx
  conv=>whnf
  refine⟨⟨by omega,by omega⟩,fun(x:List Iv) hx=>?_⟩
  obtain rfl:=hg0 x hx
  (refine⟨by kernel_rfl,by kernel_rfl,?_⟩;(conv=>whnf))
  refine brI (fun c2=>?_) (fun c2=>?_)
  ·have c2:row.length≠r0.length:=by
    have c2:((row.length:Int) != (r0.length:Int))=true:=c2
    simp at c2;omega
   have hb:rwB m row=true:=by unfold rwB;rw[e];simp[c2]
   conv=>whnf
   exact⟨ab0 (by rw[he,hb];rfl),lh0⟩
  have c2:row.length=r0.length:=by
   have c2:((row.length:Int) != (r0.length:Int))=false:=c2
   simp at c2;omega
  have hb:rwB m row=row.any fun x=> !viB x:=by unfold rwB;rw[e];simp[c2]
  rw[hb]at he
  conv=>whnf
  refine⟨Nat,fun j=>j≤row.length∧(row.any fun x=> !viB x)=((row.drop j).any fun x=> !viB x),fun j=> [(4,.int .i64 j)],fun j=> [],fun j=>row.length-j,0,⟨Nat.zero_le _,rfl⟩,?_,fun j hj=>?_⟩
  ·((conv=>whnf);refine And.intro ?_ ?_;repeat' first|refine lc ?_ ?_|exact la0|exact lr rfl|exact ln0|refine lh1 ?_ ?_|exact lh0|exact bf0|exact bd0|refine bc0 ?_|exact bm0 rfl|exact bb0 rfl|exact bg0 rfl|exact li0 rfl|refine lg0 ?_|refine lt0 ?_|fail)
  obtain⟨hj,hje⟩:=hj
  (refine⟨by kernel_rfl,?_⟩;(conv=>whnf))
  refine⟨⟨by omega,by omega⟩,fun(x:List Iv) hx=>?_⟩
  obtain rfl:=hgi x hx
  conv=>whnf
  refine brI (fun c3=>?_) (fun c3=>?_)
  ·have c3:j<row.length:=by have:=of_decide_eq_true c3;omega
   conv=>whnf
   refine⟨⟨by omega,by omega⟩,fun(x:List Iv) hx=>?_⟩
   obtain rfl:=hgi x hx
   conv=>whnf
   refine⟨⟨by omega,by omega⟩,fun(y:Iv) hy=>?_⟩
   have hy:row[j]? =some y:=by simpa using hy
   have h40:=r108 y (hm.el row hrm y (List.mem_of_getElem? hy))
   rw[zq hy,List.any_cons]at hje
   conv=>whnf
   cases hv:viB y with
   |false=>
    rw[hv]at h40
    refine⟨[],_,h40,?_⟩
    conv=>whnf
    exact⟨ab0 (by rw[he,hje,hv];simp),lh0⟩
   |true=>
    rw[hv]at h40
    refine⟨[],_,h40,?_⟩
    conv=>whnf
    refine⟨j+1,⟨c3,by rw[hje,hv];rfl⟩,by show row.length-(j+1)<row.length-j;omega,?_⟩
    ((conv=>whnf);refine And.intro ?_ ?_;repeat' first|refine lc ?_ ?_|exact la0|exact lr rfl|exact ln0|refine lh1 ?_ ?_|exact lh0|exact bf0|exact bd0|refine bc0 ?_|exact bm0 rfl|exact bb0 rfl|exact bg0 rfl|exact li0 rfl|refine lg0 ?_|refine lt0 ?_|fail)
    exact ai0 (by rw[wI (by omega)];omega)
  ·have c3:j=row.length:=by
    have hj:j≤row.length:=hj
    have:=of_decide_eq_false c3;omega
   have hje:(row.any fun x=> !viB x)=false:=by rw[hje,c3,List.drop_length];rfl
   conv=>whnf
   refine⟨i+1,⟨c,by rw[he,hje];rfl⟩,by show m.length-(i+1)<m.length-i;omega,?_⟩
   ((conv=>whnf);refine And.intro ?_ ?_;repeat' first|refine lc ?_ ?_|exact la0|exact lr rfl|exact ln0|refine lh1 ?_ ?_|exact lh0|exact bf0|exact bd0|refine bc0 ?_|exact bm0 rfl|exact bb0 rfl|exact bg0 rfl|exact li0 rfl|refine lg0 ?_|refine lt0 ?_|fail)
   exact ai0 (by rw[wI (by omega)];omega)
 ·have c:=of_decide_eq_false c
  have he:m.any (rwB m)=false:=by rw[he,List.drop_of_length_le (by omega)];rfl
  conv=>whnf
  exact⟨ab0 (by rw[he];rfl),lh0⟩
theorem n17 (l:List Iv) (hl: ∀x∈l,RI x) (hlen:l.length<1000000):Fn 17 [] [.sl .iv l] (.bool (bvB l)) []:=by
 have hno: ¬(1≤l.length∧l.length≤8)→bvB l=false:=fun h=>by unfold bvB;rw[decide_eq_false h];rfl
 refine fnT hTM hmx Tryz.func17 rfl rfl (ex:= []) ?_
 conv=>whnf
 refine brI (fun h1=>?_) (fun h1=>?_)
 ·have h1:=of_decide_eq_true h1
  conv=>whnf
  exact⟨ab0 (hno (by omega)).symm,lh0⟩
 have h1:=of_decide_eq_false h1
 conv=>whnf
 refine brI (fun h2=>?_) (fun h2=>?_)
 ·have h2:=of_decide_eq_true h2
  conv=>whnf
  exact⟨ab0 (hno (by omega)).symm,lh0⟩
 have h2:=of_decide_eq_false h2
 have e:bvB l= !l.any fun x=>x.all|| !viB x:=by unfold bvB;rw[decide_eq_true (show 1≤l.length∧l.length≤8 by omega)];rfl
 rw[e]
 conv=>whnf
 refine⟨Nat,fun j=>j≤l.length∧(l.any fun x=>x.all|| !viB x)=((l.drop j).any fun x=>x.all|| !viB x),fun j=> [(3,.int .i64 j)],fun j=> [],fun j=>l.length-j,0,⟨Nat.zero_le _,rfl⟩,?_,fun j hj=>?_⟩
 ·((conv=>whnf);refine And.intro ?_ ?_;repeat' first|refine lc ?_ ?_|exact la0|exact lr rfl|exact ln0|refine lh1 ?_ ?_|exact lh0|exact bf0|exact bd0|refine bc0 ?_|exact bm0 rfl|exact bb0 rfl|exact bg0 rfl|exact li0 rfl|refine lg0 ?_|refine lt0 ?_|fail)
 obtain⟨hj,hje⟩:=hj
 (refine⟨by kernel_rfl,?_⟩;(conv=>whnf))
 refine brI (fun c=>?_) (fun c=>?_)
 ·have c:j<l.length:=by have:=of_decide_eq_true c;omega
  conv=>whnf
  refine⟨⟨by omega,by omega⟩,fun(y:Iv) hy=>?_⟩
  have hy:l[j]? =some y:=by simpa using hy
  have hgi: ∀(x:Iv),l[((j:Nat):Int).toNat]? =some x→y=x:=fun x hx=>by
   have hx:l[j]? =some x:=by simpa using hx
   rw[hy]at hx;exact Option.some.inj hx
  have h40:=r108 y (hl y (List.mem_of_getElem? hy))
  rw[zq hy,List.any_cons]at hje
  obtain⟨lo,hi,al⟩:=y
  cases al with
  |true=>
   conv=>whnf
   exact⟨ab0 (by rw[hje];simp),lh0⟩
  |false=>
   conv=>whnf
   refine⟨⟨by omega,by omega⟩,fun(z:Iv) hz=>?_⟩
   obtain rfl:=hgi z hz
   conv=>whnf
   cases hv:viB ⟨lo,hi,false⟩with
   |false=>
    rw[hv]at h40
    refine⟨[],_,h40,?_⟩
    conv=>whnf
    exact⟨ab0 (by rw[hje,hv];simp),lh0⟩
   |true=>
    rw[hv]at h40
    refine⟨[],_,h40,?_⟩
    conv=>whnf
    refine⟨j+1,⟨c,by rw[hje,hv];rfl⟩,by show l.length-(j+1)<l.length-j;omega,?_⟩
    ((conv=>whnf);refine And.intro ?_ ?_;repeat' first|refine lc ?_ ?_|exact la0|exact lr rfl|exact ln0|refine lh1 ?_ ?_|exact lh0|exact bf0|exact bd0|refine bc0 ?_|exact bm0 rfl|exact bb0 rfl|exact bg0 rfl|exact li0 rfl|refine lg0 ?_|refine lt0 ?_|fail)
    exact ai0 (by rw[wI (by omega)];omega)
 ·have c:=of_decide_eq_false c
  have hje:(l.any fun x=>x.all|| !viB x)=false:=by rw[hje,List.drop_of_length_le (by omega)];rfl
  conv=>whnf
  exact⟨ab0 (by rw[hje];rfl),lh0⟩
end Go.Proofs.YtgehdbenidimlaaGreatDoor

namespace Go.Proofs.YtgehdbenidimlaaGreatDoor
open Go Go.Sx
set_option maxRecDepth 100000
set_option maxHeartbeats 8000000
set_option linter.unusedVariables false
theorem n41 (p:Int):Fn 41 [] [.int .i64 p] (.bool (pcB p)) []:=by
 have ep:pcB p=(decide (8≤p)&&decide (p≤512)):=by unfold pcB;rw[Bool.eq_iff_iff]
 rw[ep]
 refine fnT hTM hmx Tryz.func41 rfl rfl (ex:= []) ?_
 conv=>whnf
 refine brI (fun h1=>?_) (fun h1=>?_)
 ·have h1:=of_decide_eq_true h1
  conv=>whnf
  exact⟨ab0 (by rw[decide_eq_true (show 8≤p by omega)];rfl),lh0⟩
 ·have h1:=of_decide_eq_false h1
  conv=>whnf
  exact⟨ab0 (by rw[decide_eq_false (show ¬8≤p by omega)];rfl),lh0⟩
theorem zxq {m:Mx} (hm:RX m) {b:Bool} (h:vmB m=b):Fn 13 [] [.sl .vs m] (.bool b) []:=by rw[←h];exact n13 m hm
theorem n12 (a:Mx) (ha:RX a) (t:Iv) (ht:RI t) (p:Int):Fn 12 [] [.sl .vs a,.agg (ivC t),.int .i64 p] (.bool (zjr a t p)) []:=by
 rw[zq4 a ht p]
 have h83:=r108 t ht
 cases h1:vmB a with
 |false=>
  refine fnT hTM hmx Tryz.func12 rfl rfl (ex:= []) ?_
  conv=>whnf
  refine⟨[],_,zxq ha h1,?_⟩
  conv=>whnf
  exact⟨lr rfl,lh0⟩
 |true=>
 obtain⟨n,k,va⟩:=(zcy ha.el).1 h1
 have n1:=va.n1
 have k1:=va.k1
 have hal:=va.len
 obtain⟨r0,hr0⟩: ∃r,a[0]? =some r:=⟨_,List.getElem?_eq_getElem (by omega)⟩
 have hr0l:=va.row r0 (List.mem_of_getElem? hr0)
 have hhd:=va.hd
 rw[hhd]
 obtain⟨lo,hi,al⟩:=t
 have hgt: ∀(x:List Iv),a[(0:Int).toNat]? =some x→r0=x:=fun x hx=>by
  have hx:a[0]? =some x:=hx
  rw[hr0]at hx;exact Option.some.inj hx
 by_cases h2:a.length=k
 ·have e2:((r0.length:Int) != (a.length:Int))=false:=by simp;omega
  rw[decide_eq_true h2]
  cases h3:viB ⟨lo,hi,al⟩with
  |false=>
   rw[h3]at h83
   refine fnT hTM hmx Tryz.func12 rfl rfl (ex:= []) ?_
   conv=>whnf
   refine⟨[],_,zxq ha h1,?_⟩
   conv=>whnf
   refine⟨⟨by omega,by omega⟩,fun(x:List Iv) hx=>?_⟩
   obtain rfl:=hgt x hx
   conv=>whnf
   rw[e2]
   conv=>whnf
   refine⟨[],_,h83,?_⟩
   conv=>whnf
   exact⟨lr rfl,lh0⟩
  |true=>
  rw[h3]at h83
  cases al with
  |true=>
   refine fnT hTM hmx Tryz.func12 rfl rfl (ex:= []) ?_
   conv=>whnf
   refine⟨[],_,zxq ha h1,?_⟩
   conv=>whnf
   refine⟨⟨by omega,by omega⟩,fun(x:List Iv) hx=>?_⟩
   obtain rfl:=hgt x hx
   conv=>whnf
   rw[e2]
   conv=>whnf
   refine⟨[],_,h83,?_⟩
   conv=>whnf
   exact⟨lr rfl,lh0⟩
  |false=>
   refine fnT hTM hmx Tryz.func12 rfl rfl (ex:= []) ?_
   conv=>whnf
   refine⟨[],_,zxq ha h1,?_⟩
   conv=>whnf
   refine⟨⟨by omega,by omega⟩,fun(x:List Iv) hx=>?_⟩
   obtain rfl:=hgt x hx
   conv=>whnf
   rw[e2]
   conv=>whnf
   refine⟨[],_,h83,?_⟩
   conv=>whnf
   have h60:=n41 p
   have ep:pcB p=(decide (8≤p)&&decide (p≤512)):=by unfold pcB;rw[Bool.eq_iff_iff]
   rw[←Bool.and_assoc (decide (8≤p)),←ep]
   cases h4:pcB p with
   |false=>
    rw[h4]at h60
    refine⟨[],_,h60,?_⟩
    conv=>whnf
    exact⟨lr rfl,lh0⟩
   |true=>
   rw[h4]at h60
   refine⟨[],_,h60,?_⟩
   conv=>whnf
   refine⟨Nat,fun i=>i≤a.length∧(a.any fun r=>r.any fun x=>x.all)=((a.drop i).any fun r=>r.any fun x=>x.all),fun i=> [(7,.int .i64 i)],fun i=> [],fun i=>a.length-i,0,⟨Nat.zero_le _,rfl⟩,?_,fun i hi=>?_⟩
   ·((conv=>whnf);refine And.intro ?_ ?_;repeat' first|refine lc ?_ ?_|exact la0|exact lr rfl|exact ln0|refine lh1 ?_ ?_|exact lh0|exact bf0|exact bd0|refine bc0 ?_|exact bm0 rfl|exact bb0 rfl|exact bg0 rfl|exact li0 rfl|refine lg0 ?_|refine lt0 ?_|fail)
   obtain⟨hi,he⟩:=hi
   (refine⟨by kernel_rfl,?_⟩;(conv=>whnf))
   refine brI (fun c=>?_) (fun c=>?_)
   ·have c:i<a.length:=by have:=of_decide_eq_true c;omega
    obtain⟨row,hr⟩: ∃r,a[i]? =some r:=⟨_,List.getElem?_eq_getElem c⟩
    have hrl:=va.row row (List.mem_of_getElem? hr)
    rw[zq hr,List.any_cons]at he
    conv=>whnf
    refine⟨Nat,fun j=>j≤row.length∧(row.any fun x=>x.all)=((row.drop j).any fun x=>x.all),fun j=> [(8,.int .i64 j)],fun j=> [],fun j=>row.length-j,0,⟨Nat.zero_le _,rfl⟩,?_,fun j hj=>?_⟩
    ·((conv=>whnf);refine And.intro ?_ ?_;repeat' first|refine lc ?_ ?_|exact la0|exact lr rfl|exact ln0|refine lh1 ?_ ?_|exact lh0|exact bf0|exact bd0|refine bc0 ?_|exact bm0 rfl|exact bb0 rfl|exact bg0 rfl|exact li0 rfl|refine lg0 ?_|refine lt0 ?_|fail)
    obtain⟨hj,hje⟩:=hj
    (refine⟨by kernel_rfl,?_⟩;(conv=>whnf))
    refine brI (fun c2=>?_) (fun c2=>?_)
    ·have c2:j<row.length:=by have:=of_decide_eq_true c2;omega
     conv=>whnf
     refine⟨⟨by omega,by omega⟩,fun(x:List Iv) hx=>?_⟩
     obtain rfl:row=x:=by
      have hx:a[i]? =some x:=by simpa using hx
      rw[hr]at hx;exact Option.some.inj hx
     conv=>whnf
     refine⟨⟨by omega,by omega⟩,fun(y:Iv) hy=>?_⟩
     have hy:row[j]? =some y:=by simpa using hy
     rw[zq hy,List.any_cons]at hje
     conv=>whnf
     refine brI (fun c3=>?_) (fun c3=>?_)
     ·conv=>whnf
      exact⟨ab0 (by rw[he,hje,c3];simp),lh0⟩
     ·conv=>whnf
      refine⟨j+1,⟨c2,by rw[hje,c3];rfl⟩,by show row.length-(j+1)<row.length-j;omega,?_⟩
      ((conv=>whnf);refine And.intro ?_ ?_;repeat' first|refine lc ?_ ?_|exact la0|exact lr rfl|exact ln0|refine lh1 ?_ ?_|exact lh0|exact bf0|exact bd0|refine bc0 ?_|exact bm0 rfl|exact bb0 rfl|exact bg0 rfl|exact li0 rfl|refine lg0 ?_|refine lt0 ?_|fail)
      exact ai0 (by rw[wI (by omega)];omega)
    ·have c2:j=row.length:=by
      have hj:j≤row.length:=hj
      have:=of_decide_eq_false c2;omega
     have hje:(row.any fun x=>x.all)=false:=by rw[hje,c2,List.drop_length];rfl
     conv=>whnf
     refine⟨i+1,⟨c,by rw[he,hje];rfl⟩,by show a.length-(i+1)<a.length-i;omega,?_⟩
     ((conv=>whnf);refine And.intro ?_ ?_;repeat' first|refine lc ?_ ?_|exact la0|exact lr rfl|exact ln0|refine lh1 ?_ ?_|exact lh0|exact bf0|exact bd0|refine bc0 ?_|exact bm0 rfl|exact bb0 rfl|exact bg0 rfl|exact li0 rfl|refine lg0 ?_|refine lt0 ?_|fail)
     exact ai0 (by rw[wI (by omega)];omega)
   ·have c:=of_decide_eq_false c
    have he:(a.any fun r=>r.any fun x=>x.all)=false:=by rw[he,List.drop_of_length_le (by omega)];rfl
    conv=>whnf
    exact⟨ab0 (by rw[he];rfl),lh0⟩
 ·have e2:((r0.length:Int) != (a.length:Int))=true:=by simp;omega
  rw[decide_eq_false h2]
  refine fnT hTM hmx Tryz.func12 rfl rfl (ex:= []) ?_
  conv=>whnf
  refine⟨[],_,zxq ha h1,?_⟩
  conv=>whnf
  refine⟨⟨by omega,by omega⟩,fun(x:List Iv) hx=>?_⟩
  obtain rfl:=hgt x hx
  conv=>whnf
  rw[e2]
  conv=>whnf
  exact⟨lr rfl,lh0⟩
theorem n31 (d:Dy):Fn 31 [] [.agg (dyC d)] (.agg (ivC (ke d))) []:=by
 refine fnT hTM hmx Tryz.func31 rfl rfl (ex:= []) ?_
 conv=>whnf
 exact⟨lr rfl,lh0⟩
theorem n24 (n:Int) (h: -4611686018427387904≤n∧n≤4611686018427387904):Fn 24 [] [.int .i64 n] (.agg (ivC (whI n))) []:=by
 have h1:=r262 n h
 have h2:=n31 (zd6 n)
 show Fn 24 [] [.int .i64 n] (.agg (ivC (ke (zd6 n)))) []
 generalize zd6 n=d at*
 refine fnT hTM hmx Tryz.func24 rfl rfl (ex:= []) ?_
 conv=>whnf
 refine⟨[],_,h1,?_⟩
 conv=>whnf
 refine⟨[],_,h2,?_⟩
 conv=>whnf
 exact⟨lr rfl,lh0⟩
theorem n80 {x:Iv} (hx:VI x) {d:Dy} (hd:VD d) (h:inI (dv d) x):Fn 80 [] [.agg (ivC x),.agg (dyC d)] (.bool true) []:=by
 have h40:=r108 x hx.ri
 rw[(yu hx.ri).2 hx]at h40
 have h82:=r174 d hd.lb (by have:=hd.len;omega)
 rw[(yf hd.lb).2 hd]at h82
 obtain⟨lo,hi,al⟩:=x
 cases al with
 |true=>
  refine fnT hTM hmx Tryz.func80 rfl rfl (ex:= []) ?_
  conv=>whnf
  refine⟨[],_,h40,?_⟩
  conv=>whnf
  refine⟨[],_,h82,?_⟩
  conv=>whnf
  exact⟨lr rfl,lh0⟩
 |false=>
  have k:=(zh6 hx).1 rfl
  rcases h with c|⟨c1,c2⟩
  ·cases c
  have e1:=r175 k.lo hd
  have e2:=r175 hd k.hi
  have c1:=kw.2 c1
  have c2:=kw.2 c2
  have c1:qi lo d≤0:=c1
  have c2:qi d hi≤0:=c2
  refine fnT hTM hmx Tryz.func80 rfl rfl (ex:= []) ?_
  conv=>whnf
  refine⟨[],_,h40,?_⟩
  conv=>whnf
  refine⟨[],_,h82,?_⟩
  conv=>whnf
  refine⟨[],_,e1,?_⟩
  conv=>whnf
  refine brI (fun c=>?_) (fun c=>absurd c1 (of_decide_eq_false c))
  conv=>whnf
  refine⟨[],_,e2,?_⟩
  conv=>whnf
  exact⟨ab0 (by rw[decide_eq_true c2]),lh0⟩
theorem n37 {x:Iv} (hx:VI x) (n:Int) (hn: -4611686018427387904≤n∧n≤4611686018427387904) (h:inI (n:Rat) x):Fn 37 [] [.agg (ivC x),.int .i64 n] (.bool true) []:=by
 have h1:=r262 n hn
 have h2:=n80 hx (zju n hn) (by rw[zae];exact h)
 generalize zd6 n=d at*
 refine fnT hTM hmx Tryz.func37 rfl rfl (ex:= []) ?_
 conv=>whnf
 refine⟨[],_,h1,?_⟩
 conv=>whnf
 refine⟨[],_,h2,?_⟩
 (refine⟨by kernel_rfl,by kernel_rfl,?_⟩;(conv=>whnf))
 exact⟨lr rfl,lh0⟩
end Go.Proofs.YtgehdbenidimlaaGreatDoor

namespace Go.Proofs.YtgehdbenidimlaaGreatDoor
open Go Go.Sx
set_option maxRecDepth 100000
set_option maxHeartbeats 8000000
set_option linter.unusedVariables false
theorem zjz (n:Int) (h: -4611686018427387904≤n∧n≤4611686018427387904):RI (whI n):=(zf3 h).ri
theorem zxf:RX awA:=by
 refine⟨fun r hr x hx=>?_,fun r hr=>?_,by decide⟩
 ·simp only[awA,List.mem_cons,List.not_mem_nil,or_false]at hr
  rcases hr with rfl|rfl<;>simp only[List.mem_cons,List.not_mem_nil,or_false]at hx<;>rcases hx with rfl|rfl<;>exact zjz _ (by decide)
 ·simp only[awA,List.mem_cons,List.not_mem_nil,or_false]at hr
  rcases hr with rfl|rfl<;>decide
theorem zzp {a:Mx} (ha:RX a) {t:Iv} (ht:RI t) {p:Int} {X:Mx} (h:zk1 a t p=(X,0)): ∃n,VM n n a∧VM n n X:=by
 unfold zk1 at h
 split at h
 ·rename_i c
  obtain⟨n,va,kt,hp⟩:=zjq ha ht c
  split at h
  ·rename_i y hy
   cases h
   exact⟨n,va,(zq5 va kt hp hy).1⟩
  ·cases h
 ·cases h
theorem zza {a:Mx} {b x:List Iv} (hb: ∀y∈b,RI y) {t:Iv} {p:Int} {L:List Iv} (h:zpz a b x t p=(L,0)):bvB L=true:=by
 rw[zet]at h
 split at h
 ·cases h
 ·cases hbot:zc5 a t p with
  |none=>rw[hbot]at h;cases h
  |some y=>
   rw[hbot]at h
   simp only[zxw]at h
   split at h
   ·rename_i c;cases h;exact c
   ·cases h
theorem zxb {y:Iv} {n:Int} (h:awH y n=true):y.all=false∧inI (n:Rat) y:=by
 unfold awH at h
 simp only[Bool.and_eq_true,Bool.not_eq_true',decide_eq_true_eq]at h
 obtain⟨⟨h1,h2⟩,h3⟩:=h
 have h2:=kw.1 h2
 have h3:=kw.1 h3
 rw[zae]at h2 h3
 exact⟨h1,.inr ⟨h2,h3⟩⟩
theorem zx2 {p:Int} (u v:List Iv): ∀z∈List.zipWith (fun u v=>zas u v p) u v,RI z:=fun z hz=>by
 obtain⟨i,hi⟩:=List.getElem?_of_mem hz
 rw[List.getElem?_zipWith]at hi
 split at hi
 ·cases hi;exact zm9 _ _ _
 ·cases hi
theorem zzb {a:Mx} {b x:List Iv} {t:Iv} {p:Int} {L:List Iv} (h:zpz a b x t p=(L,0)): ∀z∈L,RI z:=by
 rw[zet]at h
 split at h
 ·cases h
 ·cases hbot:zc5 a t p with
  |none=>rw[hbot]at h;cases h
  |some y=>
   rw[hbot]at h
   simp only[zxw]at h
   split at h
   ·cases h;exact zx2 _ _
   ·cases h
theorem gx0 {α:Type} {x:α} {l:List α} {P:α→Prop} (h:P x):((0:Int)≤0∧(0:Int)<((x::l).length :Int))∧ ∀y:α,(x::l)[(0:Int).toNat]? =some y→P y:=
 ⟨⟨by omega,by simp only[List.length_cons];omega⟩,fun y hy=>by cases hy;exact h⟩
theorem gx1 {α:Type} {x z:α} {l:List α} {P:α→Prop} (h:P z):((0:Int)≤1∧(1:Int)<((x::z::l).length :Int))∧ ∀y:α,(x::z::l)[(1:Int).toNat]? =some y→P y:=
 ⟨⟨by omega,by simp only[List.length_cons];omega⟩,fun y hy=>by cases hy;exact h⟩
theorem n8:Fn 8 G0 [] (.bool true) G0:=by
 have c14:=n14 awA zxf (whI 3) (zjz 3 (by decide)) 30
 have c16:=n16 awA zxf [whI 0,whI (-2)] [whI 1,whI 5] (fun y hy=>by
  simp only[List.mem_cons,List.not_mem_nil,or_false]at hy
  rcases hy with rfl|rfl<;>exact zjz _ (by decide)) (fun y hy=>by
  simp only[List.mem_cons,List.not_mem_nil,or_false]at hy
  rcases hy with rfl|rfl<;>exact zjz _ (by decide)) (by decide) (by decide) (whI 3) (zjz 3 (by decide)) 30
 have hE:=qac
 have hL:=qab
 have vE:=fun X h=>zzp zxf (zjz 3 (by decide)) (p:=30) (X:=X) h
 have vL:=fun L h=>zzb (a:=awA) (b:= [whI 0,whI (-2)]) (x:= [whI 1,whI 5]) (t:=whI 3) (p:=30) (L:=L) h
 have vL2:=fun L h=>zza (a:=awA) (b:= [whI 0,whI (-2)]) (x:= [whI 1,whI 5]) (fun y hy=>by
  simp only[List.mem_cons,List.not_mem_nil,or_false]at hy
  rcases hy with rfl|rfl<;>exact zjz _ (by decide)) (t:=whI 3) (p:=30) (L:=L) h
 generalize zk1 awA (whI 3) 30=X at*
 generalize zpz awA [whI 0,whI (-2)] [whI 1,whI 5] (whI 3) 30=L at*
 unfold awE at hE
 split at hE
 ·rename_i w y r2
  unfold awL at hL
  split at hL
  ·rename_i y1 y2
   rw[Bool.and_eq_true]at hL
   obtain⟨ya,yin⟩:=zxb hE
   obtain⟨y1a,y1in⟩:=zxb hL.1
   obtain⟨y2a,y2in⟩:=zxb hL.2
   obtain⟨n,_,vX⟩:=vE _ rfl
   have vy:VI y:=vX.el [w,y] (by simp) y (by simp)
   obtain⟨_,kb⟩:=zw1 (vL _ rfl) (vL2 _ rfl)
   have k1:=kb y1 (by simp)
   have k2:=kb y2 (by simp)
   have c37:=n37 vy 3 (by decide) yin
   have c37a:=n37 (.inl k1) 7 (by decide) y1in
   have c37b:=n37 (.inl k2) (-1) (by decide) y2in
   have w0:=n24 0 (by decide)
   have w1:=n24 1 (by decide)
   have w3:=n24 3 (by decide)
   have w2:=n24 (-2) (by decide)
   have w5:=n24 5 (by decide)
   unfold awA at c14 c16
   generalize whI 0=z0 at*
   generalize whI 1=z1 at*
   generalize whI 3=z3 at*
   generalize whI (-2)=z2 at*
   generalize whI 5=z5 at*
   obtain⟨yl,yh,ya'⟩:=y
   obtain⟨y1l,y1h,y1a'⟩:=y1
   have ya:ya'=false:=ya
   have y1a:y1a'=false:=y1a
   subst ya;subst y1a
   refine fnT hTM hmx Tryz.func8 rfl rfl (ex:= []) ?_
   conv=>whnf
   refine⟨[],_,w0,?_⟩
   conv=>whnf
   refine⟨[],_,w1,?_⟩
   conv=>whnf
   refine⟨[],_,w0,?_⟩
   conv=>whnf
   refine⟨[],_,w0,?_⟩
   conv=>whnf
   refine⟨[],_,w3,?_⟩
   conv=>whnf
   refine⟨[.gst JT],_,c14,?_⟩
   conv=>whnf
   refine⟨[],_,w0,?_⟩
   conv=>whnf
   refine⟨[],_,w2,?_⟩
   conv=>whnf
   refine⟨[],_,w1,?_⟩
   conv=>whnf
   refine⟨[],_,w5,?_⟩
   conv=>whnf
   refine⟨[],_,w3,?_⟩
   conv=>whnf
   refine⟨[.gst JT],_,c16,?_⟩
   conv=>whnf
   refine gx0 ?_
   conv=>whnf
   refine gx1 ?_
   conv=>whnf
   refine⟨[],_,c37,?_⟩
   conv=>whnf
   refine gx0 ?_
   conv=>whnf
   refine gx1 ?_
   conv=>whnf
   refine gx0 ?_
   conv=>whnf
   refine⟨[],_,c37a,?_⟩
   conv=>whnf
   refine gx1 ?_
   conv=>whnf
   refine⟨[],_,c37b,?_⟩
   conv=>whnf
   refine gx0 ?_
   conv=>whnf
   exact⟨lr rfl,wv⟩
  ·cases hL
 ·cases hE
end Go.Proofs.YtgehdbenidimlaaGreatDoor

namespace Go.Proofs.YtgehdbenidimlaaGreatDoor
open Go Go.Sx
set_option maxRecDepth 100000
set_option maxHeartbeats 8000000
set_option linter.unusedVariables false
theorem zs9 {a:Mx} {t:Iv} {p:Int} (h:zjr a t p=false):zk1 a t p=([],1)∧zpg a t p=([],1)∧ ∀b x,zpz a b x t p=([],1):=by
 refine⟨by unfold zk1;rw[if_neg (by rw[h];simp)],by unfold zpg;rw[if_neg (by rw[h];simp)],fun b x=>by rw[zet,if_pos (.inl h)]⟩
noncomputable def zw2:Code:=Tryz.f3.body.getD .skip
theorem n3t (a:Mx) (ha:RX a) (b x:List Iv) (hb: ∀y∈b,RI y) (hx: ∀y∈x,RI y) (t:Iv) (ht:RI t) (p:Int) (hal:a.length≤8) (hbl:b.length≤9) (hxl:x.length≤9):
 SemOK Tryz.prog TM Tryz.f3.results.toList [] (.bool true) G0 (zcb 3 zw2) ⟨[.sl .vs a,.sl .iv b,.sl .iv x,.any,.int .i64 p,.any,.any,.any,.ptr 8 0,.any,.bool false]++jt 199,[(8,.cells (ivC t)),(11,.free)]++G0⟩:=by
 have c12:=n12 a ha t ht p
 have c14:=n14 a ha t ht p
 have c15:=n15 a ha t ht p
 have c16:=n16 a ha b x hb hx (by omega) (by omega) t ht p
 have c17b:=n17 b hb (by omega)
 have c17x:=n17 x hx (by omega)
 cases h1:zjr a t p with
 |false=>
  obtain⟨e1,e2,e3⟩:=zs9 h1
  rw[h1]at c12
  rw[e1]at c14
  rw[e2]at c15
  rw[e3]at c16
  refine wb hTM hmx ?_
  conv=>whnf
  refine⟨[],_,c12,?_⟩
  conv=>whnf
  refine⟨[.gst JT],_,c14,?_⟩
  conv=>whnf
  refine⟨[.gst JT],_,c15,?_⟩
  conv=>whnf
  refine⟨[.gst JT],_,c16,?_⟩
  conv=>whnf
  refine⟨[],_,c12,?_⟩
  conv=>whnf
  exact⟨lr rfl,wv⟩
 |true=>
 obtain⟨n,va,kt,hp⟩:=zjq ha ht h1
 rw[h1]at c12
 have c13:=zxq ha va.ok
 have key: ∀(E P:Mx×Int) (L:List Iv×Int),zk1 a t p=E→zpg a t p=P→zpz a b x t p=L→((E.2=0∧P.2=0)∨(E=([],13)∧P=([],13)))→
  ((bvB b=true∧bvB x=true∧b.length=a.length∧x.length=a.length→(L.2=0∧L.1.length=a.length)∨L=([],13))∧(¬(bvB b=true∧bvB x=true∧b.length=a.length∧x.length=a.length)→L=([],1)))→
  SemOK Tryz.prog TM Tryz.f3.results.toList [] (.bool true) G0 (zcb 3 zw2) ⟨[.sl .vs a,.sl .iv b,.sl .iv x,.any,.int .i64 p,.any,.any,.any,.ptr 8 0,.any,.bool false]++jt 199,[(8,.cells (ivC t)),(11,.free)]++G0⟩:=by
  intro E P L hE hP hL hEP hLL
  rw[hE]at c14
  rw[hP]at c15
  rw[hL]at c16
  have pre: ∀K:Prop,K→K:=fun _ h=>h
  obtain⟨L1,L2⟩:=L
  obtain⟨E1,E2⟩:=E
  obtain⟨P1,P2⟩:=P
  rcases hEP with ⟨q1,q2⟩|⟨q1,q2⟩
  ·have q1:E2=0:=q1
   have q2:P2=0:=q2
   subst q1;subst q2
   refine wb hTM hmx ?_
   conv=>whnf
   refine⟨[],_,c12,?_⟩
   conv=>whnf
   refine brI (fun c=>?_) (fun c=>?_)
   ·conv=>whnf
    exact⟨lr rfl,wv⟩
   conv=>whnf
   refine⟨[],_,c13,?_⟩
   conv=>whnf
   refine⟨[.gst JT],_,c14,?_⟩
   conv=>whnf
   refine⟨[.gst JT],_,c15,?_⟩
   conv=>whnf
   refine⟨[.gst JT],_,c16,?_⟩
   conv=>whnf
   refine⟨[],_,c12,?_⟩
   conv=>whnf
   cases g1:bvB b with
   |false=>
    rw[g1]at c17b
    obtain⟨rfl,rfl⟩:=Prod.mk.inj (hLL.2 (by rw[g1];simp))
    refine⟨[],_,c17b,?_⟩
    conv=>whnf
    exact⟨lr rfl,wv⟩
   |true=>
   rw[g1]at c17b
   refine⟨[],_,c17b,?_⟩
   conv=>whnf
   cases g2:bvB x with
   |false=>
    rw[g2]at c17x
    obtain⟨rfl,rfl⟩:=Prod.mk.inj (hLL.2 (by rw[g2];simp))
    refine⟨[],_,c17x,?_⟩
    conv=>whnf
    exact⟨lr rfl,wv⟩
   |true=>
   rw[g2]at c17x
   refine⟨[],_,c17x,?_⟩
   conv=>whnf
   refine brI (fun c3=>?_) (fun c3=>?_)
   ·have c3:b.length≠a.length:=by
     have c3:((b.length:Int) != (a.length:Int))=true:=c3
     simp at c3;omega
    obtain⟨rfl,rfl⟩:=Prod.mk.inj (hLL.2 (fun c=>c3 c.2.2.1))
    conv=>whnf
    exact⟨lr rfl,wv⟩
   have c3:b.length=a.length:=by
    have c3:((b.length:Int) != (a.length:Int))=false:=c3
    simp at c3;omega
   conv=>whnf
   refine brI (fun c4=>?_) (fun c4=>?_)
   ·have c4:x.length≠a.length:=by
     have c4:((x.length:Int) != (a.length:Int))=true:=c4
     simp at c4;omega
    obtain⟨rfl,rfl⟩:=Prod.mk.inj (hLL.2 (fun c=>c4 c.2.2.2))
    conv=>whnf
    exact⟨lr rfl,wv⟩
   have c4:x.length=a.length:=by
    have c4:((x.length:Int) != (a.length:Int))=false:=c4
    simp at c4;omega
   rcases hLL.1 ⟨g1,g2,c3,c4⟩with ⟨r1,r2⟩|r1
   ·have r1:L2=0:=r1
    have r2:L1.length=a.length:=r2
    subst r1
    conv=>whnf
    refine brI (fun c=>?_) (fun c=>?_)
    ·conv=>whnf
     exact⟨lr rfl,wv⟩
    ·exact absurd (of_decide_eq_false c) (by omega)
   ·obtain⟨rfl,rfl⟩:=Prod.mk.inj r1
    conv=>whnf
    exact⟨lr rfl,wv⟩
  ·obtain⟨rfl,rfl⟩:=Prod.mk.inj q1
   obtain⟨rfl,rfl⟩:=Prod.mk.inj q2
   refine wb hTM hmx ?_
   conv=>whnf
   refine⟨[],_,c12,?_⟩
   conv=>whnf
   refine brI (fun c=>?_) (fun c=>?_)
   ·conv=>whnf
    exact⟨lr rfl,wv⟩
   conv=>whnf
   refine⟨[],_,c13,?_⟩
   conv=>whnf
   refine⟨[.gst JT],_,c14,?_⟩
   conv=>whnf
   refine⟨[.gst JT],_,c15,?_⟩
   conv=>whnf
   refine⟨[.gst JT],_,c16,?_⟩
   conv=>whnf
   refine⟨[],_,c12,?_⟩
   conv=>whnf
   cases g1:bvB b with
   |false=>
    rw[g1]at c17b
    obtain⟨rfl,rfl⟩:=Prod.mk.inj (hLL.2 (by rw[g1];simp))
    refine⟨[],_,c17b,?_⟩
    conv=>whnf
    exact⟨lr rfl,wv⟩
   |true=>
   rw[g1]at c17b
   refine⟨[],_,c17b,?_⟩
   conv=>whnf
   cases g2:bvB x with
   |false=>
    rw[g2]at c17x
    obtain⟨rfl,rfl⟩:=Prod.mk.inj (hLL.2 (by rw[g2];simp))
    refine⟨[],_,c17x,?_⟩
    conv=>whnf
    exact⟨lr rfl,wv⟩
   |true=>
   rw[g2]at c17x
   refine⟨[],_,c17x,?_⟩
   conv=>whnf
   refine brI (fun c3=>?_) (fun c3=>?_)
   ·have c3:b.length≠a.length:=by
     have c3:((b.length:Int) != (a.length:Int))=true:=c3
     simp at c3;omega
    obtain⟨rfl,rfl⟩:=Prod.mk.inj (hLL.2 (fun c=>c3 c.2.2.1))
    conv=>whnf
    exact⟨lr rfl,wv⟩
   have c3:b.length=a.length:=by
    have c3:((b.length:Int) != (a.length:Int))=false:=c3
    simp at c3;omega
   conv=>whnf
   refine brI (fun c4=>?_) (fun c4=>?_)
   ·have c4:x.length≠a.length:=by
     have c4:((x.length:Int) != (a.length:Int))=true:=c4
     simp at c4;omega
    obtain⟨rfl,rfl⟩:=Prod.mk.inj (hLL.2 (fun c=>c4 c.2.2.2))
    conv=>whnf
    exact⟨lr rfl,wv⟩
   have c4:x.length=a.length:=by
    have c4:((x.length:Int) != (a.length:Int))=false:=c4
    simp at c4;omega
   rcases hLL.1 ⟨g1,g2,c3,c4⟩with ⟨r1,r2⟩|r1
   ·have r1:L2=0:=r1
    have r2:L1.length=a.length:=r2
    subst r1
    conv=>whnf
    refine brI (fun c=>?_) (fun c=>?_)
    ·conv=>whnf
     exact⟨lr rfl,wv⟩
    ·exact absurd (of_decide_eq_false c) (by omega)
   ·obtain⟨rfl,rfl⟩:=Prod.mk.inj r1
    conv=>whnf
    exact⟨lr rfl,wv⟩
 have hlin:=zet a b x t p
 have hcond: ∀Z,zpz a b x t p=Z→(¬(bvB b=true∧bvB x=true∧b.length=a.length∧x.length=a.length)→Z=([],1))∧((bvB b=true∧bvB x=true∧b.length=a.length∧x.length=a.length)→Z=zxw (zc5 a t p) b x p):=fun Z hZ=>by
  rw[←hZ,hlin]
  refine⟨fun h=>if_pos ?_,fun⟨h2,h3,h4,h5⟩=>if_neg ?_⟩
  ·cases g1:bvB b
   ·exact .inr (.inl rfl)
   cases g2:bvB x
   ·exact .inr (.inr (.inl rfl))
   by_cases g3:b.length=a.length
   ·exact .inr (.inr (.inr (.inr fun g4=>h ⟨g1,g2,g3,g4⟩)))
   ·exact .inr (.inr (.inr (.inl g3)))
  ·rw[h1,h2,h3,h4,h5];simp
 have eE:zk1 a t p=(zc5 a t p).elim ([],13) (fun x=>(x.exp,0)):=by unfold zk1;rw[if_pos h1];cases zc5 a t p<;>rfl
 have eP:zpg a t p=(zc5 a t p).elim ([],13) (fun x=>(x.phi,0)):=by unfold zpg;rw[if_pos h1];cases zc5 a t p<;>rfl
 refine key _ _ _ rfl rfl rfl ?_ ?_
 ·rw[eE,eP]
  cases zc5 a t p with
  |none=>exact .inr ⟨rfl,rfl⟩
  |some y=>exact .inl ⟨rfl,rfl⟩
 ·obtain⟨g1,g2⟩:=hcond _ rfl
  refine⟨fun h=>?_,g1⟩
  rw[g2 h]
  cases hbot:zc5 a t p with
  |none=>exact .inr rfl
  |some y=>
   obtain⟨v1,v2⟩:=zq5 va kt hp hbot
   simp only[zxw]
   split
   ·left
    refine⟨rfl,?_⟩
    simp only[List.length_zipWith,apM,List.length_map,v1.len,v2.len,va.len,Nat.min_self]
   ·exact .inr rfl
theorem n3 (a:Mx) (ha:RX a) (b x:List Iv) (hb: ∀y∈b,RI y) (hx: ∀y∈x,RI y) (hbl:b.length<9223372036854775808) (hxl:x.length<9223372036854775808) (t:Iv) (ht:RI t) (p:Int):
 Fn 3 G0 [.sl .vs a,.sl .iv b,.sl .iv x,.agg (ivC t),.int .i64 p] (.bool true) G0:=by
 have hal:=ha.len
 have c9:=nr a (fun r hr=>ha.rl r hr) ha.len
 have c11b:=ng b (fun _ _=>trivial) hbl
 have c11x:=ng x (fun _ _=>trivial) hxl
 have c7:=n7 t
 generalize a.any lgR=ga at*
 generalize b.any lgJ=gb at*
 generalize x.any lgJ=gx at*
 generalize lgJ t=gt at*
 by_cases k1:a.length≤8∧b.length≤9∧x.length≤9
 ·refine qy (code:=zw2) hTM hmx Tryz.func3 rfl rfl (ex:= []) ?_
  conv=>whnf
  refine jb hTM hmx 3 (fun _:Unit=>⟨[.sl .vs a,.sl .iv b,.sl .iv x,.any,.int .i64 p,.any,.any,.any,.ptr 8 0,.any,.bool false]++jt 199,[(8,.cells (ivC t)),(11,.free)]++G0⟩) (fun _=>by kernel_rfl) ?_ (fun _=>n3t a ha b x hb hx t ht p k1.1 k1.2.1 k1.2.2)
  conv=>whnf
  refine⟨[.gst JT],_,n8,?_⟩
  conv=>whnf
  refine brI (fun c=>?_) (fun c=>?_)
  ·have c:=of_decide_eq_true c;omega
  conv=>whnf
  refine⟨[.cells [.fn 7 []]],_,c9.sw [(11,1000003)] rfl,?_⟩
  conv=>whnf
  cases ga with
  |true=>
   conv=>whnf
   refine⟨[.gst JT],_,n8,?_⟩
   conv=>whnf
   exact⟨lr rfl,wv⟩
  |false=>
  conv=>whnf
  refine brI (fun c=>?_) (fun c=>?_)
  ·have c:=of_decide_eq_true c;omega
  conv=>whnf
  refine brI (fun c=>?_) (fun c=>?_)
  ·have c:=of_decide_eq_true c;omega
  conv=>whnf
  refine⟨[],_,c11b,?_⟩
  conv=>whnf
  cases gb with
  |true=>
   conv=>whnf
   refine⟨[.gst JT],_,n8,?_⟩
   conv=>whnf
   exact⟨lr rfl,wv⟩
  |false=>
  conv=>whnf
  refine⟨[],_,c11x,?_⟩
  conv=>whnf
  cases gx with
  |true=>
   conv=>whnf
   refine⟨[.gst JT],_,n8,?_⟩
   conv=>whnf
   exact⟨lr rfl,wv⟩
  |false=>
  conv=>whnf
  refine⟨[],_,c7,?_⟩
  conv=>whnf
  cases gt with
  |true=>
   conv=>whnf
   refine⟨[.gst JT],_,n8,?_⟩
   conv=>whnf
   exact⟨lr rfl,wv⟩
  |false=>
  conv=>whnf
  refine brI (fun c=>?_) (fun c=>?_)
  ·conv=>whnf
   refine brI (fun c2=>?_) (fun c2=>?_)
   ·conv=>whnf
    refine⟨[.gst JT],_,n8,?_⟩
    conv=>whnf
    exact⟨lr rfl,wv⟩
   ·conv=>whnf
    refine⟨(),?_⟩
    ((conv=>whnf);refine And.intro ?_ ?_;repeat' first|refine lc ?_ ?_|exact la0|exact lr rfl|exact ln0|refine lh1 ?_ ?_|exact lh0|exact bf0|exact bd0|refine bc0 ?_|exact bm0 rfl|exact bb0 rfl|exact bg0 rfl|exact li0 rfl|refine lg0 ?_|refine lt0 ?_|fail)
  ·conv=>whnf
   refine⟨(),?_⟩
   ((conv=>whnf);refine And.intro ?_ ?_;repeat' first|refine lc ?_ ?_|exact la0|exact lr rfl|exact ln0|refine lh1 ?_ ?_|exact lh0|exact bf0|exact bd0|refine bc0 ?_|exact bm0 rfl|exact bb0 rfl|exact bg0 rfl|exact li0 rfl|refine lg0 ?_|refine lt0 ?_|fail)
 ·refine fnT hTM hmx Tryz.func3 rfl rfl (ex:= []) ?_
  conv=>whnf
  refine⟨[.gst JT],_,n8,?_⟩
  conv=>whnf
  refine brI (fun c=>?_) (fun c=>?_)
  ·conv=>whnf
   refine⟨[.gst JT],_,n8,?_⟩
   conv=>whnf
   exact⟨lr rfl,wv⟩
  have c:=of_decide_eq_false c
  conv=>whnf
  refine⟨[.cells [.fn 7 []]],_,c9.sw [(11,1000003)] rfl,?_⟩
  conv=>whnf
  cases ga with
  |true=>
   conv=>whnf
   refine⟨[.gst JT],_,n8,?_⟩
   conv=>whnf
   exact⟨lr rfl,wv⟩
  |false=>
  conv=>whnf
  refine brI (fun c2=>?_) (fun c2=>?_)
  ·conv=>whnf
   refine⟨[.gst JT],_,n8,?_⟩
   conv=>whnf
   exact⟨lr rfl,wv⟩
  have c2:=of_decide_eq_false c2
  conv=>whnf
  refine brI (fun c3=>?_) (fun c3=>?_)
  ·conv=>whnf
   refine⟨[.gst JT],_,n8,?_⟩
   conv=>whnf
   exact⟨lr rfl,wv⟩
  have c3:=of_decide_eq_false c3
  omega
end Go.Proofs.YtgehdbenidimlaaGreatDoor
