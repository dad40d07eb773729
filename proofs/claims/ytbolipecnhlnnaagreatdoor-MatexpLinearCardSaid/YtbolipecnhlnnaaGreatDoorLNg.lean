/- the reference's conditions: valid matrices, cases, boxes; points. -/
import Derived.Test.YtbolipecnhlnnaaGreatDoorLNe
import Derived.Test.YtbolipecnhlnnaaGreatDoorLRa
set_option linter.all false
open List renaming mem_of_getElem?->q0,getElem?_eq_getElem->q1,not_mem_nil->q2,mem_cons->q3,drop_of_length_le->q4,any_cons->q5,drop_length->q7,length_cons->q8
open Nat renaming zero_le->q6
namespace Go.Proofs.YtbolipecnhlnnaaGreatDoor
open Go Go.Sx
set_option maxRecDepth 100000
set_option maxHeartbeats 8000000
theorem n13(m:Mx)(hm:RX m):Fn 114 [] [.sl .vs m] (.bool (vmB m)) []:=by
 have hlen:=hm.len;refine fZM Tryz.func114 rfl rfl ?_;conv=>whnf
 refine brI (fun h1=>?_) (fun h1=>?_)
 .have h1:=Z0 h1;conv=>whnf
  exact⟨ab0 (zfx m O).symm,lh0⟩
 have h1:=Z1 h1;conv=>whnf
 refine brI (fun h2=>?_) (fun h2=>?_)
 .have h2:=Z0 h2;conv=>whnf
  exact⟨ab0 (zfx m O).symm,lh0⟩
 have h2:=Z1 h2;obtain⟨r0,hr0⟩:∃r,m[0]? =some r:=⟨_,q1 O⟩;have e:=zuu hr0;have hrl0:=hm.rl r0 (q0 hr0);have hg0:∀(x:List Iv),m[(0:Int).toNat]? =some x->r0=x:=fun x hx=>by
  have hx:m[0]? =some x:=hx;rw[hr0]at hx;exact Option.some.inj hx
 conv=>whnf
 refine⟨⟨O,O⟩,fun(x:List Iv)hx=>?_⟩;obtain rfl:=hg0 x hx;conv=>whnf
 refine brI (fun h3=>?_) (fun h3=>?_)
 .have h3:=Z0 h3;conv=>whnf
  exact⟨ab0 (zfx m O).symm,lh0⟩
 have h3:=Z1 h3;conv=>whnf
 refine⟨⟨O,O⟩,fun(x:List Iv)hx=>?_⟩;obtain rfl:=hg0 x hx;conv=>whnf
 refine brI (fun h4=>?_) (fun h4=>?_)
 .have h4:=Z0 h4;conv=>whnf
  exact⟨ab0 (zfx m O).symm,lh0⟩
 have h4:=Z1 h4;rw[zzv m O O];conv=>whnf
 refine⟨Nat,fun i=>i<=m.length/\m.any (rwB m)=(m.drop i).any (rwB m),fun i=> [(3,.int .i64 i)],fun i=> [],fun i=>m.length-i,0,⟨q6 _,rfl⟩,?_,fun i hi=>?_⟩
 .exact KZ0
 obtain⟨hi,he⟩:=hi
 (refine⟨Z,?_⟩;(conv=>whnf))
 refine brI (fun c=>?_) (fun c=>?_)
 .have c:i<m.length:=by have:=Z0 c;omega
  obtain⟨row,hr⟩:∃r,m[i]? =some r:=⟨_,q1 c⟩;have hrm:=q0 hr;have hrl:=hm.rl row hrm;have hgi:∀(x:List Iv),m[((i:Nat):Int).toNat]? =some x->row=x:=fun x hx=>by
   have hx:m[i]? =some x:=by simpa using hx
   rw[hr]at hx;exact Option.some.inj hx
  rw[zu hr,q5]at he;conv=>whnf
  refine⟨⟨O,O⟩,fun(x:List Iv)hx=>?_⟩;obtain rfl:=hgi x hx;conv=>whnf
  refine⟨⟨O,O⟩,fun(x:List Iv)hx=>?_⟩;obtain rfl:=hg0 x hx
  (refine⟨Z,Z,?_⟩;(conv=>whnf))
  refine brI (fun c2=>?_) (fun c2=>?_)
  .have c2:row.length≠r0.length:=by
    have c2:((row.length:Int) != (r0.length:Int))=true:=c2;simp at c2;omega
   have hb:rwB m row=true:=by unfold rwB;rw[e];simp[c2]
   conv=>whnf
   exact⟨ab0 (by rw[he,hb];rfl),lh0⟩
  have c2:row.length=r0.length:=by
   have c2:((row.length:Int) != (r0.length:Int))=false:=c2;simp at c2;omega
  have hb:rwB m row=row.any fun x=> !viB x:=by unfold rwB;rw[e];simp[c2]
  rw[hb]at he;conv=>whnf
  refine⟨Nat,fun j=>j<=row.length/\(row.any fun x=> !viB x)=((row.drop j).any fun x=> !viB x),fun j=> [(4,.int .i64 j)],fun j=> [],fun j=>row.length-j,0,⟨q6 _,rfl⟩,?_,fun j hj=>?_⟩
  .exact KZ0
  obtain⟨hj,hje⟩:=hj
  (refine⟨Z,?_⟩;(conv=>whnf))
  refine⟨⟨O,O⟩,fun(x:List Iv)hx=>?_⟩;obtain rfl:=hgi x hx;conv=>whnf
  refine brI (fun c3=>?_) (fun c3=>?_)
  .have c3:j<row.length:=by have:=Z0 c3;omega
   conv=>whnf
   refine⟨⟨O,O⟩,fun(x:List Iv)hx=>?_⟩;obtain rfl:=hgi x hx;conv=>whnf
   refine⟨⟨O,O⟩,fun(y:Iv)hy=>?_⟩;have hy:row[j]? =some y:=by simpa using hy
   have h40:=zxp y (hm.el row hrm y (q0 hy));rw[zu hy,q5]at hje;conv=>whnf
   cases hv:viB y with
   |false=>
    rw[hv]at h40;refine gZn h40 ?_;conv=>whnf
    exact⟨ab0 (by rw[he,hje,hv];simp),lh0⟩
   |true=>
    rw[hv]at h40;refine gZn h40 ?_;conv=>whnf
    refine⟨j+1,⟨c3,by rw[hje,hv];rfl⟩,by show row.length-(j+1)<row.length-j;omega,?_⟩;exact KZ0
  .have c3:j=row.length:=by
    have hj:j<=row.length:=hj;have:=Z1 c3;omega
   have hje:(row.any fun x=> !viB x)=false:=by rw[hje,c3,q7];rfl
   conv=>whnf
   refine⟨i+1,⟨c,by rw[he,hje];rfl⟩,by show m.length-(i+1)<m.length-i;omega,?_⟩;exact KZ0
 .have c:=Z1 c;have he:m.any (rwB m)=false:=by rw[he,q4 O];rfl
  conv=>whnf
  exact⟨ab0 (by rw[he];rfl),lh0⟩
theorem n17(l:List Iv)(hl:∀x∈l,RI x)(hlen:l.length<9223372036854775808):Fn 51 [] [.sl .iv l] (.bool (bvB l)) []:=by
 have hno:¬(1<=l.length/\l.length<=8)->bvB l=false:=fun h=>by unfold bvB;rw[Z7 h];rfl
 refine fZM Tryz.func51 rfl rfl ?_;conv=>whnf
 refine brI (fun h1=>?_) (fun h1=>?_)
 .have h1:=Z0 h1;conv=>whnf
  exact⟨ab0 (hno O).symm,lh0⟩
 have h1:=Z1 h1;conv=>whnf
 refine brI (fun h2=>?_) (fun h2=>?_)
 .have h2:=Z0 h2;conv=>whnf
  exact⟨ab0 (hno O).symm,lh0⟩
 have h2:=Z1 h2;have e:bvB l= !l.any fun x=>x.all|| !viB x:=by unfold bvB;rw[Z6 (O:1<=l.length/\l.length<=8)];rfl
 rw[e];conv=>whnf
 refine⟨Nat,fun j=>j<=l.length/\(l.any fun x=>x.all|| !viB x)=((l.drop j).any fun x=>x.all|| !viB x),fun j=> [(3,.int .i64 j)],fun j=> [],fun j=>l.length-j,0,⟨q6 _,rfl⟩,?_,fun j hj=>?_⟩
 .exact KZ0
 obtain⟨hj,hje⟩:=hj
 (refine⟨Z,?_⟩;(conv=>whnf))
 refine brI (fun c=>?_) (fun c=>?_)
 .have c:j<l.length:=by have:=Z0 c;omega
  conv=>whnf
  refine⟨⟨O,O⟩,fun(y:Iv)hy=>?_⟩;have hy:l[j]? =some y:=by simpa using hy
  have hgi:∀(x:Iv),l[((j:Nat):Int).toNat]? =some x->y=x:=fun x hx=>by
   have hx:l[j]? =some x:=by simpa using hx
   rw[hy]at hx;exact Option.some.inj hx
  have h40:=zxp y (hl y (q0 hy));rw[zu hy,q5]at hje;obtain⟨lo,hi,al⟩:=y
  cases al with
  |true=>
   conv=>whnf
   exact⟨ab0 (by rw[hje];simp),lh0⟩
  |false=>
   conv=>whnf
   refine⟨⟨O,O⟩,fun(z:Iv)hz=>?_⟩;obtain rfl:=hgi z hz;conv=>whnf
   cases hv:viB ⟨lo,hi,false⟩with
   |false=>
    rw[hv]at h40;refine gZn h40 ?_;conv=>whnf
    exact⟨ab0 (by rw[hje,hv];simp),lh0⟩
   |true=>
    rw[hv]at h40;refine gZn h40 ?_;conv=>whnf
    refine⟨j+1,⟨c,by rw[hje,hv];rfl⟩,by show l.length-(j+1)<l.length-j;omega,?_⟩;exact KZ0
 .have c:=Z1 c;have hje:(l.any fun x=>x.all|| !viB x)=false:=by rw[hje,q4 O];rfl
  conv=>whnf
  exact⟨ab0 (by rw[hje];rfl),lh0⟩
theorem n41(p:Int):Fn 104 [] [.int .i64 p] (.bool (pcB p)) []:=by
 have ep:pcB p=(decide (8<=p)&&decide (p<=512)):=by unfold pcB;rw[Bool.eq_iff_iff]
 rw[ep];refine fZM Tryz.func104 rfl rfl ?_;conv=>whnf
 refine brI (fun h1=>?_) (fun h1=>?_)
 .have h1:=Z0 h1;conv=>whnf
  exact⟨ab0 (by rw[Z6 (O:8<=p)];rfl),lh0⟩
 .have h1:=Z1 h1;conv=>whnf
  exact⟨ab0 (by rw[Z7 (O:¬8<=p)];rfl),lh0⟩
theorem zwm{m:Mx}(hm:RX m){b:Bool}(h:vmB m=b):Fn 114 [] [.sl .vs m] (.bool b) []:=by rw[<-h];exact n13 m hm
theorem n12(a:Mx)(ha:RX a)(t:Iv)(ht:RI t)(p:Int):Fn 45 [] [.sl .vs a,.agg (ivC t),.int .i64 p] (.bool (zjt a t p)) []:=by
 rw[zvw a ht p];have h83:=zxp t ht
 cases h1:vmB a with
 |false=>
  refine fZM Tryz.func45 rfl rfl ?_;conv=>whnf
  refine gZn (zwm ha h1) ?_;conv=>whnf
  exact⟨lr rfl,lh0⟩
 |true=>
 obtain⟨n,k,va⟩:=(zfw ha.el).1 h1;have n1:=va.n1;have k1:=va.k1;have hal:=va.len;obtain⟨r0,hr0⟩:∃r,a[0]? =some r:=⟨_,q1 O⟩;have hr0l:=va.row r0 (q0 hr0);have hhd:=va.hd;rw[hhd];obtain⟨lo,hi,al⟩:=t;have hgt:∀(x:List Iv),a[(0:Int).toNat]? =some x->r0=x:=fun x hx=>by
  have hx:a[0]? =some x:=hx;rw[hr0]at hx;exact Option.some.inj hx
 by_cases h2:a.length=k
 .have e2:((r0.length:Int) != (a.length:Int))=false:=by simp;omega
  rw[Z6 h2];cases h3:viB ⟨lo,hi,al⟩with
  |false=>
   rw[h3]at h83;refine fZM Tryz.func45 rfl rfl ?_;conv=>whnf
   refine gZn (zwm ha h1) ?_;conv=>whnf
   refine⟨⟨O,O⟩,fun(x:List Iv)hx=>?_⟩;obtain rfl:=hgt x hx;conv=>whnf
   rw[e2];conv=>whnf
   refine gZn h83 ?_;conv=>whnf
   exact⟨lr rfl,lh0⟩
  |true=>
  rw[h3]at h83
  cases al with
  |true=>
   refine fZM Tryz.func45 rfl rfl ?_;conv=>whnf
   refine gZn (zwm ha h1) ?_;conv=>whnf
   refine⟨⟨O,O⟩,fun(x:List Iv)hx=>?_⟩;obtain rfl:=hgt x hx;conv=>whnf
   rw[e2];conv=>whnf
   refine gZn h83 ?_;conv=>whnf
   exact⟨lr rfl,lh0⟩
  |false=>
   refine fZM Tryz.func45 rfl rfl ?_;conv=>whnf
   refine gZn (zwm ha h1) ?_;conv=>whnf
   refine⟨⟨O,O⟩,fun(x:List Iv)hx=>?_⟩;obtain rfl:=hgt x hx;conv=>whnf
   rw[e2];conv=>whnf
   refine gZn h83 ?_;conv=>whnf
   have h60:=n41 p;have ep:pcB p=(decide (8<=p)&&decide (p<=512)):=by unfold pcB;rw[Bool.eq_iff_iff]
   rw[<-Bool.and_assoc (decide (8<=p)),<-ep]
   cases h4:pcB p with
   |false=>
    rw[h4]at h60;refine gZn h60 ?_;conv=>whnf
    exact⟨lr rfl,lh0⟩
   |true=>
   rw[h4]at h60;refine gZn h60 ?_;conv=>whnf
   refine⟨Nat,fun i=>i<=a.length/\(a.any fun r=>r.any fun x=>x.all)=((a.drop i).any fun r=>r.any fun x=>x.all),fun i=> [(7,.int .i64 i)],fun i=> [],fun i=>a.length-i,0,⟨q6 _,rfl⟩,?_,fun i hi=>?_⟩
   .exact KZ0
   obtain⟨hi,he⟩:=hi
   (refine⟨Z,?_⟩;(conv=>whnf))
   refine brI (fun c=>?_) (fun c=>?_)
   .have c:i<a.length:=by have:=Z0 c;omega
    obtain⟨row,hr⟩:∃r,a[i]? =some r:=⟨_,q1 c⟩;have hrl:=va.row row (q0 hr);rw[zu hr,q5]at he;conv=>whnf
    refine⟨Nat,fun j=>j<=row.length/\(row.any fun x=>x.all)=((row.drop j).any fun x=>x.all),fun j=> [(8,.int .i64 j)],fun j=> [],fun j=>row.length-j,0,⟨q6 _,rfl⟩,?_,fun j hj=>?_⟩
    .exact KZ0
    obtain⟨hj,hje⟩:=hj
    (refine⟨Z,?_⟩;(conv=>whnf))
    refine brI (fun c2=>?_) (fun c2=>?_)
    .have c2:j<row.length:=by have:=Z0 c2;omega
     conv=>whnf
     refine⟨⟨O,O⟩,fun(x:List Iv)hx=>?_⟩;obtain rfl:row=x:=by
      have hx:a[i]? =some x:=by simpa using hx
      rw[hr]at hx;exact Option.some.inj hx
     conv=>whnf
     refine⟨⟨O,O⟩,fun(y:Iv)hy=>?_⟩;have hy:row[j]? =some y:=by simpa using hy
     rw[zu hy,q5]at hje;conv=>whnf
     refine brI (fun c3=>?_) (fun c3=>?_)
     .conv=>whnf
      exact⟨ab0 (by rw[he,hje,c3];simp),lh0⟩
     .conv=>whnf
      refine⟨j+1,⟨c2,by rw[hje,c3];rfl⟩,by show row.length-(j+1)<row.length-j;omega,?_⟩;exact KZ0
    .have c2:j=row.length:=by
      have hj:j<=row.length:=hj;have:=Z1 c2;omega
     have hje:(row.any fun x=>x.all)=false:=by rw[hje,c2,q7];rfl
     conv=>whnf
     refine⟨i+1,⟨c,by rw[he,hje];rfl⟩,by show a.length-(i+1)<a.length-i;omega,?_⟩;exact KZ0
   .have c:=Z1 c;have he:(a.any fun r=>r.any fun x=>x.all)=false:=by rw[he,q4 O];rfl
    conv=>whnf
    exact⟨ab0 (by rw[he];rfl),lh0⟩
 .have e2:((r0.length:Int) != (a.length:Int))=true:=by simp;omega
  rw[Z7 h2];refine fZM Tryz.func45 rfl rfl ?_;conv=>whnf
  refine gZn (zwm ha h1) ?_;conv=>whnf
  refine⟨⟨O,O⟩,fun(x:List Iv)hx=>?_⟩;obtain rfl:=hgt x hx;conv=>whnf
  rw[e2];conv=>whnf
  exact⟨lr rfl,lh0⟩
theorem n31(d:Dy):Fn 17 [] [.agg (dyC d)] (.agg (ivC (zx d))) []:=by
 refine fZM Tryz.func17 rfl rfl ?_;conv=>whnf
 exact⟨lr rfl,lh0⟩
theorem n24(n:Int)(h: -4611686018427387904<=n/\n<=4611686018427387904):Fn 19 [] [.int .i64 n] (.agg (ivC (whI n))) []:=by
 have h1:=r262 n h;have h2:=n31 (zcb n);show Fn 19 [] [.int .i64 n] (.agg (ivC (zx (zcb n)))) [];generalize zcb n=d at*;refine fZM Tryz.func19 rfl rfl ?_;conv=>whnf
 refine gZn h1 ?_;conv=>whnf
 refine gZn h2 ?_;conv=>whnf
 exact⟨lr rfl,lh0⟩
theorem n80{x:Iv}(hx:VI x){d:Dy}(hd:VD d)(h:inI (dv d) x):Fn 113 [] [.agg (ivC x),.agg (dyC d)] (.bool true) []:=by
 have h40:=zxp x hx.ri;rw[(wu hx.ri).2 hx]at h40;have h82:=qcw d hd.lb (by have:=hd.len;omega);rw[(jt hd.lb).2 hd]at h82;obtain⟨lo,hi,al⟩:=x
 cases al with
 |true=>
  refine fZM Tryz.func113 rfl rfl ?_;conv=>whnf
  refine gZn h40 ?_;conv=>whnf
  refine gZn h82 ?_;conv=>whnf
  exact⟨lr rfl,lh0⟩
 |false=>
  have k:=(xi hx).1 rfl;rcases h with c|⟨c1,c2⟩
  .cases c
  have e1:=zxo k.lo hd;have e2:=zxo hd k.hi;have c1:=jl.2 c1;have c2:=jl.2 c2;have c1:qh lo d<=0:=c1;have c2:qh d hi<=0:=c2;refine fZM Tryz.func113 rfl rfl ?_;conv=>whnf
  refine gZn h40 ?_;conv=>whnf
  refine gZn h82 ?_;conv=>whnf
  refine gZn e1 ?_;conv=>whnf
  refine brI (fun c=>?_) (fun c=>absurd c1 (Z1 c));conv=>whnf
  refine gZn e2 ?_;conv=>whnf
  exact⟨ab0 (by rw[Z6 c2]),lh0⟩
theorem n37{x:Iv}(hx:VI x)(n:Int)(hn: -4611686018427387904<=n/\n<=4611686018427387904)(h:inI (n:Rat) x):Fn 44 [] [.agg (ivC x),.int .i64 n] (.bool true) []:=by
 have h1:=r262 n hn;have h2:=n80 hx (zjy n hn) (by rw[uo];exact h);generalize zcb n=d at*;refine fZM Tryz.func44 rfl rfl ?_;conv=>whnf
 refine gZn h1 ?_;conv=>whnf
 refine gZn h2 ?_
 (refine⟨Z,Z,?_⟩;(conv=>whnf))
 exact⟨lr rfl,lh0⟩
def awA:Mx:= [[whI 0,whI 1],[whI 0,whI 0]]
def awH(y:Iv)(n:Int):Bool:= !y.all&&decide (qh y.lo (zcb n)<=0)&&decide (qh (zcb n) y.hi<=0)
def awE(X:Mx×Int):Bool:=match X with
 |([[_,y],_],0)=>awH y 3
 | _=>false
def awL(X:List Iv×Int):Bool:=match X with
 |([y,z],0)=>awH y 7&&awH z (-1)
 | _=>false
theorem qi4:awE (zwp awA (whI 3) 30)=true:=OB
theorem qi3:awL (zud awA [whI 0,whI (-2)] [whI 1,whI 5] (whI 3) 30)=true:=OB
theorem znl(n:Int)(h: -4611686018427387904<=n/\n<=4611686018427387904):RI (whI n):=(zfv h).ri
theorem qe5:RX awA:=by
 refine⟨fun r hr x hx=>?_,fun r hr=>?_,OA⟩
 .simp only[awA,q3,q2,or_false]at hr;rcases hr with rfl|rfl<;>simp only[q3,q2,or_false]at hx<;>rcases hx with rfl|rfl<;>exact znl _ OA
 .simp only[awA,q3,q2,or_false]at hr;rcases hr with rfl|rfl<;>decide
theorem qh8{a:Mx}(ha:RX a){t:Iv}(ht:RI t){p:Int}{X:Mx}(h:zwp a t p=(X,0)):∃n,VM n n a/\VM n n X:=by
 unfold zwp at h;split at h
 .rename_i c;obtain⟨n,va,kt,hp⟩:=zjs ha ht c;split at h
  .rename_i y hy;cases h
   exact⟨n,va,(qbi va kt hp hy).1⟩
  .cases h
 .cases h
theorem qhg{a:Mx}{b x:List Iv}(hb:∀y∈b,RI y){t:Iv}{p:Int}{L:List Iv}(h:zud a b x t p=(L,0)):bvB L=true:=by
 rw[zod]at h;split at h
 .cases h
 .cases hbot:zlb a t p with
  |none=>rw[hbot]at h;cases h
  |some y=>
   rw[hbot]at h;simp only[linR]at h;split at h
   .rename_i c;cases h;exact c
   .cases h
theorem qez{y:Iv}{n:Int}(h:awH y n=true):y.all=false/\inI (n:Rat) y:=by
 unfold awH at h;simp only[Bool.and_eq_true,Bool.not_eq_true',Z2]at h;obtain⟨⟨h1,h2⟩,h3⟩:=h;have h2:=jl.1 h2;have h3:=jl.1 h3;rw[uo]at h2 h3;exact⟨h1,.inr ⟨h2,h3⟩⟩
theorem qfs{p:Int}(u v:List Iv):∀z∈List.zipWith (fun u v=>yp u v p) u v,RI z:=fun z hz=>by
 obtain⟨i,hi⟩:=List.getElem?_of_mem hz;rw[List.getElem?_zipWith]at hi;split at hi
 .cases hi;exact znf _ _ _
 .cases hi
theorem qhh{a:Mx}{b x:List Iv}{t:Iv}{p:Int}{L:List Iv}(h:zud a b x t p=(L,0)):∀z∈L,RI z:=by
 rw[zod]at h;split at h
 .cases h
 .cases hbot:zlb a t p with
  |none=>rw[hbot]at h;cases h
  |some y=>
   rw[hbot]at h;simp only[linR]at h;split at h
   .cases h;exact qfs _ _
   .cases h
theorem gx0{α:Type}{x:α}{l:List α}{P:α->Prop}(h:P x):((0:Int)<=0/\(0:Int)<((x::l).length :Int))/\∀y:α,(x::l)[(0:Int).toNat]? =some y->P y:=
 ⟨⟨O,by simp only[q8];omega⟩,fun y hy=>by cases hy;exact h⟩
theorem gx1{α:Type}{x z:α}{l:List α}{P:α->Prop}(h:P z):((0:Int)<=1/\(1:Int)<((x::z::l).length :Int))/\∀y:α,(x::z::l)[(1:Int).toNat]? =some y->P y:=
 ⟨⟨O,by simp only[q8];omega⟩,fun y hy=>by cases hy;exact h⟩
theorem n8:Fn 9 G0 [] (.bool true) G0:=by
 have c14:=n14 awA qe5 (whI 3) (znl 3 OA) 30;have c16:=n16 awA qe5 [whI 0,whI (-2)] [whI 1,whI 5] (fun y hy=>by
  simp only[q3,q2,or_false]at hy;rcases hy with rfl|rfl<;>exact znl _ OA) (fun y hy=>by
  simp only[q3,q2,or_false]at hy;rcases hy with rfl|rfl<;>exact znl _ OA) OA OA (whI 3) (znl 3 OA) 30
 have hE:=qi4;have hL:=qi3;have vE:=fun X h=>qh8 qe5 (znl 3 OA) (p:=30) (X:=X) h
 have vL:=fun L h=>qhh (a:=awA) (b:= [whI 0,whI (-2)]) (x:= [whI 1,whI 5]) (t:=whI 3) (p:=30) (L:=L) h
 have vL2:=fun L h=>qhg (a:=awA) (b:= [whI 0,whI (-2)]) (x:= [whI 1,whI 5]) (fun y hy=>by
  simp only[q3,q2,or_false]at hy;rcases hy with rfl|rfl<;>exact znl _ OA) (t:=whI 3) (p:=30) (L:=L) h
 generalize zwp awA (whI 3) 30=X at*;generalize zud awA [whI 0,whI (-2)] [whI 1,whI 5] (whI 3) 30=L at*;unfold awE at hE;split at hE
 .rename_i w y r2;unfold awL at hL;split at hL
  .rename_i y1 y2;rw[Bool.and_eq_true]at hL;obtain⟨ya,yin⟩:=qez hE;obtain⟨y1a,y1in⟩:=qez hL.1;obtain⟨y2a,y2in⟩:=qez hL.2;obtain⟨n,_,vX⟩:=vE _ rfl;have vy:VI y:=vX.el [w,y] OC y OC;obtain⟨_,kb⟩:=qem (vL _ rfl) (vL2 _ rfl);have k1:=kb y1 OC;have k2:=kb y2 OC;have c37:=n37 vy 3 OA yin;have c37a:=n37 (.inl k1) 7 OA y1in;have c37b:=n37 (.inl k2) (-1) OA y2in;have w0:=n24 0 OA;have w1:=n24 1 OA;have w3:=n24 3 OA;have w2:=n24 (-2) OA;have w5:=n24 5 OA;unfold awA at c14 c16;generalize whI 0=z0 at*;generalize whI 1=z1 at*;generalize whI 3=z3 at*;generalize whI (-2)=z2 at*;generalize whI 5=z5 at*;obtain⟨yl,yh,ya'⟩:=y;obtain⟨y1l,y1h,y1a'⟩:=y1;have ya:ya'=false:=ya;have y1a:y1a'=false:=y1a;subst ya;subst y1a;refine fZM Tryz.func9 rfl rfl ?_;conv=>whnf
   refine gZn w0 ?_;conv=>whnf
   refine gZn w1 ?_;conv=>whnf
   refine gZn w0 ?_;conv=>whnf
   refine gZn w0 ?_;conv=>whnf
   refine gZn w3 ?_;conv=>whnf
   refine gZc c14 ?_;conv=>whnf
   refine gZn w0 ?_;conv=>whnf
   refine gZn w2 ?_;conv=>whnf
   refine gZn w1 ?_;conv=>whnf
   refine gZn w5 ?_;conv=>whnf
   refine gZn w3 ?_;conv=>whnf
   refine gZc c16 ?_;conv=>whnf
   refine gx0 ?_;conv=>whnf
   refine gx1 ?_;conv=>whnf
   refine gZn c37 ?_;conv=>whnf
   refine gx0 ?_;conv=>whnf
   refine gx1 ?_;conv=>whnf
   refine gx0 ?_;conv=>whnf
   refine gZn c37a ?_;conv=>whnf
   refine gx1 ?_;conv=>whnf
   refine gZn c37b ?_;conv=>whnf
   refine gx0 ?_;conv=>whnf
   exact⟨lr rfl,za1⟩
  .cases hL
 .cases hE
