/- conditions of all elements of a matrix, matrix.Valid, box.Valid. -/
import Derived.Test.YtbolipecnhlnnaaGreatDoorLMa
import Derived.Test.YtbolipecnhlnnaaGreatDoorLZy
set_option linter.all false
open Bool renaming eq_iff_iff->qF
open List renaming mem_of_getElem?->qA,getElem?_mapIdx->qB,getElem?_eq_some_iff->qC,drop_of_length_le->qD,ext_getElem?->qE,replicate->qG,length_mapIdx->qH
open Go.Region renaming binds->qI
namespace Go.Proofs.YtbolipecnhlnnaaGreatDoor
open Go Go.Sx
set_option maxRecDepth 100000
set_option maxHeartbeats 8000000
def TN:Tab:= {T6 with gl:=9::18::11::132::133::208::57::58::138::213::127::128::131::134::203::299::204::211::T6.gl}
theorem hTN:TabOK Tryz.prog TN:=zfz Z Z
theorem fZN{f:Nat}{fn:Func}{c:Code}(a:Tryz.prog.funcs[f]?=some fn)(b:fn.body=some c)(d:(fn.name == "runtime.NumGoroutine")=false){H H':Hp}{A:List AV}{r:AV}(h:fnC TN [] c fn.ntmps H A H' fun Y=>zbu TN (CN Tryz.prog) c true Y (fun Y=>zh0 TN fn.results.toList [] r H' Y) (fun _ _=>False) (fun Y=>zh0 TN fn.results.toList [] r H' Y)):znk Tryz.prog f H A r H':=fnT hTN hmx a b d h
def bdW(y:Iv):Bool:= !viB y
abbrev HvN:Hp:= [(1000003,.cells [.fn 35 []])]
theorem zyg{h h':Hp}:leH h h' HvN HvN:=lh1 (bc0 (lc (lr rfl) ln0)) lh0
theorem n170(y:Iv)(hy:RI y):Fn 294 HvN [.agg (ivC y),.ptr 1000003 0] (.bool (bdW y)) HvN:=by
 have h:=i51 y hy;unfold bdW;generalize viB y=b at*;cases b
 all_goals
  refine fZN Tryz.func294 rfl rfl ?_;conv=>whnf
  refine gZn h ?_;conv=>whnf
  exact⟨lr rfl,zyg⟩
theorem n92(y:Iv)(hy:RI y):Fn 136 [] [.agg (ivC y)] (.bool (bdW y)) []:=by
 have h:=i51 y hy;unfold bdW;generalize viB y=b at*;cases b
 all_goals
  refine fZN Tryz.func136 rfl rfl ?_;conv=>whnf
  refine gZn h ?_;conv=>whnf
  exact⟨lr rfl,lh0⟩
def bxB(y:Iv):Bool:=y.all|| !viB y
theorem n91(y:Iv)(hy:RI y):Fn 126 [] [.agg (ivC y)] (.bool (bxB y)) []:=by
 have h:=i51 y hy;unfold bxB;generalize viB y=b at*;obtain⟨lo,hi,al⟩:=y;cases al<;>cases b
 all_goals
  refine fZN Tryz.func126 rfl rfl ?_;conv=>whnf
  first
   |exact⟨lr rfl,lh0⟩
   |(refine gZn h ?_
     (conv=>whnf)
     exact⟨lr rfl,lh0⟩)
theorem nvi(l:List Iv)(hl:∀x∈l,RI x)(hlen:l.length<9223372036854775808):Fn 118 HvN [.sl .iv l,.fn 294 [.ptr 1000003 0]] (.int .i64 (ixP bdW l 0)) HvN:=by
 refine fZN Tryz.func118 rfl rfl ?_;conv=>whnf
 refine⟨Nat,fun i=>i<=l.length/\ixP bdW (l.drop i) i=ixP bdW l 0,fun i=> [(8,.int .i64 i)],fun _=> [],fun i=>l.length-i,0,⟨OC,rfl⟩,?_,fun i hi=>?_⟩
 .exact KZ0
 (refine⟨Z,?_⟩;(conv=>whnf))
 obtain⟨hi1,hi2⟩:=hi;refine brI (fun h1=>?_) (fun h1=>?_)
 .conv=>whnf
  have hi:i<l.length:=by simp only[Z2]at h1;omega
  refine⟨⟨O,O⟩,fun(x:Iv)hx=>?_⟩;have hx:l[i]? =some x:=by simpa using hx
  have hm:=qA hx;rw[zu hx]at hi2;simp only[ixP]at hi2;conv=>whnf
  refine cbI [.cells [.fn 35 []]] (bdW x) (n170 x (hl x hm)) (fun h2=>?_) (fun h2=>?_)
  .conv=>whnf
   rw[Z4 h2]at hi2;exact⟨ai0 hi2,zyg⟩
  .conv=>whnf
   rw[Z5 (by rw[h2];simp)]at hi2;refine⟨i+1,⟨O,hi2⟩,by show l.length-(i+1)<l.length-i;omega,?_⟩;exact KZ0
 .conv=>whnf
  have hi:¬i<l.length:=by simp only[Z3]at h1;omega
  rw[qD O]at hi2;exact⟨ai0 hi2,zyg⟩
theorem nv(l:List Iv)(hl:∀x∈l,RI x)(hlen:l.length<9223372036854775808):Fn 50 HvN [.sl .iv l,.fn 294 [.ptr 1000003 0]] (.bool (l.any bdW)) HvN:=by
 refine fZN Tryz.func50 rfl rfl ?_;conv=>whnf
 refine⟨[.cells [.fn 35 []]],_,nvi l hl hlen,?_⟩;conv=>whnf
 exact⟨ab0 (by rw[qF,Z2];exact zb9 bdW l 0),zyg⟩
theorem nwi(l:List Iv)(hl:∀x∈l,RI x)(hlen:l.length<9223372036854775808):Fn 118 [] [.sl .iv l,.fn 136 []] (.int .i64 (ixP bdW l 0)) []:=by
 refine fZN Tryz.func118 rfl rfl ?_;conv=>whnf
 refine⟨Nat,fun i=>i<=l.length/\ixP bdW (l.drop i) i=ixP bdW l 0,fun i=> [(8,.int .i64 i)],fun _=> [],fun i=>l.length-i,0,⟨OC,rfl⟩,?_,fun i hi=>?_⟩
 .exact KZ0
 (refine⟨Z,?_⟩;(conv=>whnf))
 obtain⟨hi1,hi2⟩:=hi;refine brI (fun h1=>?_) (fun h1=>?_)
 .conv=>whnf
  have hi:i<l.length:=by simp only[Z2]at h1;omega
  refine⟨⟨O,O⟩,fun(x:Iv)hx=>?_⟩;have hx:l[i]? =some x:=by simpa using hx
  have hm:=qA hx;rw[zu hx]at hi2;simp only[ixP]at hi2;conv=>whnf
  refine cbI [] (bdW x) (n92 x (hl x hm)) (fun h2=>?_) (fun h2=>?_)
  .conv=>whnf
   rw[Z4 h2]at hi2;exact⟨ai0 hi2,lh0⟩
  .conv=>whnf
   rw[Z5 (by rw[h2];simp)]at hi2;refine⟨i+1,⟨O,hi2⟩,by show l.length-(i+1)<l.length-i;omega,?_⟩;exact KZ0
 .conv=>whnf
  have hi:¬i<l.length:=by simp only[Z3]at h1;omega
  rw[qD O]at hi2;exact⟨ai0 hi2,lh0⟩
theorem nw(l:List Iv)(hl:∀x∈l,RI x)(hlen:l.length<9223372036854775808):Fn 50 [] [.sl .iv l,.fn 136 []] (.bool (l.any bdW)) []:=by
 refine fZN Tryz.func50 rfl rfl ?_;conv=>whnf
 refine gZn (nwi l hl hlen) ?_;conv=>whnf
 exact⟨ab0 (by rw[qF,Z2];exact zb9 bdW l 0),lh0⟩
theorem nxi(l:List Iv)(hl:∀x∈l,RI x)(hlen:l.length<9223372036854775808):Fn 118 [] [.sl .iv l,.fn 126 []] (.int .i64 (ixP bxB l 0)) []:=by
 refine fZN Tryz.func118 rfl rfl ?_;conv=>whnf
 refine⟨Nat,fun i=>i<=l.length/\ixP bxB (l.drop i) i=ixP bxB l 0,fun i=> [(8,.int .i64 i)],fun _=> [],fun i=>l.length-i,0,⟨OC,rfl⟩,?_,fun i hi=>?_⟩
 .exact KZ0
 (refine⟨Z,?_⟩;(conv=>whnf))
 obtain⟨hi1,hi2⟩:=hi;refine brI (fun h1=>?_) (fun h1=>?_)
 .conv=>whnf
  have hi:i<l.length:=by simp only[Z2]at h1;omega
  refine⟨⟨O,O⟩,fun(x:Iv)hx=>?_⟩;have hx:l[i]? =some x:=by simpa using hx
  have hm:=qA hx;rw[zu hx]at hi2;simp only[ixP]at hi2;conv=>whnf
  refine cbI [] (bxB x) (n91 x (hl x hm)) (fun h2=>?_) (fun h2=>?_)
  .conv=>whnf
   rw[Z4 h2]at hi2;exact⟨ai0 hi2,lh0⟩
  .conv=>whnf
   rw[Z5 (by rw[h2];simp)]at hi2;refine⟨i+1,⟨O,hi2⟩,by show l.length-(i+1)<l.length-i;omega,?_⟩;exact KZ0
 .conv=>whnf
  have hi:¬i<l.length:=by simp only[Z3]at h1;omega
  rw[qD O]at hi2;exact⟨ai0 hi2,lh0⟩
theorem nx(l:List Iv)(hl:∀x∈l,RI x)(hlen:l.length<9223372036854775808):Fn 50 [] [.sl .iv l,.fn 126 []] (.bool (l.any bxB)) []:=by
 refine fZN Tryz.func50 rfl rfl ?_;conv=>whnf
 refine gZn (nxi l hl hlen) ?_;conv=>whnf
 exact⟨ab0 (by rw[qF,Z2];exact zb9 bxB l 0),lh0⟩
def rwB(m:Mx)(r:List Iv):Bool:=decide (r.length≠hdL m)||r.any fun x=> !viB x
structure RX(m:Mx):Prop where
 el:RM m
 rl:∀r∈m,r.length<9223372036854775808
 len:m.length<9223372036854775808
theorem zuu{m:Mx}{r:List Iv}(h:m[0]? =some r):hdL m=r.length:=by
 cases m with
 |nil=>simp at h
 |cons a l=>simp at h;subst h;rfl
abbrev HmM(m:Mx):Hp:= [(1000002,.cells [.sl .vs m]),(1000003,.cells [.fn 35 []])]
theorem zuj(m:Mx){h h':Hp}:leH h h' (HmM m) (HmM m):=lh1 (bc0 (lc (lr rfl) ln0)) (lh1 (bc0 (lc (lr rfl) ln0)) lh0)
theorem n169(m:Mx)(hm:RX m)(h0:0<m.length)(r:List Iv)(hr:r∈m):Fn 293 (HmM m) [.sl .iv r,.ptr 1000002 0,.ptr 1000003 0] (.bool (rwB m r)) (HmM m):=by
 have hc:=nv r (hm.el r hr) (hm.rl r hr);refine fZN Tryz.func293 rfl rfl ?_;conv=>whnf
 refine⟨⟨O,by have:=hm.len;omega⟩,fun(x:List Iv)hx=>?_⟩;have hx:m[0]? =some x:=hx;have e:=zuu hx;conv=>whnf
 refine brI (fun h1=>?_) (fun h1=>?_)
 .have h1:r.length≠x.length:=by
   have:((r.length:Int) != (x.length:Int))=true:=h1;simp at this;omega
  conv=>whnf
  exact⟨ab0 (by unfold rwB;simp[e,h1]),zuj m⟩
 .have h1:r.length=x.length:=by
   have:((r.length:Int) != (x.length:Int))=false:=h1;simp at this;omega
  have e2:rwB m r=r.any bdW:=by unfold rwB;simp[e,h1];rfl
  rw[e2];generalize r.any bdW=b at*;conv=>whnf
  refine⟨[.cells [.fn 35 []]],_,hc,?_⟩;conv=>whnf
  exact⟨lr rfl,zuj m⟩
theorem nmxi(m:Mx)(hm0:RX m)(h0:0<m.length)(l:List (List Iv))(hl:∀x∈l,x∈m)(hlen:l.length<9223372036854775808):Fn 117 (HmM m) [.sl .vs l,.fn 293 [.ptr 1000002 0,.ptr 1000003 0]] (.int .i64 (ixP (rwB m) l 0)) (HmM m):=by
 refine fZN Tryz.func117 rfl rfl ?_;conv=>whnf
 refine⟨Nat,fun i=>i<=l.length/\ixP (rwB m) (l.drop i) i=ixP (rwB m) l 0,fun i=> [(8,.int .i64 i)],fun _=> [],fun i=>l.length-i,0,⟨OC,rfl⟩,?_,fun i hi=>?_⟩
 .exact KZ0
 (refine⟨Z,?_⟩;(conv=>whnf))
 obtain⟨hi1,hi2⟩:=hi;refine brI (fun h1=>?_) (fun h1=>?_)
 .conv=>whnf
  have hi:i<l.length:=by simp only[Z2]at h1;omega
  refine⟨⟨O,O⟩,fun(x:(List Iv))hx=>?_⟩;have hx:l[i]? =some x:=by simpa using hx
  have hm:=qA hx;rw[zu hx]at hi2;simp only[ixP]at hi2;conv=>whnf
  refine cbI [.cells [.sl .vs m],.cells [.fn 35 []]] ((rwB m) x) (n169 m hm0 h0 x (hl x hm)) (fun h2=>?_) (fun h2=>?_)
  .conv=>whnf
   rw[Z4 h2]at hi2;exact⟨ai0 hi2,zuj m⟩
  .conv=>whnf
   rw[Z5 (by rw[h2];simp)]at hi2;refine⟨i+1,⟨O,hi2⟩,by show l.length-(i+1)<l.length-i;omega,?_⟩;exact KZ0
 .conv=>whnf
  have hi:¬i<l.length:=by simp only[Z3]at h1;omega
  rw[qD O]at hi2;exact⟨ai0 hi2,zuj m⟩
theorem nmx(m:Mx)(hm0:RX m)(h0:0<m.length)(l:List (List Iv))(hl:∀x∈l,x∈m)(hlen:l.length<9223372036854775808):Fn 48 (HmM m) [.sl .vs l,.fn 293 [.ptr 1000002 0,.ptr 1000003 0]] (.bool (l.any (rwB m))) (HmM m):=by
 refine fZN Tryz.func48 rfl rfl ?_;conv=>whnf
 refine⟨[.cells [.sl .vs m],.cells [.fn 35 []]],_,nmxi m hm0 h0 l hl hlen,?_⟩;conv=>whnf
 exact⟨ab0 (by rw[qF,Z2];exact zb9 (rwB m) l 0),zuj m⟩
theorem zzv(m:Mx)(c1:1<=m.length/\m.length<=8)(c2:1<=hdL m/\hdL m<=8):vmB m= !(m.any (rwB m)):=by
 unfold vmB;rw[Z6 c1,Z6 c2];rfl
theorem zfx(m:Mx)(h:¬((1<=m.length/\m.length<=8)/\1<=hdL m/\hdL m<=8)):vmB m=false:=by
 unfold vmB;simp only[Bool.and_eq_false_iff,Z3];left;by_cases h1:1<=m.length/\m.length<=8
 .exact .inr fun c=>h ⟨h1,c⟩
 .exact .inl h1
theorem n123(m:Mx)(hm:RX m):Fn 202 [] [.sl .vs m,.fn 35 []] (.bool (vmB m)) []:=by
 refine fZN Tryz.func202 rfl rfl ?_;conv=>whnf
 refine brI (fun h1=>?_) (fun h1=>?_)
 .have h1:=Z0 h1;conv=>whnf
  exact⟨ab0 (zfx m O).symm,lh0⟩
 have h1:=Z1 h1;conv=>whnf
 refine brI (fun h2=>?_) (fun h2=>?_)
 .have h2:=Z0 h2;conv=>whnf
  exact⟨ab0 (zfx m O).symm,lh0⟩
 have h2:=Z1 h2;conv=>whnf
 refine⟨⟨O,O⟩,fun(x:List Iv)hx=>?_⟩;have hx:m[0]? =some x:=hx;have e:=zuu hx;conv=>whnf
 refine brI (fun h3=>?_) (fun h3=>?_)
 .have h3:=Z0 h3;conv=>whnf
  exact⟨ab0 (zfx m O).symm,lh0⟩
 have h3:=Z1 h3;conv=>whnf
 refine⟨⟨O,O⟩,fun(x2:List Iv)hx2=>?_⟩;obtain rfl:x=x2:=by
  have hx2:m[0]? =some x2:=hx2;rw[hx]at hx2;exact Option.some.inj hx2
 conv=>whnf
 refine brI (fun h4=>?_) (fun h4=>?_)
 .have h4:=Z0 h4;conv=>whnf
  exact⟨ab0 (zfx m O).symm,lh0⟩
 have h4:=Z1 h4;conv=>whnf
 have hc:=nmx m hm O m (fun x hx=>hx) hm.len;have ev:=zzv m O O;rw[ev];generalize m.any (rwB m)=b at*;refine⟨[.cells [.sl .vs m],.cells [.fn 35 []]],_,hc.sw [(2,1000002),(3,1000003)] rfl,?_⟩;conv=>whnf
 exact⟨lr rfl,lh0⟩
theorem n71(m:Mx)(hm:RX m):Fn 125 [] [.sl .vs m] (.bool (vmB m)) []:=by
 have h:=n123 m hm;generalize vmB m=b at*;refine fZN Tryz.func125 rfl rfl ?_;conv=>whnf
 refine gZn h ?_;conv=>whnf
 exact⟨lr rfl,lh0⟩
theorem n72(p:Int):Fn 137 [] [.int .i64 p] (.bool (pcB p)) []:=by
 refine fZN Tryz.func137 rfl rfl ?_;conv=>whnf
 refine brI (fun h1=>?_) (fun h1=>?_)
 .have h1:=Z0 h1;conv=>whnf
  exact⟨ab0 (by unfold pcB;simp[h1]),lh0⟩
 .have h1:=Z1 h1;conv=>whnf
  exact⟨ab0 (by unfold pcB;simp[h1]),lh0⟩
theorem n44(l:List Iv)(hl:∀x∈l,RI x)(hlen:l.length<9223372036854775808):Fn 56 [] [.sl .iv l] (.bool (bvB l)) []:=by
 have hc:=nx l hl hlen;refine fZN Tryz.func56 rfl rfl ?_;conv=>whnf
 refine brI (fun h1=>?_) (fun h1=>?_)
 .have h1:=Z0 h1;conv=>whnf
  refine brI (fun h2=>?_) (fun h2=>?_)
  .have h2:=Z0 h2;have e:bvB l= !l.any bxB:=by unfold bvB;rw[Z6 (O:1<=l.length/\l.length<=8)];rfl
   rw[e];generalize l.any bxB=b at*;conv=>whnf
   refine gZn hc ?_;conv=>whnf
   exact⟨lr rfl,lh0⟩
  .have h2:=Z1 h2;conv=>whnf
   exact⟨ab0 (by unfold bvB;rw[Z7 (O:¬(1<=l.length/\l.length<=8))];rfl),lh0⟩
 .have h1:=Z1 h1;conv=>whnf
  exact⟨ab0 (by unfold bvB;rw[Z7 (O:¬(1<=l.length/\l.length<=8))];rfl),lh0⟩
def rwA(G:Mx)(i j:Nat):Mx:=G.mapIdx fun a r=>if a<i then r else if a=i then r.take j else []
theorem qcr(G:Mx)(i j:Nat):(rwA G i j).length =G.length:=by simp[rwA]
theorem zff{G:Mx}{i j:Nat}{r:List Iv}(h:G[i]? =some r):(rwA G i j)[i]? =some (r.take j):=by
 simp[rwA,h]
theorem zg3{G:Mx}{i j:Nat}{r:List Iv}{y:Iv}(h:G[i]? =some r)(hy:r[j]? =some y):(rwA G i j).set i (r.take j++ [y])=rwA G i (j+1):=by
 apply qE;intro a;have hi:=(qC.1 h).1;by_cases e:i=a
 .subst e;rw[List.getElem?_set_self (by rw[qcr];exact hi),zff h,List.take_add_one,hy];rfl
 .rw[List.getElem?_set_ne e];simp only[rwA,qB]
  congr 1
  funext r
  split
  .rfl
  .rw[Z5 (fun c=>e c.symm),Z5 (fun c=>e c.symm)]
theorem zd0{G:Mx}{i:Nat}{r:List Iv}(h:G[i]? =some r):rwA G i r.length=rwA G (i+1) 0:=by
 apply qE;intro a;simp only[rwA,qB]
 cases ha:G[a]? with
 |none=>rfl
 |some s=>
  simp only[Option.map_some,Option.some.injEq];by_cases e:a=i
  .subst e;rw[h]at ha;cases ha
   rw[Z5 O,Z4 rfl,Z4 O,List.take_length]
  .by_cases h1:a<i
   .rw[Z4 h1,Z4 O]
   .rw[Z5 h1,Z5 e,Z5 O];split<;>simp
theorem zg4(G:Mx):rwA G G.length 0=G:=by
 apply qE;intro a;simp only[rwA,qB]
 cases ha:G[a]? with
 |none=>rfl
 |some s=>
  have:=(qC.1 ha).1;simp only[Option.map_some,Option.some.injEq];rw[Z4 this]
theorem zdz(G:Mx):rwA G 0 0=qG G.length []:=by
 apply qE;intro a;simp only[rwA,qB,List.getElem?_replicate]
 cases ha:G[a]? with
 |none=>rw[Z5 (by have:=List.getElem?_eq_none_iff.1 ha;omega)];rfl
 |some s=>
  rw[Z4 (qC.1 ha).1];simp
theorem yq:zic JT:=fun _ _ _ _ _ _ hV hj j hl=>(hj j hl).cmono hV
theorem qh2:Tryz.prog.info? 23=some Tryz.t23:=Tryz.type23
theorem qgc:TIOK Tryz.prog 23 ⟨3,1,[],28,7,0,some .vs,.i64,[.nilsl],24,false⟩:=hTN.ti 23 _ (by first|exact qA (i:=4) rfl|exact qA (i:=5) rfl)
noncomputable def zy8:Code:=Tryz.f203.body.getD .skip
abbrev fr5:Hp:= [(12,.free),(9,.free),(39,.free),(100039,.free),(1500039,.free)]
theorem spl{α:Type}{l:List α}{o:α}(i:Nat)(h:l[i]? =some o):l=l.take i++o::l.drop (i+1):=by
 have h1:=(qC.1 h).2;rw[<-h1,List.getElem_cons_drop,List.take_append_drop]
theorem za3{v:Value}{y:AV}:∀l:List AV,endL v y l l
 | []=>trivial
 | _::l=>⟨.inr (.inl rfl),za3 l⟩
theorem zu9{F:Nat->Nat->Iv->Iv}{m:Mx}{i:Nat}{row:List Iv}(h:m[i]? =some row):(xt F m)[i]? =some (row.mapIdx fun j x=>F i j x):=by
 unfold xt;rw[qB,h];rfl
abbrev HE(x:Iv)(p:Int)(K:GJ):Hp:= [(qa,.gst (zni JT K)),(1000003,.cells (ivC x)),(1000004,.cells [.int .i64 p])]
abbrev HE0(x:Iv)(p:Int):Hp:= [(qa,.gst JT),(1000003,.cells (ivC x)),(1000004,.cells [.int .i64 p])]
def CE(x:Iv)(p:Int)(F:Nat->Nat->Iv->Iv)(m:Mx):Prop:=∀K,zit K->zgf K->∀(i j:Nat)(row:List Iv)(y0:Iv),m[i]? =some row->row[j]? =some y0->Fn 204 (HE x p K) [.int .i64 i,.int .i64 j,.agg (ivC y0),.ptr 1000003 0,.ptr 1000004 0] (.agg (ivC (F i j y0))) (HE x p K)
noncomputable def oE:Array Oper:=zty 8 (Tryz.f203.body.getD .skip)
def SEb(m:Mx)(row:List Iv)(y0:Iv)(x:Iv)(p:Int)(n b0 i j:Nat)(hs:List Value)(rows:Mx)(hv:Value)(y:Iv)(rw0:List Iv)(h':Value)(q0 q1 q2 q3 q4 q5 q6 q7 q8 q9 q10 q11 q12 q13 q14:Bool):St:=
 ⟨[.sl .vs m,.fn 204 [.ptr 1000003 0,.ptr 1000004 0],.any,.any,.nilsl,.val (.slice (some ⟨b0,0,none⟩) n n),.int .i64 i,.sl .iv row,.int .i64 j,.ptr 9 0,.sl .vs m,.int .i64 n,.val (.slice (some ⟨b0,0,none⟩) n n),.sl .vs m,.int .i64 n,.int .i64 i,.any,.any,.any,.any,.sl .iv row,.int .i64 row.length,.int .i64 j,.any,.any,.any,.any,(bif q0 then .val (.slice (some ⟨b0,0,none⟩) n n)else .any),(bif q1 then .int .i64 i else .any),(bif q2 then .val (.slice (some ⟨b0,0,none⟩) n n)else .any),(bif q3 then .int .i64 i else .any),(bif q4 then .val (.pointer (some ⟨b0,i,none⟩))else .any),(bif q5 then .val hv else .any),(bif q6 then .fn 204 [.ptr 1000003 0,.ptr 1000004 0]else .any),(bif q7 then .int .i64 i else .any),(bif q8 then .int .i64 j else .any),(bif q9 then .agg (ivC y0)else .any),(bif q10 then .agg (ivC y)else .any),(bif q11 then .sl .iv [y]else .any),(bif q12 then .val h' else .any),(bif q13 then .val (.pointer (some ⟨b0,i,none⟩))else .any),.any,.any,.any],
  [(12,.free),(9,.cells (ivC y0)),(39,.free),(100039,.free),(1500039,.free),(qa,.gst (bif q14 then vu JT 23 28 .iv b0 n (hs.set i h') (rows.set i (rw0++ [y])) none else bif q12 then vu JT 23 28 .iv b0 n hs rows (some (i,h',rw0++ [y]))else vu JT 23 28 .iv b0 n hs rows none)),(1000003,.cells (ivC x)),(1000004,.cells [.int .i64 p])]⟩
def SE(m:Mx)(row:List Iv)(y0:Iv)(x:Iv)(p:Int)(n b0 i j:Nat)(hs:List Value)(rows:Mx)(hv:Value)(y:Iv)(rw0:List Iv)(L:Nat->Bool)(Q:St):Prop:=∃h':Value,Q=SEb m row y0 x p n b0 i j hs rows hv y rw0 h' (L 0) (L 1) (L 2) (L 3) (L 4) (L 5) (L 6) (L 7) (L 8) (L 9) (L 10) (L 11) (L 12) (L 13) (L 14)
section
variable (m:Mx) (row:List Iv) (y0:Iv) (x:Iv) (p:Int) (n b0 i j:Nat) (hs:List Value) (rows:Mx) (hv:Value) (y:Iv) (rw0:List Iv) (h':Value) (L:Nat->Bool)
theorem Eo0:∀o,oE[0]? =some o->OpT Tryz.prog o (SEb m row y0 x p n b0 i j hs rows hv y rw0 h' false (L 1) (L 2) (L 3) (L 4) (L 5) (L 6) (L 7) (L 8) (L 9) (L 10) (L 11) (L 12) (L 13) (L 14)) (SEb m row y0 x p n b0 i j hs rows hv y rw0 h' true (L 1) (L 2) (L 3) (L 4) (L 5) (L 6) (L 7) (L 8) (L 9) (L 10) (L 11) (L 12) (L 13) (L 14)):=by
 intro o ho;have ho:some _=some o:=ho;cases ho
 refine qc hTN rfl ?_;conv=>whnf
 exact rfl
theorem Eo1:∀o,oE[1]? =some o->OpT Tryz.prog o (SEb m row y0 x p n b0 i j hs rows hv y rw0 h' (L 0) false (L 2) (L 3) (L 4) (L 5) (L 6) (L 7) (L 8) (L 9) (L 10) (L 11) (L 12) (L 13) (L 14)) (SEb m row y0 x p n b0 i j hs rows hv y rw0 h' (L 0) true (L 2) (L 3) (L 4) (L 5) (L 6) (L 7) (L 8) (L 9) (L 10) (L 11) (L 12) (L 13) (L 14)):=by
 intro o ho;have ho:some _=some o:=ho;cases ho
 refine qc hTN rfl ?_;conv=>whnf
 exact rfl
theorem Eo2:∀o,oE[2]? =some o->OpT Tryz.prog o (SEb m row y0 x p n b0 i j hs rows hv y rw0 h' (L 0) (L 1) false (L 3) (L 4) (L 5) (L 6) (L 7) (L 8) (L 9) (L 10) (L 11) (L 12) (L 13) (L 14)) (SEb m row y0 x p n b0 i j hs rows hv y rw0 h' (L 0) (L 1) true (L 3) (L 4) (L 5) (L 6) (L 7) (L 8) (L 9) (L 10) (L 11) (L 12) (L 13) (L 14)):=by
 intro o ho;have ho:some _=some o:=ho;cases ho
 refine qc hTN rfl ?_;conv=>whnf
 exact rfl
theorem Eo3:∀o,oE[3]? =some o->OpT Tryz.prog o (SEb m row y0 x p n b0 i j hs rows hv y rw0 h' (L 0) (L 1) (L 2) false (L 4) (L 5) (L 6) (L 7) (L 8) (L 9) (L 10) (L 11) (L 12) (L 13) (L 14)) (SEb m row y0 x p n b0 i j hs rows hv y rw0 h' (L 0) (L 1) (L 2) true (L 4) (L 5) (L 6) (L 7) (L 8) (L 9) (L 10) (L 11) (L 12) (L 13) (L 14)):=by
 intro o ho;have ho:some _=some o:=ho;cases ho
 refine qc hTN rfl ?_;conv=>whnf
 exact rfl
theorem Eo4(hin:i<n):∀o,oE[4]? =some o->OpT Tryz.prog o (SEb m row y0 x p n b0 i j hs rows hv y rw0 h' (L 0) (L 1) true true false (L 5) (L 6) (L 7) (L 8) (L 9) (L 10) (L 11) (L 12) (L 13) (L 14)) (SEb m row y0 x p n b0 i j hs rows hv y rw0 h' (L 0) (L 1) true true true (L 5) (L 6) (L 7) (L 8) (L 9) (L 10) (L 11) (L 12) (L 13) (L 14)):=by
 intro o ho;have ho:some _=some o:=ho;cases ho
 exact(yi (j:=(i:Int)) rfl rfl rfl Tryz.underlying22 Tryz.type23 rfl rfl rfl O O).to rfl
theorem Eo5(hh:hs[i]? =some hv):∀o,oE[5]? =some o->OpT Tryz.prog o (SEb m row y0 x p n b0 i j hs rows hv y rw0 h' (L 0) (L 1) (L 2) (L 3) true false (L 6) (L 7) (L 8) (L 9) (L 10) (L 11) false (L 13) false) (SEb m row y0 x p n b0 i j hs rows hv y rw0 h' (L 0) (L 1) (L 2) (L 3) true true (L 6) (L 7) (L 8) (L 9) (L 10) (L 11) false (L 13) false):=by
 intro o ho;have ho:some _=some o:=ho;cases ho
 exact(zd9 (j:=i) rfl rfl rfl qgc rfl rfl rfl rfl hh).to rfl
theorem Eo6:∀o,oE[6]? =some o->OpT Tryz.prog o (SEb m row y0 x p n b0 i j hs rows hv y rw0 h' (L 0) (L 1) (L 2) (L 3) (L 4) (L 5) false (L 7) (L 8) (L 9) (L 10) (L 11) (L 12) (L 13) (L 14)) (SEb m row y0 x p n b0 i j hs rows hv y rw0 h' (L 0) (L 1) (L 2) (L 3) (L 4) (L 5) true (L 7) (L 8) (L 9) (L 10) (L 11) (L 12) (L 13) (L 14)):=by
 intro o ho;have ho:some _=some o:=ho;cases ho
 refine qc hTN rfl ?_;conv=>whnf
 exact rfl
theorem Eo7:∀o,oE[7]? =some o->OpT Tryz.prog o (SEb m row y0 x p n b0 i j hs rows hv y rw0 h' (L 0) (L 1) (L 2) (L 3) (L 4) (L 5) (L 6) false (L 8) (L 9) (L 10) (L 11) (L 12) (L 13) (L 14)) (SEb m row y0 x p n b0 i j hs rows hv y rw0 h' (L 0) (L 1) (L 2) (L 3) (L 4) (L 5) (L 6) true (L 8) (L 9) (L 10) (L 11) (L 12) (L 13) (L 14)):=by
 intro o ho;have ho:some _=some o:=ho;cases ho
 refine qc hTN rfl ?_;conv=>whnf
 exact rfl
theorem Eo8:∀o,oE[8]? =some o->OpT Tryz.prog o (SEb m row y0 x p n b0 i j hs rows hv y rw0 h' (L 0) (L 1) (L 2) (L 3) (L 4) (L 5) (L 6) (L 7) false (L 9) (L 10) (L 11) (L 12) (L 13) (L 14)) (SEb m row y0 x p n b0 i j hs rows hv y rw0 h' (L 0) (L 1) (L 2) (L 3) (L 4) (L 5) (L 6) (L 7) true (L 9) (L 10) (L 11) (L 12) (L 13) (L 14)):=by
 intro o ho;have ho:some _=some o:=ho;cases ho
 refine qc hTN rfl ?_;conv=>whnf
 exact rfl
theorem Eo9:∀o,oE[9]? =some o->OpT Tryz.prog o (SEb m row y0 x p n b0 i j hs rows hv y rw0 h' (L 0) (L 1) (L 2) (L 3) (L 4) (L 5) (L 6) (L 7) (L 8) false (L 10) (L 11) (L 12) (L 13) (L 14)) (SEb m row y0 x p n b0 i j hs rows hv y rw0 h' (L 0) (L 1) (L 2) (L 3) (L 4) (L 5) (L 6) (L 7) (L 8) true (L 10) (L 11) (L 12) (L 13) (L 14)):=by
 intro o ho;have ho:some _=some o:=ho;cases ho
 refine qc hTN rfl ?_;conv=>whnf
 exact rfl
theorem Eo10(hc:∀K,zit K->zgf K->Fn 204 (HE x p K) [.int .i64 i,.int .i64 j,.agg (ivC y0),.ptr 1000003 0,.ptr 1000004 0] (.agg (ivC y)) (HE x p K)):∀o,oE[10]? =some o->OpT Tryz.prog o (SEb m row y0 x p n b0 i j hs rows hv y rw0 h' (L 0) (L 1) (L 2) (L 3) (L 4) (L 5) true true true true false (L 11) false (L 13) false) (SEb m row y0 x p n b0 i j hs rows hv y rw0 h' (L 0) (L 1) (L 2) (L 3) (L 4) (L 5) true true true true true (L 11) false (L 13) false):=by
 intro o ho;have ho:some _=some o:=ho;cases ho
 refine qc hTN rfl ?_;conv=>whnf
 refine⟨[.gst _,.cells (ivC x),.cells [.int .i64 p]],_,hc _ zc9.stab zc9.mono,?_⟩;conv=>whnf
 exact rfl
theorem Eo11:∀o,oE[11]? =some o->OpT Tryz.prog o (SEb m row y0 x p n b0 i j hs rows hv y rw0 h' (L 0) (L 1) (L 2) (L 3) (L 4) (L 5) (L 6) (L 7) (L 8) (L 9) true false (L 12) (L 13) (L 14)) (SEb m row y0 x p n b0 i j hs rows hv y rw0 h' (L 0) (L 1) (L 2) (L 3) (L 4) (L 5) (L 6) (L 7) (L 8) (L 9) true true (L 12) (L 13) (L 14)):=by
 intro o ho;have ho:some _=some o:=ho;cases ho
 refine qc hTN rfl ?_;conv=>whnf
 exact rfl
theorem Eo12(hh:hs[i]? =some hv)(hr:rows[i]? =some rw0)(hlr:rw0.length<=100000):∀o,oE[12]? =some o->OpX Tryz.prog o (SEb m row y0 x p n b0 i j hs rows hv y rw0 h' (L 0) (L 1) (L 2) (L 3) (L 4) true (L 6) (L 7) (L 8) (L 9) (L 10) true false (L 13) false) fun Q=>∃h'',Q=SEb m row y0 x p n b0 i j hs rows hv y rw0 h'' (L 0) (L 1) (L 2) (L 3) (L 4) true (L 6) (L 7) (L 8) (L 9) (L 10) true true (L 13) false:=by
 intro o ho;have ho:some _=some o:=ho;cases ho
 refine(zd7 (k:=.iv) (i:=i) (row:=rw0) (y:=y) rfl rfl rfl rfl rfl rfl yq rfl rfl rfl rfl rfl rfl rfl rfl hh hr ?_ ?_).mono fun Q h=>?_
 .show(_+1)*88<=_;omega
 .decide
 .obtain⟨h'',rfl⟩:=h;exact⟨h'',rfl⟩
theorem Eo13(hin:i<n):∀o,oE[13]? =some o->OpT Tryz.prog o (SEb m row y0 x p n b0 i j hs rows hv y rw0 h' true true (L 2) (L 3) (L 4) (L 5) (L 6) (L 7) (L 8) (L 9) (L 10) (L 11) (L 12) false (L 14)) (SEb m row y0 x p n b0 i j hs rows hv y rw0 h' true true (L 2) (L 3) (L 4) (L 5) (L 6) (L 7) (L 8) (L 9) (L 10) (L 11) (L 12) true (L 14)):=by
 intro o ho;have ho:some _=some o:=ho;cases ho
 exact(yi (j:=(i:Int)) rfl rfl rfl Tryz.underlying22 Tryz.type23 rfl rfl rfl O O).to rfl
theorem Eo14(hi:i<hs.length):∀o,oE[14]? =some o->OpT Tryz.prog o (SEb m row y0 x p n b0 i j hs rows hv y rw0 h' (L 0) (L 1) (L 2) (L 3) (L 4) (L 5) (L 6) (L 7) (L 8) (L 9) (L 10) (L 11) true true false) (SEb m row y0 x p n b0 i j hs rows hv y rw0 h' (L 0) (L 1) (L 2) (L 3) (L 4) (L 5) (L 6) (L 7) (L 8) (L 9) (L 10) (L 11) true true true):=by
 intro o ho;have ho:some _=some o:=ho;cases ho
 exact(zd8 (i:=i) rfl rfl rfl yq qh2 rfl rfl rfl rfl hi).to rfl
theorem Estep(hin:i<n)(hh:hs[i]? =some hv)(hc:∀K,zit K->zgf K->Fn 204 (HE x p K) [.int .i64 i,.int .i64 j,.agg (ivC y0),.ptr 1000003 0,.ptr 1000004 0] (.agg (ivC y)) (HE x p K))(hr:rows[i]? =some rw0)(hlr:rw0.length<=100000)(hi:i<hs.length)
 (q:Nat) (o:Oper) (hcl:∀j oj,oE[j]? =some oj->L j=true->∀e∈oj.after,qI .any e=true->L e.on=true) (ho:oE[q]? =some o) (hL:L q=false)
 (hd:∀e∈o.after,qI .any e=true->L e.on=true):∀Q,SE m row y0 x p n b0 i j hs rows hv y rw0 L Q->OpX Tryz.prog o Q (SE m row y0 x p n b0 i j hs rows hv y rw0 (zz8 L q)):=by
 rintro Q ⟨h',rfl⟩;have dpq:∀ {j:Nat},oE[j]? =some o->∀q,((oE[j]?.map fun o=>o.after.toList.any fun e=>qI .any e&&Nat.beq e.on q)=some true)->L q=true:=fun {j}ho q hq=>zjp ho hd q hq
 have cl:∀a q,((oE[a]?.map fun o=>o.after.toList.any fun e=>qI .any e&&Nat.beq e.on q)=some true)->L a=true->L q=true:=fun a q hq ha=>zm5 hcl hq ha
 match q,ho,hL with
 |0,ho,hL=>
  have hall:=Eo0 m row y0 x p n b0 i j hs rows hv y rw0 h' L o ho;refine OpT.x (σ':=SEb m row y0 x p n b0 i j hs rows hv y rw0 h' true (L 1) (L 2) (L 3) (L 4) (L 5) (L 6) (L 7) (L 8) (L 9) (L 10) (L 11) (L 12) (L 13) (L 14)) ?_ ⟨h',rfl⟩;show OpT Tryz.prog o (SEb m row y0 x p n b0 i j hs rows hv y rw0 h' (L 0) (L 1) (L 2) (L 3) (L 4) (L 5) (L 6) (L 7) (L 8) (L 9) (L 10) (L 11) (L 12) (L 13) (L 14)) _;rw[hL];exact hall
 |1,ho,hL=>
  have hall:=Eo1 m row y0 x p n b0 i j hs rows hv y rw0 h' L o ho;refine OpT.x (σ':=SEb m row y0 x p n b0 i j hs rows hv y rw0 h' (L 0) true (L 2) (L 3) (L 4) (L 5) (L 6) (L 7) (L 8) (L 9) (L 10) (L 11) (L 12) (L 13) (L 14)) ?_ ⟨h',rfl⟩;show OpT Tryz.prog o (SEb m row y0 x p n b0 i j hs rows hv y rw0 h' (L 0) (L 1) (L 2) (L 3) (L 4) (L 5) (L 6) (L 7) (L 8) (L 9) (L 10) (L 11) (L 12) (L 13) (L 14)) _;rw[hL];exact hall
 |2,ho,hL=>
  have hall:=Eo2 m row y0 x p n b0 i j hs rows hv y rw0 h' L o ho;refine OpT.x (σ':=SEb m row y0 x p n b0 i j hs rows hv y rw0 h' (L 0) (L 1) true (L 3) (L 4) (L 5) (L 6) (L 7) (L 8) (L 9) (L 10) (L 11) (L 12) (L 13) (L 14)) ?_ ⟨h',rfl⟩;show OpT Tryz.prog o (SEb m row y0 x p n b0 i j hs rows hv y rw0 h' (L 0) (L 1) (L 2) (L 3) (L 4) (L 5) (L 6) (L 7) (L 8) (L 9) (L 10) (L 11) (L 12) (L 13) (L 14)) _;rw[hL];exact hall
 |3,ho,hL=>
  have hall:=Eo3 m row y0 x p n b0 i j hs rows hv y rw0 h' L o ho;refine OpT.x (σ':=SEb m row y0 x p n b0 i j hs rows hv y rw0 h' (L 0) (L 1) (L 2) true (L 4) (L 5) (L 6) (L 7) (L 8) (L 9) (L 10) (L 11) (L 12) (L 13) (L 14)) ?_ ⟨h',rfl⟩;show OpT Tryz.prog o (SEb m row y0 x p n b0 i j hs rows hv y rw0 h' (L 0) (L 1) (L 2) (L 3) (L 4) (L 5) (L 6) (L 7) (L 8) (L 9) (L 10) (L 11) (L 12) (L 13) (L 14)) _;rw[hL];exact hall
 |4,ho,hL=>
  have hall:=Eo4 m row y0 x p n b0 i j hs rows hv y rw0 h' L hin o ho;have g2:L 2=true:=dpq ho 2 OB;have g3:L 3=true:=dpq ho 3 OB;refine OpT.x (σ':=SEb m row y0 x p n b0 i j hs rows hv y rw0 h' (L 0) (L 1) (L 2) (L 3) true (L 5) (L 6) (L 7) (L 8) (L 9) (L 10) (L 11) (L 12) (L 13) (L 14)) ?_ ⟨h',rfl⟩;show OpT Tryz.prog o (SEb m row y0 x p n b0 i j hs rows hv y rw0 h' (L 0) (L 1) (L 2) (L 3) (L 4) (L 5) (L 6) (L 7) (L 8) (L 9) (L 10) (L 11) (L 12) (L 13) (L 14)) _;rw[hL,g2,g3];exact hall
 |5,ho,hL=>
  have hall:=Eo5 m row y0 x p n b0 i j hs rows hv y rw0 h' L hh o ho;have g4:L 4=true:=dpq ho 4 OB;have g12:L 12=false:=by
   cases h:L 12 with
   |false=>rfl
   |true=>have:=cl 12 5 OB (h);rw[hL]at this;cases this
  have g14:L 14=false:=by
   cases h:L 14 with
   |false=>rfl
   |true=>have:=cl 12 5 OB (cl 14 12 OB (h));rw[hL]at this;cases this
  refine OpT.x (σ':=SEb m row y0 x p n b0 i j hs rows hv y rw0 h' (L 0) (L 1) (L 2) (L 3) (L 4) true (L 6) (L 7) (L 8) (L 9) (L 10) (L 11) (L 12) (L 13) (L 14)) ?_ ⟨h',rfl⟩;show OpT Tryz.prog o (SEb m row y0 x p n b0 i j hs rows hv y rw0 h' (L 0) (L 1) (L 2) (L 3) (L 4) (L 5) (L 6) (L 7) (L 8) (L 9) (L 10) (L 11) (L 12) (L 13) (L 14)) _;rw[hL,g4,g12,g14];exact hall
 |6,ho,hL=>
  have hall:=Eo6 m row y0 x p n b0 i j hs rows hv y rw0 h' L o ho;refine OpT.x (σ':=SEb m row y0 x p n b0 i j hs rows hv y rw0 h' (L 0) (L 1) (L 2) (L 3) (L 4) (L 5) true (L 7) (L 8) (L 9) (L 10) (L 11) (L 12) (L 13) (L 14)) ?_ ⟨h',rfl⟩;show OpT Tryz.prog o (SEb m row y0 x p n b0 i j hs rows hv y rw0 h' (L 0) (L 1) (L 2) (L 3) (L 4) (L 5) (L 6) (L 7) (L 8) (L 9) (L 10) (L 11) (L 12) (L 13) (L 14)) _;rw[hL];exact hall
 |7,ho,hL=>
  have hall:=Eo7 m row y0 x p n b0 i j hs rows hv y rw0 h' L o ho;refine OpT.x (σ':=SEb m row y0 x p n b0 i j hs rows hv y rw0 h' (L 0) (L 1) (L 2) (L 3) (L 4) (L 5) (L 6) true (L 8) (L 9) (L 10) (L 11) (L 12) (L 13) (L 14)) ?_ ⟨h',rfl⟩;show OpT Tryz.prog o (SEb m row y0 x p n b0 i j hs rows hv y rw0 h' (L 0) (L 1) (L 2) (L 3) (L 4) (L 5) (L 6) (L 7) (L 8) (L 9) (L 10) (L 11) (L 12) (L 13) (L 14)) _;rw[hL];exact hall
 |8,ho,hL=>
  have hall:=Eo8 m row y0 x p n b0 i j hs rows hv y rw0 h' L o ho;refine OpT.x (σ':=SEb m row y0 x p n b0 i j hs rows hv y rw0 h' (L 0) (L 1) (L 2) (L 3) (L 4) (L 5) (L 6) (L 7) true (L 9) (L 10) (L 11) (L 12) (L 13) (L 14)) ?_ ⟨h',rfl⟩;show OpT Tryz.prog o (SEb m row y0 x p n b0 i j hs rows hv y rw0 h' (L 0) (L 1) (L 2) (L 3) (L 4) (L 5) (L 6) (L 7) (L 8) (L 9) (L 10) (L 11) (L 12) (L 13) (L 14)) _;rw[hL];exact hall
 |9,ho,hL=>
  have hall:=Eo9 m row y0 x p n b0 i j hs rows hv y rw0 h' L o ho;refine OpT.x (σ':=SEb m row y0 x p n b0 i j hs rows hv y rw0 h' (L 0) (L 1) (L 2) (L 3) (L 4) (L 5) (L 6) (L 7) (L 8) true (L 10) (L 11) (L 12) (L 13) (L 14)) ?_ ⟨h',rfl⟩;show OpT Tryz.prog o (SEb m row y0 x p n b0 i j hs rows hv y rw0 h' (L 0) (L 1) (L 2) (L 3) (L 4) (L 5) (L 6) (L 7) (L 8) (L 9) (L 10) (L 11) (L 12) (L 13) (L 14)) _;rw[hL];exact hall
 |10,ho,hL=>
  have hall:=Eo10 m row y0 x p n b0 i j hs rows hv y rw0 h' L hc o ho;have g6:L 6=true:=dpq ho 6 OB;have g7:L 7=true:=dpq ho 7 OB;have g8:L 8=true:=dpq ho 8 OB;have g9:L 9=true:=dpq ho 9 OB;have g12:L 12=false:=by
   cases h:L 12 with
   |false=>rfl
   |true=>have:=cl 11 10 OB (cl 12 11 OB (h));rw[hL]at this;cases this
  have g14:L 14=false:=by
   cases h:L 14 with
   |false=>rfl
   |true=>have:=cl 11 10 OB (cl 12 11 OB (cl 14 12 OB (h)));rw[hL]at this;cases this
  refine OpT.x (σ':=SEb m row y0 x p n b0 i j hs rows hv y rw0 h' (L 0) (L 1) (L 2) (L 3) (L 4) (L 5) (L 6) (L 7) (L 8) (L 9) true (L 11) (L 12) (L 13) (L 14)) ?_ ⟨h',rfl⟩;show OpT Tryz.prog o (SEb m row y0 x p n b0 i j hs rows hv y rw0 h' (L 0) (L 1) (L 2) (L 3) (L 4) (L 5) (L 6) (L 7) (L 8) (L 9) (L 10) (L 11) (L 12) (L 13) (L 14)) _;rw[hL,g6,g7,g8,g9,g12,g14];exact hall
 |11,ho,hL=>
  have hall:=Eo11 m row y0 x p n b0 i j hs rows hv y rw0 h' L o ho;have g10:L 10=true:=dpq ho 10 OB;refine OpT.x (σ':=SEb m row y0 x p n b0 i j hs rows hv y rw0 h' (L 0) (L 1) (L 2) (L 3) (L 4) (L 5) (L 6) (L 7) (L 8) (L 9) (L 10) true (L 12) (L 13) (L 14)) ?_ ⟨h',rfl⟩;show OpT Tryz.prog o (SEb m row y0 x p n b0 i j hs rows hv y rw0 h' (L 0) (L 1) (L 2) (L 3) (L 4) (L 5) (L 6) (L 7) (L 8) (L 9) (L 10) (L 11) (L 12) (L 13) (L 14)) _;rw[hL,g10];exact hall
 |12,ho,hL=>
  have hall:=Eo12 m row y0 x p n b0 i j hs rows hv y rw0 h' L hh hr hlr o ho;have g5:L 5=true:=dpq ho 5 OB;have g11:L 11=true:=dpq ho 11 OB;have g14:L 14=false:=by
   cases h:L 14 with
   |false=>rfl
   |true=>have:=cl 14 12 OB (h);rw[hL]at this;cases this
  show OpX Tryz.prog o (SEb m row y0 x p n b0 i j hs rows hv y rw0 h' (L 0) (L 1) (L 2) (L 3) (L 4) (L 5) (L 6) (L 7) (L 8) (L 9) (L 10) (L 11) (L 12) (L 13) (L 14)) (fun Q=>∃h'',Q=SEb m row y0 x p n b0 i j hs rows hv y rw0 h'' (L 0) (L 1) (L 2) (L 3) (L 4) (L 5) (L 6) (L 7) (L 8) (L 9) (L 10) (L 11) true (L 13) (L 14));rw[hL,g5,g11,g14];exact hall
 |13,ho,hL=>
  have hall:=Eo13 m row y0 x p n b0 i j hs rows hv y rw0 h' L hin o ho;have g0:L 0=true:=dpq ho 0 OB;have g1:L 1=true:=dpq ho 1 OB;refine OpT.x (σ':=SEb m row y0 x p n b0 i j hs rows hv y rw0 h' (L 0) (L 1) (L 2) (L 3) (L 4) (L 5) (L 6) (L 7) (L 8) (L 9) (L 10) (L 11) (L 12) true (L 14)) ?_ ⟨h',rfl⟩;show OpT Tryz.prog o (SEb m row y0 x p n b0 i j hs rows hv y rw0 h' (L 0) (L 1) (L 2) (L 3) (L 4) (L 5) (L 6) (L 7) (L 8) (L 9) (L 10) (L 11) (L 12) (L 13) (L 14)) _;rw[hL,g0,g1];exact hall
 |14,ho,hL=>
  have hall:=Eo14 m row y0 x p n b0 i j hs rows hv y rw0 h' L hi o ho;have g13:L 13=true:=dpq ho 13 OB;have g12:L 12=true:=dpq ho 12 OB;refine OpT.x (σ':=SEb m row y0 x p n b0 i j hs rows hv y rw0 h' (L 0) (L 1) (L 2) (L 3) (L 4) (L 5) (L 6) (L 7) (L 8) (L 9) (L 10) (L 11) (L 12) (L 13) true) ?_ ⟨h',rfl⟩;show OpT Tryz.prog o (SEb m row y0 x p n b0 i j hs rows hv y rw0 h' (L 0) (L 1) (L 2) (L 3) (L 4) (L 5) (L 6) (L 7) (L 8) (L 9) (L 10) (L 11) (L 12) (L 13) (L 14)) _;rw[hL,g13,g12];exact hall
 |q+15,ho,_=>
  have hs:oE.size=15:=Z;have:=(Array.getElem?_eq_some_iff.1 ho).1;omega
end
theorem qg7(x:Iv)(p:Int){F:Nat->Nat->Iv->Iv}{m:Mx}(hF:CE x p F m)(hl:m.length<=100)(h8:∀r∈m,r.length<=100):
 SemOK Tryz.prog TN Tryz.f203.results.toList [] (.sl .vs (xt F m)) (HE0 x p) (zev 1 zy8) ⟨[.sl .vs m,.fn 204 [.ptr 1000003 0,.ptr 1000004 0],.any,.any,.nilsl]++jr 39,fr5++HE0 x p⟩:=by
 obtain⟨G,hG⟩:∃G,xt F m=G:=⟨_,rfl⟩;have hGl:G.length=m.length:=by rw[<-hG];unfold xt;rw[qH]
 have hGi:∀(i:Nat)(row:List Iv),m[i]? =some row->G[i]? =some (row.mapIdx fun j x=>F i j x):=fun i row h=>by
  rw[<-hG];exact zu9 h
 rw[hG];refine zdx hTN hmx [8] yq (E:=23) (e:=28) (k:=.iv) (kk:=.vs) (fun r=>r) (fun _=>rfl) rfl (cap:=m.length) (fun rows=>rows=G)
  (fun b0=>⟨[.sl .vs m,.fn 204 [.ptr 1000003 0,.ptr 1000004 0],.any,.any,.nilsl,.val (.slice (some ⟨b0,0,none⟩) m.length m.length),.any,.any,.any,.any,.sl .vs m,.int .i64 m.length,.val (.slice (some ⟨b0,0,none⟩) m.length m.length)]++jr 31,fr5++ [(qa,.gst (vu JT 23 28 .iv b0 m.length (qG m.length (.slice none 0 0)) (qG m.length []) none)),(1000003,.cells (ivC x)),(1000004,.cells [.int .i64 p])]⟩)
  (fun b0 hs rows=>⟨[.sl .vs m,.fn 204 [.ptr 1000003 0,.ptr 1000004 0],.any,.any,.val (.slice (some ⟨b0,0,none⟩) m.length m.length)]++jr 39,fr5++ [(qa,.gst (vu JT 23 28 .iv b0 m.length hs rows none)),(1000003,.cells (ivC x)),(1000004,.cells [.int .i64 p])]⟩)
  (fun rows=> [.sl .vs m,.fn 204 [.ptr 1000003 0,.ptr 1000004 0],.any,.any,.sl .vs rows]++jr 39) ?_ (fun b0=>?_) (fun b0 hs rows=>Z) (fun b0 hs rows h=>⟨rfl,?_⟩) (fun b0 hs rows h=>?_)
 .refine zb4 hTN (σa:=⟨[.sl .vs m,.fn 204 [.ptr 1000003 0,.ptr 1000004 0],.any,.any,.nilsl,.any,.any,.any,.any,.any,.sl .vs m,.int .i64 m.length]++jr 32,fr5++HE0 x p⟩) (n:=m.length) (e:=28) (k:=.iv) _ _ (spl 2 rfl) rfl yq rfl rfl rfl rfl rfl Tryz.underlying22 Tryz.type23 rfl rfl OA O _ ?_ (fun b0=>?_)
  .conv=>whnf
   exact rfl
  .conv=>whnf
   exact rfl
 .conv=>whnf
  refine⟨Nat×List Value,fun y=>y.1<=m.length/\y.2.length=m.length,fun y=> [(15,.int .i64 y.1)],fun y=> [(9,.free),(39,.free),(100039,.free),(1500039,.free),(qa,.gst (vu JT 23 28 .iv b0 m.length y.2 (rwA G y.1 0) none))],fun y=>m.length-y.1,(0,qG m.length (.slice none 0 0)),⟨Nat.zero_le _,OC⟩,?_,?_⟩
  ·((conv=>whnf);refine And.intro ?_ ?_;repeat' first|refine lc ?_ ?_|refine lh1 ?_ ?_|refine bc0 ?_|exact KXZ|refine lg0 ?_|refine lt0 ?_)
   exact bg0 (by rw[zdz,hGl])
  rintro⟨i,hs⟩ ⟨hi,hh⟩;have hi:i<=m.length:=hi;have hh:hs.length=m.length:=hh
  (refine⟨Z,?_⟩;(conv=>whnf))
  refine brI (fun c1=>?_) (fun c1=>?_)
  .have c1:i<m.length:=by have:=Z0 c1;omega
   conv=>whnf
   refine⟨⟨O,O⟩,fun(row:List Iv)hr=>?_⟩;have hr:m[i]? =some row:=by simpa using hr
   have hrl:=h8 row (qA hr);have hGr:=hGi i row hr;generalize hg:(row.mapIdx fun j x=>F i j x)=g at hGr;have hgl:g.length=row.length:=by rw[<-hg,qH]
   conv=>whnf
   refine⟨Nat×List Value,fun y=>y.1<=row.length/\y.2.length=m.length,fun y=> [(16,.any),(17,.any),(18,.any),(19,.any),(22,.int .i64 y.1)],fun y=> [(9,.free),(39,.free),(100039,.free),(1500039,.free),(qa,.gst (vu JT 23 28 .iv b0 m.length y.2 (rwA G i y.1) none))],fun y=>row.length-y.1,(0,hs),⟨Nat.zero_le _,hh⟩,?_,?_⟩
   .exact KZ0
   rintro⟨j,hs⟩ ⟨hj,hh⟩;have hj:j<=row.length:=hj;have hh:hs.length=m.length:=hh
   (refine⟨Z,?_⟩;(conv=>whnf))
   refine brI (fun c2=>?_) (fun c2=>?_)
   .have c2:j<row.length:=by have:=Z0 c2;omega
    conv=>whnf
    refine⟨⟨O,O⟩,fun(y0:Iv)hy=>?_⟩;have hy:row[j]? =some y0:=by simpa using hy
    have hgy:g[j]? =some (F i j y0):=by rw[<-hg,qB,hy];rfl
    obtain⟨hv,hhv⟩:∃hv,hs[i]? =some hv:=⟨_,List.getElem?_eq_getElem O⟩;have ha:=zff (j:=j) hGr;have hb:=zg3 hGr hgy;conv=>whnf
    refine zao hmx (SE m row y0 x p m.length b0 i j hs (rwA G i j) hv (F i j y0) (g.take j)) (σ0:=SEb m row y0 x p m.length b0 i j hs (rwA G i j) hv (F i j y0) (g.take j) (.slice none 0 0) false false false false false false false false false false false false false false false) Z ⟨_,rfl⟩ ?_ Z (fun L q o h1 h2 h3 h4=>Estep m row y0 x p m.length b0 i j hs (rwA G i j) hv (F i j y0) (g.take j) L c1 hhv (fun K h5 h6=>hF K h5 h6 i j row y0 hr hy) ha (by rw[List.length_take];omega) O q o h1 h2 h3 h4) ?_
    .exact KZ0
    .rintro Q ⟨h',rfl⟩;conv=>whnf
     refine⟨(j+1,hs.set i h'),⟨c2,by rw[List.length_set];exact hh⟩,by show row.length-(j+1)<row.length-j;omega,?_⟩
     ((conv=>whnf);refine And.intro ?_ ?_;repeat' first|refine lc ?_ ?_|refine lh1 ?_ ?_|refine bc0 ?_|exact KXZ|refine lg0 ?_|refine lt0 ?_)
     .refine ai0 ?_;rw[wI O];show(j:Int)+1=((j+1:Nat):Int);omega
     .refine bg0 ?_;rw[<-hb];rfl
   .conv=>whnf
    have hj2:j=row.length:=by have:=Z1 c2;omega
    have hn:=zd0 hGr;refine⟨(i+1,hs),⟨O,hh⟩,by show m.length-(i+1)<m.length-i;omega,?_⟩
    ((conv=>whnf);refine And.intro ?_ ?_;repeat' first|refine lc ?_ ?_|refine lh1 ?_ ?_|refine bc0 ?_|exact KXZ|refine lg0 ?_|refine lt0 ?_)
    .exact ai0 (by rw[wI O];omega)
    .exact bg0 (by rw[hj2,<-hgl,hn])
  .conv=>whnf
   have hi2:i=m.length:=by have:=Z1 c1;omega
   refine⟨hs,rwA G i 0,by rw[hi2,<-hGl];exact zg4 G,?_⟩;exact KZ0
 .subst h;rw[hGl];exact⟨.inr (.inl rfl),.inr (.inl rfl),.inl rfl,.inl rfl,.inr (.inr ⟨rfl,OC⟩),.inl rfl,za3 _⟩
 .subst h;refine wx hTN hmx ?_;conv=>whnf
  exact⟨lr rfl,lh1 (bg0 rfl) (lh1 (zg rfl rfl) (lh1 (zg rfl rfl) lh0))⟩
theorem n125E(x:Iv)(p:Int){F:Nat->Nat->Iv->Iv}{m:Mx}(hF:CE x p F m)(hl:m.length<=100)(h8:∀r∈m,r.length<=100):Fn 203 (HE0 x p) [.sl .vs m,.fn 204 [.ptr 1000003 0,.ptr 1000004 0]] (.sl .vs (xt F m)) (HE0 x p):=by
 refine qy (code:=zy8) hTN hmx Tryz.func203 rfl rfl (ex:= []) ?_;conv=>whnf
 refine je hTN hmx 1 (fun _:Unit=>⟨[.sl .vs m,.fn 204 [.ptr 1000003 0,.ptr 1000004 0],.any,.any,.nilsl]++jr 39,fr5++HE0 x p⟩) (fun _=>Z) ?_ (fun _=>qg7 x p hF hl h8);conv=>whnf
 refine⟨(),?_⟩;exact KZ0
