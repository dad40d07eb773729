/- lower ends of intervals, corners of matrices. -/
import Derived.Test.YtbolipecnhlnnaaGreatDoorLNk
set_option linter.all false
open List renaming mem_of_getElem?->q0,any_eq_true->q1,drop_of_length_le->q2
namespace Go.Proofs.YtbolipecnhlnnaaGreatDoor
open Go Go.Sx
set_option maxRecDepth 100000
set_option maxHeartbeats 8000000
theorem n136(e:Int)(he: -32768<=e/\e<=32768):Fn 192 [] [.int .i64 e] (.bool true) []:=by
 refine fZM Tryz.func192 rfl rfl ?_;conv=>whnf
 refine brI (fun c=>?_) (fun c=>?_)
 .conv=>whnf
  exact⟨ab0 (Z6 he.2),lh0⟩
 .exact absurd (Z1 c) O
theorem n137{d:Dy}(v:VD d):Fn 193 [] [.agg (dyC d)] (.tup [.agg (dyC d),.int .i64 0]) []:=by
 have h:=qcw d v.lb (by have:=v.len;omega);rw[(jt v.lb).2 v]at h;refine fZM Tryz.func193 rfl rfl ?_;conv=>whnf
 refine gZn h ?_;conv=>whnf
 exact⟨lr rfl,lh0⟩
theorem n94{neg:Bool}{m:List Int}{e:Int}(hb:LB m)(hl:m.length<=256)(he: -32768<=e/\e<=32768)(v:VD (cnN neg (val m) e)):Fn 115 [] [.bool neg,.sl .u32 m,.int .i64 e] (.tup [.agg (dyC (cnN neg (val m) e)),.int .i64 0]) []:=by
 have h1:=n136 e he;have h2:=zxn neg hb O e O;have h3:=n137 v;generalize cnN neg (val m) e=D at*;refine fZM Tryz.func115 rfl rfl ?_;conv=>whnf
 refine brI (fun c=>absurd (Z0 c) O) (fun c=>?_);conv=>whnf
 refine gZn h1 ?_;conv=>whnf
 refine gZn h2 ?_;conv=>whnf
 refine gZn h3 ?_;conv=>whnf
 exact⟨lr rfl,lh0⟩
theorem n47{x:Iv}(k:KI x):Fn 47 [] [.agg (ivC x),.int .i64 20] (.bool (nrB x)) []:=by
 have h1:=n94 (neg:=false) (m:= [1]) (e:=20) (fun y hy=>by simp at hy;subst hy;decide) OA OA (qjd (n:=1) OA OA);have h2:=r307 k;have v1:VD (cnN false (val [1]) 20):=qjd (n:=1) OA OA;have h3:=zxo (zwd k) v1;have e:nrB x=decide (qh (zbn x) (cnN false (val [1]) 20)<=0):=rfl;rw[e];generalize qh (zbn x) (cnN false (val [1]) 20)=c at*;generalize zbn x=M at*;generalize cnN false (val [1]) 20=D at*;clear v1 e k;refine fZM Tryz.func47 rfl rfl ?_;conv=>whnf
 refine gZn h1 ?_;conv=>whnf
 refine gZn h2 ?_;conv=>whnf
 refine gZn h3 ?_
 (refine⟨Z,Z,?_⟩;(conv=>whnf))
 exact⟨lr rfl,lh0⟩
theorem n46{x:Iv}(k:KI x):Fn 46 [] [.agg (ivC x)] (.bool (zal x)) []:=by
 have h1:=n47 k;have e:zal x=(decide (3<x.lo.m.length)||decide (3<x.hi.m.length)||decide (x.lo.e< -80)||decide (x.hi.e< -80)|| !nrB x):=rfl;rw[e];generalize nrB x=b at*;clear k e;obtain⟨⟨s,l,f⟩,⟨u,m,g⟩,al⟩:=x;simp only;refine fZM Tryz.func46 rfl rfl ?_;conv=>whnf
 refine brI (fun c1=>?_) (fun c1=>?_)
 .have c1:(l.length:Int)>3:=Z0 c1;conv=>whnf
  exact⟨ab0 (by rw[Z6 (O:3<l.length)];rfl),lh0⟩
 have c1:¬(l.length:Int)>3:=Z1 c1;rw[Z7 (O:¬3<l.length)];conv=>whnf
 refine brI (fun c2=>?_) (fun c2=>?_)
 .have c2:(m.length:Int)>3:=Z0 c2;conv=>whnf
  exact⟨ab0 (by rw[Z6 (O:3<m.length)];rfl),lh0⟩
 have c2:¬(m.length:Int)>3:=Z1 c2;rw[Z7 (O:¬3<m.length)];conv=>whnf
 refine brI (fun c3=>?_) (fun c3=>?_)
 .have c3:f< -80:=Z0 c3;conv=>whnf
  exact⟨ab0 (by rw[Z6 c3];rfl),lh0⟩
 have c3:¬f< -80:=Z1 c3;rw[Z7 c3];conv=>whnf
 refine brI (fun c4=>?_) (fun c4=>?_)
 .have c4:g< -80:=Z0 c4;conv=>whnf
  exact⟨ab0 (by rw[Z6 c4];rfl),lh0⟩
 have c4:¬g< -80:=Z1 c4;rw[Z7 c4];conv=>whnf
 refine gZn h1 ?_;conv=>whnf
 exact⟨ab0 (by cases b<;>rfl),lh0⟩
abbrev Hsm:Hp:= [(1000003,.cells [.fn 46 []])]
theorem zyh{h h':Hp}:leH h h' Hsm Hsm:=lh1 (bc0 (lc (lr rfl) ln0)) lh0
theorem nsi(l:List Iv)(hl:∀x∈l,KI x)(hlen:l.length<9223372036854775808):Fn 118 [] [.sl .iv l,.fn 46 []] (.int .i64 (ixP zal l 0)) []:=by
 refine fZN Tryz.func118 rfl rfl ?_;conv=>whnf
 refine⟨Nat,fun i=>i<=l.length/\ixP zal (l.drop i) i=ixP zal l 0,fun i=> [(8,.int .i64 i)],fun _=> [],fun i=>l.length-i,0,⟨OC,rfl⟩,?_,fun i hi=>?_⟩
 .exact KZ0
 (refine⟨Z,?_⟩;(conv=>whnf))
 obtain⟨hi1,hi2⟩:=hi;refine brI (fun h1=>?_) (fun h1=>?_)
 .conv=>whnf
  have hi:i<l.length:=by simp only[Z2]at h1;omega
  refine⟨⟨O,O⟩,fun(x:Iv)hx=>?_⟩;have hx:l[i]? =some x:=by simpa using hx
  have hm:=q0 hx;rw[zu hx]at hi2;simp only[ixP]at hi2;conv=>whnf
  refine cbI [] (zal x) (n46 (hl x hm)) (fun h2=>?_) (fun h2=>?_)
  .conv=>whnf
   rw[Z4 h2]at hi2;exact⟨ai0 hi2,lh0⟩
  .conv=>whnf
   rw[Z5 (by rw[h2];simp)]at hi2;refine⟨i+1,⟨O,hi2⟩,by show l.length-(i+1)<l.length-i;omega,?_⟩;exact KZ0
 .conv=>whnf
  have hi:¬i<l.length:=by simp only[Z3]at h1;omega
  rw[q2 O]at hi2;exact⟨ai0 hi2,lh0⟩
theorem ns(l:List Iv)(hl:∀x∈l,KI x)(hlen:l.length<9223372036854775808):Fn 50 [] [.sl .iv l,.fn 46 []] (.bool (l.any zal)) []:=by
 refine fZN Tryz.func50 rfl rfl ?_;conv=>whnf
 refine gZn (nsi l hl hlen) ?_;conv=>whnf
 exact⟨ab0 (by rw[Bool.eq_iff_iff,Z2];exact zb9 zal l 0),lh0⟩
def rwL(r:List Iv):Bool:=r.any zal
theorem n48(r:List Iv)(hr:∀x∈r,KI x)(hl:r.length<9223372036854775808):Fn 49 Hsm [.sl .iv r,.ptr 1000003 0] (.bool (rwL r)) Hsm:=by
 have h:=ns r hr hl;unfold rwL;generalize r.any zal=b at*;refine fZM Tryz.func49 rfl rfl ?_;conv=>whnf
 refine gZn h ?_;conv=>whnf
 exact⟨lr rfl,zyh⟩
theorem nti(l:List (List Iv))(hl:∀x∈l,(∀y∈x,KI y)/\x.length<9223372036854775808)(hlen:l.length<9223372036854775808):Fn 117 Hsm [.sl .vs l,.fn 49 [.ptr 1000003 0]] (.int .i64 (ixP rwL l 0)) Hsm:=by
 refine fZN Tryz.func117 rfl rfl ?_;conv=>whnf
 refine⟨Nat,fun i=>i<=l.length/\ixP rwL (l.drop i) i=ixP rwL l 0,fun i=> [(8,.int .i64 i)],fun _=> [],fun i=>l.length-i,0,⟨OC,rfl⟩,?_,fun i hi=>?_⟩
 .exact KZ0
 (refine⟨Z,?_⟩;(conv=>whnf))
 obtain⟨hi1,hi2⟩:=hi;refine brI (fun h1=>?_) (fun h1=>?_)
 .conv=>whnf
  have hi:i<l.length:=by simp only[Z2]at h1;omega
  refine⟨⟨O,O⟩,fun(x:(List Iv))hx=>?_⟩;have hx:l[i]? =some x:=by simpa using hx
  have hm:=q0 hx;rw[zu hx]at hi2;simp only[ixP]at hi2;conv=>whnf
  refine cbI [.cells [.fn 46 []]] (rwL x) (n48 x (hl x hm).1 (hl x hm).2) (fun h2=>?_) (fun h2=>?_)
  .conv=>whnf
   rw[Z4 h2]at hi2;exact⟨ai0 hi2,zyh⟩
  .conv=>whnf
   rw[Z5 (by rw[h2];simp)]at hi2;refine⟨i+1,⟨O,hi2⟩,by show l.length-(i+1)<l.length-i;omega,?_⟩;exact KZ0
 .conv=>whnf
  have hi:¬i<l.length:=by simp only[Z3]at h1;omega
  rw[q2 O]at hi2;exact⟨ai0 hi2,zyh⟩
theorem nt(l:List (List Iv))(hl:∀x∈l,(∀y∈x,KI y)/\x.length<9223372036854775808)(hlen:l.length<9223372036854775808):Fn 48 Hsm [.sl .vs l,.fn 49 [.ptr 1000003 0]] (.bool (l.any rwL)) Hsm:=by
 refine fZN Tryz.func48 rfl rfl ?_;conv=>whnf
 refine⟨[.cells [.fn 46 []]],_,nti l hl hlen,?_⟩;conv=>whnf
 exact⟨ab0 (by rw[Bool.eq_iff_iff,Z2];exact zb9 rwL l 0),zyh⟩
theorem n50{a:Mx}{n:Nat}(hn:n<=3)(va:VM n n a)(hk:∀r∈a,∀x∈r,KI x/\zal x=false){t:Iv}(kt:KI t)(ht:zal t=false):Fn 53 [] [.sl .vs a,.agg (ivC t)] (.agg (dyC (cnN false (szM a a.length*zak t) (-160)))) []:=by
 have hal:=va.len;have hm:∀r∈a,r.length<=3/\∀x∈r,zak x<=2^100:=fun r hr=>⟨by rw[va.row r hr];exact hn,fun x hx=>(zaz (hk r hr x hx).1 (hk r hr x hx).2).2⟩
 have hsz:∀i,szM a i<2^110:=fun i=>by have:=zsf hm i;omega
 have hrs:∀r∈a,∀j,j<=3->rwS r j<2^110:=fun r hr j hj=>by
  have h1:=zs8 (hm r hr).2 j;have:j*2^100<=3*2^100:=Nat.mul_le_mul_right _ hj;omega
 have hv:∀N:Nat,N<2^110->VD (cnN false N (-80)):=fun N h=>qjd O OA
 have htm:=(zaz kt ht).1;have htl:=(zaz kt ht).2;have cT:=r307 kt;rw[htm]at cT;have cP:=r301 (hv (szM a a.length) (hsz _)) (hv (zak t) O);rw[prd_c]at cP;have cP:Fn 123 [] [.agg (dyC (cnN false (szM a a.length) (-80))),.agg (dyC (cnN false (zak t) (-80)))] (.agg (dyC (cnN false (szM a a.length*zak t) (-160)))) []:=cP;generalize cnN false (szM a a.length*zak t) (-160)=P at*;generalize cnN false (zak t) (-80)=T at*;clear htm htl kt ht;refine fZM Tryz.func53 rfl rfl ?_;conv=>whnf
 refine⟨Nat,fun i=>i<=a.length,fun i=> [(6,.int .i64 i)],fun i=> [(5,.cells (dyC (cnN false (szM a i) (-80)))),(7,.free)],fun i=>a.length-i,0,Nat.zero_le _,?_,fun i hi=>?_⟩
 .exact KZ0
 (refine⟨Z,?_⟩;(conv=>whnf))
 refine brI (fun c=>?_) (fun c=>?_)
 .have c:i<a.length:=by have:=Z0 c;omega
  obtain⟨row,hr⟩:∃r,a[i]? =some r:=⟨_,List.getElem?_eq_getElem c⟩;have hrm:=q0 hr;have hrl:=va.row row hrm;have hS:=zwy hr;conv=>whnf
  refine⟨Nat,fun j=>j<=row.length,fun j=> [(8,.int .i64 j)],fun j=> [(7,.cells (dyC (cnN false (rwS row j) (-80))))],fun j=>row.length-j,0,Nat.zero_le _,?_,fun j hj=>?_⟩
  .exact KZ0
  (refine⟨Z,?_⟩;(conv=>whnf))
  refine brI (fun c2=>?_) (fun c2=>?_)
  .have c2:j<row.length:=by have:=Z0 c2;omega
   conv=>whnf
   refine⟨⟨O,O⟩,fun(x:List Iv)hx=>?_⟩;obtain rfl:row=x:=by
    have hx:a[i]? =some x:=by simpa using hx
    rw[hr]at hx;exact Option.some.inj hx
   conv=>whnf
   refine⟨⟨O,O⟩,fun(y:Iv)hy=>?_⟩;have hy:row[j]? =some y:=by simpa using hy
   have hyk:=hk row hrm y (q0 hy);have c95:=r307 hyk.1;rw[(zaz hyk.1 hyk.2).1]at c95;have c98:=r253 (hv (rwS row j) (hrs row hrm j O)) (hv (zak y) (by have:=(zaz hyk.1 hyk.2).2;omega));rw[sum_c,<-zq8 hy]at c98;conv=>whnf
   refine gZn c95 ?_;conv=>whnf
   refine gZn c98 ?_
   (refine⟨Z,Z,?_⟩;(conv=>whnf))
   refine⟨j+1,c2,by show row.length-(j+1)<row.length-j;omega,?_⟩;exact KZ0
  .have c2:j=row.length:=by have:=Z1 c2;omega
   subst c2;have c49:=zxo (hv (rwS row row.length) (hrs row hrm _ O)) (hv (szM a i) (hsz i));have hcm:=cmp_c (n:=rwS row row.length) (m:=szM a i) (e:= -80);conv=>whnf
   refine gZn c49 ?_;conv=>whnf
   refine brI (fun c3=>?_) (fun c3=>?_)
   .have c3:=hcm.1 (Z0 c3);rw[(O:max (szM a i) (rwS row row.length)=rwS row row.length)]at hS;conv=>whnf
    rw[<-hS];refine⟨i+1,c,by show a.length-(i+1)<a.length-i;omega,?_⟩;exact KZ0
   .have c3:¬szM a i<rwS row row.length:=fun h=>(Z1 c3) (hcm.2 h)
    rw[(O:max (szM a i) (rwS row row.length)=szM a i)]at hS;conv=>whnf
    rw[<-hS];refine⟨i+1,c,by show a.length-(i+1)<a.length-i;omega,?_⟩;exact KZ0
 .have c:i=a.length:=by
   have hi:i<=a.length:=hi;have:=Z1 c;omega
  subst c;conv=>whnf
  refine gZn cT ?_;conv=>whnf
  refine gZn cP ?_
  (refine⟨Z,Z,?_⟩;(conv=>whnf))
  exact⟨lr rfl,lh0⟩
theorem qbh{a:Mx}(ha:RX a){t:Iv}(ht:RI t){p:Int}(h:zjt a t p=true):∀r∈a,∀x∈r,KI x:=fun r hr x hx=>by
 obtain⟨n,va,_,_⟩:=zjs ha ht h;refine(xi (va.el r hr x hx)).1 ?_;unfold zjt at h;simp only[Bool.and_eq_true]at h;have h5:=h.2
 cases hb:x.all with
 |false=>rfl
 |true=>
  have:(a.any fun r=>r.any fun x=>x.all)=true:=q1.2 ⟨r,hr,q1.2 ⟨x,hx,hb⟩⟩;rw[this]at h5;cases h5
theorem qen{l:List Iv}(hr:∀x∈l,RI x)(h:bvB l=true):(l.length<=8)/\∀x∈l,KI x:=by
 unfold bvB at h;simp only[Bool.and_eq_true,Z2]at h;obtain⟨h1,h2⟩:=h;refine⟨h1.2,fun x hx=>?_⟩;have hb:(x.all|| !viB x)=false:=by
  cases hb:(x.all|| !viB x)with
  |false=>rfl
  |true=>
   have:(l.any fun x=>x.all|| !viB x)=true:=q1.2 ⟨x,hx,hb⟩;rw[this]at h2;cases h2
 rw[Bool.or_eq_false_iff]at hb;exact(xi ((wu (hr x hx)).1 (by simpa using hb.2))).1 hb.1
theorem n18(a:Mx)(ha:RX a)(t:Iv)(ht:RI t)(ls:List (List Iv))(hls:∀l∈ls,(∀x∈l,RI x)/\l.length<9223372036854775808)(hlen:ls.length<9223372036854775808):Fn 10 [] [.sl .vs a,.agg (ivC t),.sl .vs ls] (.bool (znw a t ls)) []:=by
 have hal:=ha.len;by_cases h1:a.length<=3
 .have c12:=n12 a ha t ht 24
  cases h2:zjt a t 24 with
  |false=>
   rw[h2]at c12;have e:znw a t ls=false:=by unfold znw;rw[h2];simp
   rw[e];refine fZM Tryz.func10 rfl rfl ?_;conv=>whnf
   refine brI (fun c=>absurd (Z0 c) O) (fun c=>?_);conv=>whnf
   refine gZn c12 ?_;conv=>whnf
   exact⟨lr rfl,lh0⟩
  |true=>
  rw[h2]at c12;obtain⟨n,va,kt,_⟩:=zjs ha ht h2;have hel:=qbh ha ht h2;have c46:=n46 kt
  cases h3:zal t with
  |true=>
   rw[h3]at c46;have e:znw a t ls=false:=by unfold znw;rw[h3];simp
   rw[e];refine fZM Tryz.func10 rfl rfl ?_;conv=>whnf
   refine brI (fun c=>absurd (Z0 c) O) (fun c=>?_);conv=>whnf
   refine gZn c12 ?_;conv=>whnf
   refine gZn c46 ?_;conv=>whnf
   exact⟨lr rfl,lh0⟩
  |false=>
  rw[h3]at c46;have c9:Fn 48 Hsm [.sl .vs a,.fn 49 [.ptr 1000003 0]] (.bool (a.any fun r=>r.any zal)) Hsm:=nt a (fun r hr=>⟨hel r hr,by rw[va.row r hr,<-va.len];omega⟩) hal
  cases h4:a.any fun r=>r.any zal with
  |true=>
   rw[h4]at c9;have e:znw a t ls=false:=by unfold znw;rw[h4];simp
   rw[e];refine fZM Tryz.func10 rfl rfl ?_;conv=>whnf
   refine brI (fun c=>absurd (Z0 c) O) (fun c=>?_);conv=>whnf
   refine gZn c12 ?_;conv=>whnf
   refine gZn c46 ?_;conv=>whnf
   refine⟨[.cells [.fn 46 []]],_,c9.sw [(7,1000003)] rfl,?_⟩;conv=>whnf
   exact⟨lr rfl,lh0⟩
  |false=>
  rw[h4]at c9;have hla:∀r∈a,∀x∈r,zal x=false:=fun r hr x hx=>by
   cases hb:zal x with
   |false=>rfl
   |true=>
    have:(a.any fun r=>r.any zal)=true:=q1.2 ⟨r,hr,q1.2 ⟨x,hx,hb⟩⟩;rw[h4]at this;cases this
  have c50:=n50 (n:=n) (by rw[<-va.len];exact h1) va (fun r hr x hx=>⟨hel r hr x hx,hla r hr x hx⟩) kt h3;have hm:∀r∈a,r.length<=3/\∀x∈r,zak x<=2^100:=fun r hr=>⟨by rw[va.row r hr,<-va.len];exact h1,fun x hx=>(zaz (hel r hr x hx) (hla r hr x hx)).2⟩
  have vP:VD (cnN false (szM a a.length*zak t) (-160)):=qjd (by
   have h5:=zsf hm a.length;have h6:=(zaz kt h3).2;have h7:=Nat.mul_le_mul h5 h6;omega) OA
  have c51:=r262 16 OA;have c49:=zxo vP (zjy 16 OA);have e:znw a t ls=(ls.all (fun l=>bvB l&&(decide (l.length=a.length)&& !(l.any zal)))&&decide (qh (cnN false (szM a a.length*zak t) (-160)) (zcb 16)<=0)):=by
   unfold znw;rw[h2,h3,h4,Z6 h1];rfl
  rw[e];generalize qh (cnN false (szM a a.length*zak t) (-160)) (zcb 16)=C at*;generalize cnN false (szM a a.length*zak t) (-160)=Q at*;generalize zcb 16=D at*;generalize hP:(fun l:List Iv=>bvB l&&(decide (l.length=a.length)&& !(l.any zal)))=P at*;have hP':∀l,P l=(bvB l&&(decide (l.length=a.length)&& !(l.any zal))):=fun l=>by rw[<-hP]
  clear hP e vP hm hla;refine fZM Tryz.func10 rfl rfl ?_;conv=>whnf
  refine brI (fun c=>absurd (Z0 c) O) (fun c=>?_);conv=>whnf
  refine gZn c12 ?_;conv=>whnf
  refine gZn c46 ?_;conv=>whnf
  refine⟨[.cells [.fn 46 []]],_,c9.sw [(7,1000003)] rfl,?_⟩;conv=>whnf
  refine⟨Nat,fun i=>i<=ls.length/\ls.all P=(ls.drop i).all P,fun i=> [(29,.int .i64 i)],fun i=> [],fun i=>ls.length-i,0,⟨Nat.zero_le _,rfl⟩,?_,fun i hi=>?_⟩
  .exact KZ0
  obtain⟨hi,he⟩:=hi
  (refine⟨Z,?_⟩;(conv=>whnf))
  refine brI (fun d=>?_) (fun d=>?_)
  .have d:i<ls.length:=by have:=Z0 d;omega
   conv=>whnf
   refine⟨⟨O,O⟩,fun(l:List Iv)hl=>?_⟩;have hl:ls[i]? =some l:=by simpa using hl
   obtain⟨g1,g2⟩:=hls l (q0 hl);have c17:=n17 l g1 g2;rw[zu hl,List.all_cons,hP']at he;conv=>whnf
   cases k1:bvB l with
   |false=>
    rw[k1]at c17 he;refine gZn c17 ?_;conv=>whnf
    exact⟨ab0 (by rw[he];rfl),lh0⟩
   |true=>
   rw[k1]at c17 he;refine gZn c17 ?_;conv=>whnf
   obtain⟨g3,g4⟩:=qen g1 k1;have c11:=ns l g4 O;refine brI (fun k2=>?_) (fun k2=>?_)
   .have k2:l.length≠a.length:=by
     have k2:((l.length:Int) != (a.length:Int))=true:=k2;simp at k2;omega
    rw[Z7 k2]at he;conv=>whnf
    exact⟨ab0 (by rw[he];rfl),lh0⟩
   have k2:l.length=a.length:=by
    have k2:((l.length:Int) != (a.length:Int))=false:=k2;simp at k2;omega
   rw[Z6 k2]at he;conv=>whnf
   cases k3:l.any zal with
   |true=>
    rw[k3]at c11 he;refine gZn c11 ?_;conv=>whnf
    exact⟨ab0 (by rw[he];rfl),lh0⟩
   |false=>
   rw[k3]at c11 he;refine gZn c11 ?_;conv=>whnf
   refine⟨i+1,⟨d,by rw[he];rfl⟩,by show ls.length-(i+1)<ls.length-i;omega,?_⟩;exact KZ0
  .have d:=Z1 d;rw[q2 O]at he;conv=>whnf
   refine gZn c50 ?_;conv=>whnf
   refine gZn c51 ?_;conv=>whnf
   refine gZn c49 ?_;conv=>whnf
   exact⟨ab0 (by rw[he];rfl),lh0⟩
 .have e:znw a t ls=false:=by unfold znw;rw[Z7 h1];rfl
  rw[e];refine fZM Tryz.func10 rfl rfl ?_;conv=>whnf
  refine brI (fun c=>?_) (fun c=>absurd (Z1 c) O);conv=>whnf
  exact⟨lr rfl,lh0⟩
