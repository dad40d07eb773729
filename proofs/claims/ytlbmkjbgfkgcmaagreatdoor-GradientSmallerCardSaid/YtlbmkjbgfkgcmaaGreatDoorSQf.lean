/- Law 20: equal lists, short lists, few operations, the examples' numbers. -/
import Derived.Test.YtlbmkjbgfkgcmaaGreatDoorSQe
set_option linter.all false
open Bool renaming false_and->q3,true_and->qA,and_eq_true->qB,eq_iff_iff->qG,false_or->qH,true_or->qI
open List renaming mem_of_getElem?->q0,drop_of_length_le->q1,mem_map->q2,mem_singleton->q9,take_of_length_le->qC,range->qD,take_add_one->qE,length_take->qF
namespace Go.Proofs.YtlbmkjbgfkgcmaaGreatDoor
open Go Go.Sx
set_option maxRecDepth 100000
set_option maxHeartbeats 8000000
def eqL{α:Type}(P:α->α->Bool):List α->List α->Bool
 | [],[]=>true
 |x::a,y::b=>P x y&&eqL P a b
 | _,_=>false
theorem zmy{α:Type}{P:α->α->Bool}:∀ {a b:List α},a.length≠b.length->eqL P a b=false
 | [],[],h=>absurd rfl h
 |x::a,y::b,h=>by
  unfold eqL;rw[zmy (a:=a) (b:=b) (fun e=>h (by simp[e])),Bool.and_false]
 | [],_::_,_=>rfl
 | _::_,[],_=>rfl
theorem efG{g:Nat}{P:Iv->Iv->Bool}(a b:List Iv)(ha:a.length<9223372036854775808)(hb:b.length<9223372036854775808)(hg:∀x∈a,∀y∈b,Fn g [] [.agg (ivC x),.agg (ivC y)] (.bool (P x y)) []):
 Fn 23 [] [.sl .iv a,.sl .iv b,.fn g []] (.bool (eqL P a b)) []:=by
 by_cases hl:a.length=b.length
 rotate_left
 .rw[zmy hl];refine fnT hTE hmx Tryz.func23 rfl rfl (ex:= []) ?_;conv=>whnf
  refine brI (fun _=>?_) (fun c=>?_)
  .conv=>whnf
   exact⟨lr rfl,lh0⟩
  .have c:((a.length:Int) != (b.length:Int))=false:=c;exact absurd (by have e:(a.length:Int)=b.length:=(by simpa using c);omega) hl
 refine fnT hTE hmx Tryz.func23 rfl rfl (ex:= []) ?_;conv=>whnf
 refine brI (fun c=>?_) (fun _=>?_)
 .have c:((a.length:Int) != (b.length:Int))=true:=c;rw[hl]at c;simp at c
 conv=>whnf
 refine⟨Nat,fun i=>i<=a.length/\eqL P (a.drop i) (b.drop i)=eqL P a b,fun i=> [(17,.int .i64 i)],fun _=> [],fun i=>a.length-i,0,⟨OC,rfl⟩,?_,fun i hi=>?_⟩
 .exact KZ0
 refine gYe ?_;obtain⟨hi1,hi2⟩:=hi;refine brI (fun h1=>?_) (fun h1=>?_)
 .have hi:i<a.length:=by have:=Z0 h1;omega
  conv=>whnf
  refine⟨⟨O,O⟩,fun(x:Iv)hx=>?_⟩;have hx:a[i]? =some x:=by simpa using hx
  conv=>whnf
  refine⟨⟨O,O⟩,fun(y:Iv)hy=>?_⟩;have hy:b[i]? =some y:=by simpa using hy
  have hc:=hg x (q0 hx) y (q0 hy);rw[qf hx,qf hy]at hi2;simp only[eqL]at hi2;conv=>whnf
  refine cbI [] (P x y) hc (fun h2=>?_) (fun h2=>?_)
  .conv=>whnf
   rw[h2,qA]at hi2;refine⟨i+1,⟨O,hi2⟩,by show a.length-(i+1)<a.length-i;omega,?_⟩;exact KZ0
  .conv=>whnf
   rw[h2,q3]at hi2;exact⟨ab0 hi2,lh0⟩
 .conv=>whnf
  have hi:¬i<a.length:=by have:=Z3 h1;omega
  rw[q1 O,q1 O]at hi2;exact⟨ab0 hi2,lh0⟩
theorem efR{g:Nat}{P:List Iv->List Iv->Bool}(a b:List (List Iv))(ha:a.length<9223372036854775808)(hb:b.length<9223372036854775808)(hg:∀x∈a,∀y∈b,Fn g [] [.sl .iv x,.sl .iv y] (.bool (P x y)) []):
 Fn 25 [] [.sl .vs a,.sl .vs b,.fn g []] (.bool (eqL P a b)) []:=by
 by_cases hl:a.length=b.length
 rotate_left
 .rw[zmy hl];refine fnT hTE hmx Tryz.func25 rfl rfl (ex:= []) ?_;conv=>whnf
  refine brI (fun _=>?_) (fun c=>?_)
  .conv=>whnf
   exact⟨lr rfl,lh0⟩
  .have c:((a.length:Int) != (b.length:Int))=false:=c;exact absurd (by have e:(a.length:Int)=b.length:=(by simpa using c);omega) hl
 refine fnT hTE hmx Tryz.func25 rfl rfl (ex:= []) ?_;conv=>whnf
 refine brI (fun c=>?_) (fun _=>?_)
 .have c:((a.length:Int) != (b.length:Int))=true:=c;rw[hl]at c;simp at c
 conv=>whnf
 refine⟨Nat,fun i=>i<=a.length/\eqL P (a.drop i) (b.drop i)=eqL P a b,fun i=> [(17,.int .i64 i)],fun _=> [],fun i=>a.length-i,0,⟨OC,rfl⟩,?_,fun i hi=>?_⟩
 .exact KZ0
 refine gYe ?_;obtain⟨hi1,hi2⟩:=hi;refine brI (fun h1=>?_) (fun h1=>?_)
 .have hi:i<a.length:=by have:=Z0 h1;omega
  conv=>whnf
  refine⟨⟨O,O⟩,fun(x:List Iv)hx=>?_⟩;have hx:a[i]? =some x:=by simpa using hx
  conv=>whnf
  refine⟨⟨O,O⟩,fun(y:List Iv)hy=>?_⟩;have hy:b[i]? =some y:=by simpa using hy
  have hc:=hg x (q0 hx) y (q0 hy);rw[qf hx,qf hy]at hi2;simp only[eqL]at hi2;conv=>whnf
  refine cbI [] (P x y) hc (fun h2=>?_) (fun h2=>?_)
  .conv=>whnf
   rw[h2,qA]at hi2;refine⟨i+1,⟨O,hi2⟩,by show a.length-(i+1)<a.length-i;omega,?_⟩;exact KZ0
  .conv=>whnf
   rw[h2,q3]at hi2;exact⟨ab0 hi2,lh0⟩
 .conv=>whnf
  have hi:¬i<a.length:=by have:=Z3 h1;omega
  rw[q1 O,q1 O]at hi2;exact⟨ab0 hi2,lh0⟩
theorem q27(n:Int)(h: -1000<=n/\n<=1000):Fn 27 [] [.int .i64 n] (.agg (dyC (wo n))) []:=by
 have h1:=r262 n O;refine fnT hTE hmx Tryz.func27 rfl rfl (ex:= []) ?_;conv=>whnf
 refine gYn h1 ?_;exact⟨lr rfl,lh0⟩
theorem q29(n:Int)(h: -1000<=n/\n<=1000):Fn 29 [] [.int .i64 n] (.agg (dyC (qc (wo n) (-2)).1)) []:=by
 have h1:=q27 n h;have h2:=q47 (wl n O) (j:= -2) (.inr rfl);generalize qc (wo n) (-2)=R at*;generalize wo n=D at*;obtain⟨⟨R1,R2,R3⟩,R4⟩:=R;refine fnT hTE hmx Tryz.func29 rfl rfl (ex:= []) ?_;conv=>whnf
 refine gYn h1 ?_;refine gYn h2 ?_;exact⟨lr rfl,lh0⟩
theorem q42(x:Iv)(ha:x.all=false)(h1:x.lo.m.length<9223372036854775808)(h2:x.hi.m.length<9223372036854775808):Fn 42 [] [.agg (ivC x),.agg (ivC x)] (.bool true) []:=by
 have c1:=x103 x.lo h1;have c2:=x103 x.hi h2;obtain⟨a,b,c⟩:=x;have ha:c=false:=ha;subst ha;have h:Fn 78 [] [.agg (ivC ⟨a,b,false⟩),.agg (ivC ⟨a,b,false⟩)] (.bool true) []:=by
  refine fnT hTE hmx Tryz.func78 rfl rfl (ex:= []) ?_;conv=>whnf
  refine gYn c1 ?_;refine gYn c2 ?_;exact⟨lr rfl,lh0⟩
 refine fnT hTE hmx Tryz.func42 rfl rfl (ex:= []) ?_;conv=>whnf
 refine gYn h ?_;exact⟨lr rfl,lh0⟩
theorem q14(x:Iv)(ha:x.all=false)(h1:x.lo.m.length<9223372036854775808)(h2:x.hi.m.length<9223372036854775808):Fn 14 [] [.sl .iv [x],.sl .iv [x]] (.bool true) []:=by
 have h:=efG (g:=42) (P:=fun _ _=>true) [x] [x] OC OC fun y hy z hz=>by
  rw[q9]at hy hz;subst hy;subst hz;exact q42 _ ha h1 h2
 have h:Fn 23 [] [.sl .iv [x],.sl .iv [x],.fn 42 []] (.bool true) []:=h;refine fnT hTE hmx Tryz.func14 rfl rfl (ex:= []) ?_;conv=>whnf
 refine gYn h ?_;exact⟨lr rfl,lh0⟩
theorem q15(x:Iv)(ha:x.all=false)(h1:x.lo.m.length<9223372036854775808)(h2:x.hi.m.length<9223372036854775808):Fn 15 [] [.sl .vs [[x]],.sl .vs [[x]]] (.bool true) []:=by
 have h:=efR (g:=14) (P:=fun _ _=>true) [[x]] [[x]] OC OC fun y hy z hz=>by
  rw[q9]at hy hz;subst hy;subst hz;exact q14 _ ha h1 h2
 have h:Fn 25 [] [.sl .vs [[x]],.sl .vs [[x]],.fn 14 []] (.bool true) []:=h;refine fnT hTE hmx Tryz.func15 rfl rfl (ex:= []) ?_;conv=>whnf
 refine gYn h ?_;exact⟨lr rfl,lh0⟩
theorem q24(x y:Iv)(vx:VI x)(vy:VI y):Fn 24 [] [.agg (ivC x),.agg (ivC y)] (.bool (zpz x y)) []:=x15 x y vx.ri vy.ri vx vy
theorem q26(a b:List Iv)(ha:∀x∈a,VI x)(hb:∀x∈b,VI x)(la:a.length<9223372036854775808)(lb:b.length<9223372036854775808):Fn 26 [] [.sl .iv a,.sl .iv b] (.bool (eqL zpz a b)) []:=by
 have h:=efG (g:=24) (P:=zpz) a b la lb fun x hx y hy=>q24 x y (ha x hx) (hb y hy)
 generalize eqL zpz a b=c at*;refine fnT hTE hmx Tryz.func26 rfl rfl (ex:= []) ?_;conv=>whnf
 refine gYn h ?_;exact⟨lr rfl,lh0⟩
def fewB(t:Tp):Bool:=decide (t.ops.length<=60)&&decide (t.outs.length<=10)
theorem q6(t:Tp)(h1:t.ops.length<9223372036854775808)(h2:t.outs.length<9223372036854775808):Fn 6 [] [.agg (tpC t)] (.bool (fewB t)) []:=by
 refine fnT hTE hmx Tryz.func6 rfl rfl (ex:= []) ?_;conv=>whnf
 refine brI (fun h=>?_) (fun h=>?_)
 .conv=>whnf
  have h:t.ops.length<=60:=by have:=Z0 h;omega
  refine⟨ab0 ?_,lh0⟩;unfold fewB;rw[Z8 h,qA,qG,Z4,Z4];omega
 .conv=>whnf
  have h:¬t.ops.length<=60:=by have:=Z3 h;omega
  refine⟨ab0 ?_,lh0⟩;unfold fewB;rw[Z9 h,q3]
def lgD(d:Dy):Bool:=decide (20<d.m.length)||(decide (300<d.e)||decide (d.e< -300))
def zuy(x:Iv):Bool:=lgD x.lo||lgD x.hi
theorem q30(d:Dy)(hl:d.m.length<9223372036854775808):Fn 30 [] [.agg (dyC d)] (.bool (lgD d)) []:=by
 obtain⟨a,b,c⟩:=d;unfold lgD;simp only at hl⊢;refine fnT hTE hmx Tryz.func30 rfl rfl (ex:= []) ?_;conv=>whnf
 refine brI (fun h=>?_) (fun h=>?_)
 .conv=>whnf
  have h:20<b.length:=by have h:(b.length:Int)>20:=Z0 h;omega
  exact⟨ab0 (by rw[Z8 h,qI]),lh0⟩
 have h:¬20<b.length:=by have h:¬(b.length:Int)>20:=Z3 h;omega
 rw[Z9 h,qH];conv=>whnf
 refine brI (fun h=>?_) (fun h=>?_)
 .conv=>whnf
  have h:300<c:=Z0 h;exact⟨ab0 (by rw[Z8 h,qI]),lh0⟩
 have h:¬300<c:=Z3 h;rw[Z9 h,qH];conv=>whnf
 exact⟨lr rfl,lh0⟩
abbrev Hq9:Hp:= [(1000001,.cells [.fn 30 []])]
theorem zsx{h h':Hp}:leH h h' Hq9 Hq9:=lh1 (bc0 (lc (lr rfl) ln0)) lh0
theorem q32(x:Iv)(h1:x.lo.m.length<9223372036854775808)(h2:x.hi.m.length<9223372036854775808):Fn 32 Hq9 [.agg (ivC x),.ptr 1000001 0] (.bool (zuy x)) Hq9:=by
 have c1:=q30 x.lo h1;have c2:=q30 x.hi h2;unfold zuy;generalize lgD x.lo=a at*;generalize lgD x.hi=b at*;obtain⟨x1,x2,x3⟩:=x;cases a
 .refine fnT hTE hmx Tryz.func32 rfl rfl (ex:= []) ?_;conv=>whnf
  refine gYn c1 ?_;refine gYn c2 ?_;exact⟨lr rfl,zsx⟩
 .refine fnT hTE hmx Tryz.func32 rfl rfl (ex:= []) ?_;conv=>whnf
  refine gYn c1 ?_;exact⟨lr rfl,zsx⟩
theorem q61(l:List Iv)(hlen:l.length<9223372036854775808)(hr:∀y∈l,RI y):Fn 61 Hq9 [.sl .iv l,.fn 32 [.ptr 1000001 0]] (.int .i64 (ixP zuy l 0)) Hq9:=by
 refine fnT hTE hmx Tryz.func61 rfl rfl (ex:= []) ?_;conv=>whnf
 refine⟨Nat,fun i=>i<=l.length/\ixP zuy (l.drop i) i=ixP zuy l 0,fun i=> [(8,.int .i64 i)],fun _=> [],fun i=>l.length-i,0,⟨OC,rfl⟩,?_,fun i hi=>?_⟩
 .exact KZ0
 refine gYe ?_;obtain⟨hi1,hi2⟩:=hi;refine brI (fun h1=>?_) (fun h1=>?_)
 .conv=>whnf
  have hi:i<l.length:=by simp only[Z4]at h1;omega
  refine⟨⟨O,O⟩,fun(x:Iv)hx=>?_⟩;have hx:l[i]? =some x:=by simpa using hx
  have hm:=hr x (q0 hx);have hc:=q32 x hm.l1 hm.l2;rw[qf hx]at hi2;simp only[ixP]at hi2;conv=>whnf
  refine cbI [.cells [.fn 30 []]] (zuy x) hc (fun h2=>?_) (fun h2=>?_)
  .conv=>whnf
   rw[Z6 h2]at hi2;exact⟨ai0 hi2,zsx⟩
  .conv=>whnf
   rw[Z7 (by rw[h2];simp)]at hi2;refine⟨i+1,⟨O,hi2⟩,by show l.length-(i+1)<l.length-i;omega,?_⟩;exact KZ0
 .conv=>whnf
  have hi:¬i<l.length:=by simp only[Z5]at h1;omega
  rw[q1 O]at hi2;exact⟨ai0 hi2,zsx⟩
theorem q31l(l:List Iv)(hlen:l.length<9223372036854775808)(hr:∀y∈l,RI y):Fn 31 Hq9 [.sl .iv l,.fn 32 [.ptr 1000001 0]] (.bool (l.any zuy)) Hq9:=by
 refine fnT hTE hmx Tryz.func31 rfl rfl (ex:= []) ?_;conv=>whnf
 refine⟨[.cells [.fn 30 []]],_,q61 l hlen hr,?_⟩;conv=>whnf
 exact⟨ab0 (by rw[qG,Z4];exact zeg zuy l 0),zsx⟩
def shB(l:List Iv):Bool:=decide (l.length<=10)&& !l.any zuy
theorem q7(l:List Iv)(hlen:l.length<9223372036854775808)(hr:∀y∈l,RI y):Fn 7 [] [.sl .iv l] (.bool (shB l)) []:=by
 have h:=q31l l hlen hr;unfold shB;generalize l.any zuy=b at*;refine fnT hTE hmx Tryz.func7 rfl rfl (ex:= []) ?_;conv=>whnf
 refine brI (fun g=>?_) (fun g=>?_)
 .have g:l.length<=10:=by have:=Z0 g;omega
  rw[Z8 g,qA];conv=>whnf
  refine⟨[.cells [.fn 30 []]],_,h.sw [(3,1000001)] rfl,?_⟩;conv=>whnf
  exact⟨lr rfl,lh0⟩
 .have g:¬l.length<=10:=by have:=Z3 g;omega
  rw[Z9 g,q3];conv=>whnf
  exact⟨lr rfl,lh0⟩
def meN(p:Int)(r x c:List Iv)(s:Iv):Nat->Iv
 |0=>s
 |i+1=>um (meN p r x c s i) (kw (gI r i) (zg9 (gI x i) (gI c i) p) p) p
def meC(x:List Iv)(p:Int):List Iv:=x.map fun y=>qs (zx5 y p)
def meE(p:Int)(v:List Iv)(d:List (List Iv))(x c at':List Iv)(k:Nat):Iv:=(meI (meN p ((d[k]?).getD []) x c (gI at' k) x.length) (gI v k)).1
def meL(t:Tp)(x:List Iv)(p:Int):List Iv:=(qD t.outs.length).map (meE p (gtV t x t.ins p) (gtD t x t.ins p) x (meC x p) (zqd t (meC x p) p))
theorem zyp{x:Iv}(hx:RI x)(p:Int):VD (zx5 x p):=by
 unfold zx5;split
 .exact qq
 rename_i h;have h:kB x=true:=(Decidable.not_not.1 h).1;have k:=(zq hx).1 h;split
 .exact k.lo
 split
 .exact k.lo
 split
 .exact uz _ _
 .exact k.lo
theorem zk4{l:List Iv}{i:Nat}(h:i<l.length):l[i]? =some (gI l i):=by
 have:=uo (vs:=l) (k:=(i:Int)) O O;simpa using this
theorem qd5{p:Int}{r x c:List Iv}{s:Iv}(h:RI s):∀i,RI (meN p r x c s i)
 |0=>h
 |i+1=>(za6 _ _ _).ri
noncomputable def zyk:Code:=Tryz.f28.body.getD .skip
theorem q28b(t:Tp)(x:List Iv)(p:Int)(v:List Iv)(d:List (List Iv))(c at':List Iv)(hn:t.outs.length<=200)(hx:∀y∈x,RI y)(hxl:x.length<=8)(hv:∀y∈v,RI y)(hvl:v.length=t.outs.length)(hdl:d.length=t.outs.length)
 (hdr:∀r∈d,r.length=x.length/\∀y∈r,RI y) (hc:∀y∈c,RI y) (hcl:c.length=x.length) (ha:∀y∈at',RI y) (hal:at'.length=t.outs.length) (n:Nat) (hn2:n=7):
 SemOK Tryz.prog TQ Tryz.f28.results.toList [] (.sl .iv ((qD t.outs.length).map (meE p v d x c at'))) G0 (zd2 n zyk) ⟨[.any,.sl .iv x,.int .i64 p,.any,.any,.any,.any,.sl .iv v,.sl .vs d,.sl .iv c,.any,.any,.sl .iv at',.nilsl]++yo 89,[(3,.cells (tpC t)),(11,.free),(45,.dead),(100045,.free),(1500045,.free),(15,.free),(17,.free),(100,.free),(100100,.free),(1500100,.free)]++G0⟩:=by
 subst hn2;obtain⟨M,hM⟩:∃M,(qD t.outs.length).map (meE p v d x c at')=M:=⟨_,rfl⟩;have hMl:M.length=t.outs.length:=by rw[<-hM];simp
 have hMs:∀i,i<t.outs.length->M.take (i+1)=M.take i++ [meE p v d x c at' i]:=fun i h=>by
  rw[qE,<-hM,List.getElem?_map,List.getElem?_range h];rfl
 rw[hM];clear hM;refine vr hTQ hmx ?_;conv=>whnf
 refine⟨Nat,fun i=>i<=t.outs.length,fun i=> [(53,.int .i64 i),(13,.own 100)],fun i=> [(15,.free),(17,.free),(100,.buf 48 .iv (M.take i))],fun i=>t.outs.length-i,0,Nat.zero_le _,?_,fun i hi=>?_⟩
 .exact KZ0
 have hi:i<=t.outs.length:=hi;refine gYe ?_;refine brI (fun c1=>?_) (fun c1=>?_)
 .have c1:i<t.outs.length:=by have:=Z0 c1;omega
  have hs:=hMs i c1;have g1:at'[i]? =some (gI at' i):=zk4 O;have g2:v[i]? =some (gI v i):=zk4 O;have r1:=ha _ (q0 g1);have r2:=hv _ (q0 g2);obtain⟨r,hr⟩:∃r,d[i]? =some r:=⟨_,List.getElem?_eq_getElem O⟩;obtain⟨hrl,hrr⟩:=hdr r (q0 hr);have eE:meE p v d x c at' i=(meI (meN p r x c (gI at' i) x.length) (gI v i)).1:=by unfold meE;rw[hr];rfl
  rw[eE]at hs;have rN:=fun j=>qd5 (p:=p) (r:=r) (x:=x) (c:=c) r1 j
  obtain⟨N,hN⟩:∃N:Nat->Iv,N=meN p r x c (gI at' i):=⟨_,rfl⟩;have N0:N 0=gI at' i:=by rw[hN];rfl
  have Ns:∀j,N (j+1)=um (N j) (kw (gI r j) (zg9 (gI x j) (gI c j) p) p) p:=fun j=>by rw[hN];rfl
  rw[<-hN]at hs rN;rw[<-N0]at g1;have cm:=c140 (N x.length) (gI v i) (rN _) r2;generalize gI v i=vi at*;obtain⟨M1,hM1⟩:∃M1,M.take (i+1)=M1:=⟨_,rfl⟩;rw[hM1]at hs;have hl0:(M.take i).length <=200:=by rw[qF];omega
  generalize M.take i=M0 at*;clear hN r1 eE N0;conv=>whnf
  refine⟨⟨O,O⟩,fun(y:Iv)hy=>?_⟩;obtain rfl:N 0=y:=by
   have hy:at'[i]? =some y:=by simpa using hy
   rw[g1]at hy;exact Option.some.inj hy
  conv=>whnf
  refine⟨Nat,fun j=>j<=x.length,fun j=> [(62,.int .i64 j)],fun j=> [(15,.cells (ivC (N j)))],fun j=>x.length-j,0,Nat.zero_le _,?_,fun j hj=>?_⟩
  .exact KZ0
  have hj:j<=x.length:=hj;refine gYe ?_;refine brI (fun c2=>?_) (fun c2=>?_)
  .have c2:j<x.length:=by have:=Z0 c2;omega
   have e1:x[j]? =some (gI x j):=zk4 c2;have e2:c[j]? =some (gI c j):=zk4 O;have e3:r[j]? =some (gI r j):=zk4 O;have k1:=hx _ (q0 e1);have k2:=hc _ (q0 e2);have k3:=hrr _ (q0 e3);have u1:=i83 (gI x j) (gI c j) k1 k2 p;have u3:=i82 (N j) _ (rN j) (zbv (gI r j) (zg9 (gI x j) (gI c j) p) p).ri p;have hN1:=Ns j;have u2:Fn 58 G0 [.agg (ivC (gI r j)),.agg (ivC (zg9 (gI x j) (gI c j) p)),.int .i64 p] (.agg (ivC (kw (gI r j) (zg9 (gI x j) (gI c j) p) p))) G0:=i84 (gI r j) _ k3 (za6 (gI x j) (zc4 (gI c j)) p).ri p;rw[<-hN1]at u3;clear hN1;generalize kw (gI r j) (zg9 (gI x j) (gI c j) p) p=B at*;generalize zg9 (gI x j) (gI c j) p=A at*;generalize gI x j=xj at*;generalize gI c j=cj at*;generalize gI r j=rj at*;obtain⟨N1,hN1⟩:∃N1,N (j+1)=N1:=⟨_,rfl⟩;rw[hN1]at u3;conv=>whnf
   refine⟨⟨O,O⟩,fun(r':List Iv)hr'=>?_⟩;obtain rfl:r=r':=by
    have hr':d[i]? =some r':=by simpa using hr'
    rw[hr]at hr';exact Option.some.inj hr'
   conv=>whnf
   refine⟨⟨O,O⟩,fun(y1:Iv)hy1=>?_⟩;obtain rfl:rj=y1:=by
    have hy1:r[j]? =some y1:=by simpa using hy1
    rw[e3]at hy1;exact Option.some.inj hy1
   conv=>whnf
   refine⟨⟨O,O⟩,fun(y2:Iv)hy2=>?_⟩;obtain rfl:xj=y2:=by
    have hy2:x[j]? =some y2:=by simpa using hy2
    rw[e1]at hy2;exact Option.some.inj hy2
   conv=>whnf
   refine⟨⟨O,O⟩,fun(y3:Iv)hy3=>?_⟩;obtain rfl:cj=y3:=by
    have hy3:c[j]? =some y3:=by simpa using hy3
    rw[e2]at hy3;exact Option.some.inj hy3
   conv=>whnf
   refine gYc u1 ?_;refine gYc u2 ?_;refine gYc u3 ?_;refine gYd ?_;refine⟨j+1,c2,by show x.length-(j+1)<x.length-j;omega,?_⟩
   ((conv=>whnf);refine And.intro ?_ ?_;repeat' first|refine lc ?_ ?_|refine lh1 ?_ ?_|refine bc0 ?_|exact KXZ|refine lg0 ?_|refine lt0 ?_)
   .exact ai0 (by rw[wI O];omega)
   all_goals (rw[hN1];exact lr rfl)
  .obtain rfl:j=x.length:=by have:=Z3 c2;omega
   generalize meI (N x.length) vi=Zq at*;obtain⟨Z1,Z2⟩:=Zq;conv=>whnf
   refine⟨⟨O,O⟩,fun(y:Iv)hy=>?_⟩;obtain rfl:vi=y:=by
    have hy:v[i]? =some y:=by simpa using hy
    rw[g2]at hy;exact Option.some.inj hy
   conv=>whnf
   refine gYn cm ?_;refine gYd ?_;refine⟨OE,?_⟩;conv=>whnf
   refine⟨i+1,c1,by show t.outs.length-(i+1)<t.outs.length-i;omega,?_⟩
   ((conv=>whnf);refine And.intro ?_ ?_;repeat' first|refine lc ?_ ?_|refine lh1 ?_ ?_|refine bc0 ?_|exact KXZ|refine lg0 ?_|refine lt0 ?_)
   .exact ai0 (by rw[wI O];omega)
   .exact bb0 (by rw[hM1,hs])
 .conv=>whnf
  have hi2:i=t.outs.length:=by have:=Z3 c1;omega
  subst hi2;exact⟨ju (qC O),leG⟩
theorem qeq{t:Tp}{x:List Iv}{m p:Int}(hx:∀y∈x,RI y):∀y∈gtV t x m p,RI y:=fun y hy=>by
 unfold gtV at hy;split at hy
 .rename_i h;unfold gtB fiB at h;simp only[qB,Z4]at h;obtain⟨_,hob,hout⟩:=wu h.1.1;rw[<-h.1.2.1]at hob hout;obtain⟨k,hk,rfl⟩:=q2.1 hy;have hr:=hout k hk;exact zim hob hx _ (q0 (uo hr.1 (by rw[zav];omega)))
 .cases hy
theorem qe9{t:Tp}(ht:tvB t=true){vs:List Iv}(hv:∀y∈vs,RI y)(hl:(vs.length:Int)=t.ins+t.ops.length)(i p:Int):(∀y∈coS t vs i p,RI y)/\((coS t vs i p).length :Int)=t.ins+t.ops.length:=by
 obtain⟨⟨a1,_⟩,hob,_⟩:=wu ht;have cl:((coI t.ins.toNat i).length :Int)=t.ins:=by simp[coI];omega
 exact⟨ztw hv (by rw[cl];exact hob) (zyi _ _) O,by unfold coS;rw[zjx];omega⟩
theorem qer{t:Tp}{x:List Iv}{m p:Int}(hx:∀y∈x,RI y):∀r∈gtD t x m p,r.length=m.toNat/\∀y∈r,RI y:=fun r hr=>by
 unfold gtD at hr;split at hr
 .rename_i h;unfold gtB fiB at h;simp only[qB,Z4]at h;obtain⟨_,hob,hout⟩:=wu h.1.1;rw[<-h.1.2.1]at hob;obtain⟨k,hk,rfl⟩:=q2.1 hr;have hr:=hout k hk;refine⟨by simp[gtC],fun y hy=>?_⟩;obtain⟨i,_,rfl⟩:=q2.1 hy;obtain⟨c1,c2⟩:=qe9 h.1.1 (zim hob hx (p:=p)) (by rw[zav];have:=h.1.2.1;omega) i p;exact c1 _ (q0 (uo hr.1 O))
 .cases hr
theorem qdf{t:Tp}(ht:tvB t=true){x:List Iv}{p:Int}(hx:∀y∈x,RI y):∀y∈zqd t x p,RI y:=by
 obtain⟨_,a5,a6⟩:=wu ht;unfold zqd;split
 .rename_i h;intro y hy;obtain⟨k,hk,rfl⟩:=q2.1 hy;have hr:=a6 k hk;rw[<-h.2]at a5 hr;exact zim a5 hx _ (q0 (uo hr.1 (by rw[zav];omega)))
 .intro y hy;cases hy
theorem q28(t:Tp)(x:List Iv)(p:Int)(hf:fiB t x p=true)(hx:∀y∈x,RI y):Fn 28 G0 [.agg (tpC t),.sl .iv x,.int .i64 p] (.sl .iv (meL t x p)) G0:=by
 have hf2:=hf;unfold fiB at hf2;simp only[qB,Z4]at hf2;obtain⟨ht,hl,_,_⟩:=hf2;obtain⟨⟨a1,a2,a3,a4⟩,_,_⟩:=wu ht;have h33:=q33 t x p O O hx O;rw[hf]at h33;have h8:=q8 t x t.ins p O O hx O;have hg:gtB t x t.ins p=true:=by
  unfold gtB;rw[hf,Z8 a1,Z8 (Int.le_refl _)];rfl
 have lv:(gtV t x t.ins p).length =t.outs.length:=by unfold gtV;rw[Z6 hg];simp
 have ld:(gtD t x t.ins p).length =t.outs.length:=by unfold gtD;rw[Z6 hg];simp
 have rv:=qeq (t:=t) (m:=t.ins) (p:=p) hx;have rd:=qer (t:=t) (m:=t.ins) (p:=p) hx;have lcc:(meC x p).length =x.length:=by simp[meC]
 have rc:∀y∈meC x p,RI y:=fun y hy=>by
  obtain⟨z,hz,rfl⟩:=q2.1 hy;have v:=zyp (hx z hz) p;exact(show CI (qs (zx5 z p))from .inr ⟨rfl,v,v⟩).ri
 have h56:=j8 t (meC x p) p O O rc O;have la:(zqd t (meC x p) p).length =t.outs.length:=by unfold zqd;rw[Z6 ⟨ht,O⟩];simp
 have ra:=qdf ht (p:=p) rc;have rest:=q28b t x p _ _ _ _ a4 hx O rv lv ld (fun r hr=>⟨by rw[(rd r hr).1];omega,(rd r hr).2⟩) rc lcc ra la 7 rfl;have eL:(qD t.outs.length).map (meE p (gtV t x t.ins p) (gtD t x t.ins p) x (meC x p) (zqd t (meC x p) p))=meL t x p:=rfl;rw[eL]at rest;have hMs:∀i y,x[i]? =some y->(meC x p).take (i+1)=(meC x p).take i++ [qs (zx5 y p)]:=fun i y h=>by
  rw[qE];simp[meC,h]
 generalize gtV t x t.ins p=v at*;generalize gtD t x t.ins p=d at*;generalize zqd t (meC x p) p=at' at*;generalize meL t x p=Zq at*;generalize meC x p=C at*;clear rv rd rc ra eL hg;refine qv (code:=zyk) hTQ hmx Tryz.func28 rfl rfl (ex:= []) ?_;conv=>whnf
 refine wm hTQ hmx 7 (fun _:Unit=>⟨[.any,.sl .iv x,.int .i64 p,.any,.any,.any,.any,.sl .iv v,.sl .vs d,.sl .iv C,.any,.any,.sl .iv at',.nilsl]++yo 89,[(3,.cells (tpC t)),(11,.free),(45,.dead),(100045,.free),(1500045,.free),(15,.free),(17,.free),(100,.free),(100100,.free),(1500100,.free)]++G0⟩) (fun _=>Z) ?_ (fun _=>rest);clear rest;conv=>whnf
 refine gYn h33 ?_;refine gYc h8 ?_;refine⟨Nat,fun i=>i<=x.length,fun i=> [(35,.int .i64 i),(9,.own 45)],fun i=> [(11,.free),(45,.buf 48 .iv (C.take i))],fun i=>x.length-i,0,Nat.zero_le _,?_,fun i hi=>?_⟩
 .exact KZ0
 have hi:i<=x.length:=hi;refine gYe ?_;refine brI (fun c=>?_) (fun c=>?_)
 .have c:i<x.length:=by have:=Z0 c;omega
  have hl0:(C.take i).length <=8:=by rw[qF];omega
  obtain⟨M',hM'⟩:∃M',C.take (i+1)=M':=⟨_,rfl⟩;conv=>whnf
  refine⟨⟨O,O⟩,fun(y:Iv)hy=>?_⟩;have hy:x[i]? =some y:=by simpa using hy
  have ry:=hx y (q0 hy);have h55:=q55 y ry p;have h20:=zwh (zyp ry p);have hs:=hMs i y hy;rw[hM']at hs;generalize C.take i=M0 at*;generalize zx5 y p=mm at*;conv=>whnf
  refine gYc h55 ?_;refine gYn h20 ?_;refine⟨OE,?_⟩;conv=>whnf
  refine⟨i+1,c,by show x.length-(i+1)<x.length-i;omega,?_⟩
  ((conv=>whnf);refine And.intro ?_ ?_;repeat' first|refine lc ?_ ?_|refine lh1 ?_ ?_|refine bc0 ?_|exact KXZ|refine lg0 ?_|refine lt0 ?_)
  .exact ai0 (by rw[wI O];omega)
  .exact bb0 (by rw[hM',hs])
 .have c:i=x.length:=by have:=Z3 c;omega
  subst c;have e:C.take x.length=C:=qC O;conv=>whnf
  rw[e];refine gYc h56 ?_;refine⟨(),?_⟩;exact KZ0
def tpX:Tp:=⟨1,[⟨8,0,0,2,⟨0,0⟩⟩,⟨4,1,0,0,⟨0,0⟩⟩],[2]⟩
def bxX:List Iv:= [⟨d0,wo 1,false⟩]
def j1X:Iv:=⟨wo (-1),wo 1,false⟩
def m1X:Iv:=⟨(qc (wo (-3)) (-2)).1,(qc (wo 1) (-2)).1,false⟩
theorem gtX:gtD tpX bxX 1 60= [[j1X]]:=Z
theorem meX:meL tpX bxX 60= [m1X]:=Z
theorem q5:Fn 5 G0 [] (.bool true) G0:=by
 have rb:∀y∈bxX,RI y:=fun y hy=>by
  rw[bxX,q9]at hy;subst hy;exact⟨qq.lb,(wl 1 O).lb,OA,OA⟩
 have h8:=q8 tpX bxX 1 60 OA OA rb OA;rw[gtX]at h8;have h28:=q28 tpX bxX 60 Z rb;rw[meX]at h28;have h15:=q15 j1X rfl OA OA;have h14:=q14 m1X rfl OA OA;have d1:=q27 1 O;have d2:=q27 (-1) O;have d3:=q29 (-3) O;have d4:=q29 1 O;generalize gtV tpX bxX 1 60=v at*;refine fnT hTQ hmx Tryz.func5 rfl rfl (ex:= []) ?_;conv=>whnf
 refine gYn d1 ?_;refine gYc h8 ?_;refine gYc h28 ?_;refine gYn d2 ?_;refine gYn d1 ?_;refine gYn h15 ?_;refine gYn d3 ?_;refine gYn d4 ?_;refine gYn h14 ?_;exact⟨lr rfl,leG⟩
