/- gradient.fits, gradient.all: whether intervals of a list are valid, or All. -/
import Derived.Test.YtlbmkjbgfkgcmaaGreatDoorTQb
import Derived.Test.YtlbmkjbgfkgcmaaGreatDoorTRa
set_option linter.all false
namespace Go.Proofs.YtlbmkjbgfkgcmaaGreatDoor
open Go Go.Sx
set_option maxRecDepth 100000
set_option maxHeartbeats 8000000
def TE:Tab:= {TJ with of:= [],nb:= [],gl:= []}
theorem hTE:TabOK Tryz.prog TE:=zfd Z Z
theorem ixG{g:Nat}{P:Iv->Bool}(l:List Iv)(hlen:l.length<9223372036854775808)(hg:∀y∈l,Fn g [] [.agg (ivC y)] (.bool (P y)) []):Fn 61 [] [.sl .iv l,.fn g []] (.int .i64 (ixP P l 0)) []:=by
 refine fnT hTE hmx Tryz.func61 rfl rfl (ex:= []) ?_;conv=>whnf
 refine⟨Nat,fun i=>i<=l.length/\ixP P (l.drop i) i=ixP P l 0,fun i=> [(8,.int .i64 i)],fun _=> [],fun i=>l.length-i,0,⟨OC,rfl⟩,?_,fun i hi=>?_⟩
 .exact KZ0
 refine gYe ?_;obtain⟨hi1,hi2⟩:=hi;refine brI (fun h1=>?_) (fun h1=>?_)
 .conv=>whnf
  have hi:i<l.length:=by simp only[Z4]at h1;omega
  refine⟨⟨O,O⟩,fun(x:Iv)hx=>?_⟩;have hx:l[i]? =some x:=by simpa using hx
  have hm:=List.mem_of_getElem? hx;rw[qh hx]at hi2;simp only[ixP]at hi2;conv=>whnf
  refine cbI [] (P x) (hg x hm) (fun h2=>?_) (fun h2=>?_)
  .conv=>whnf
   rw[Z6 h2]at hi2;exact⟨ai0 hi2,lh0⟩
  .conv=>whnf
   rw[Z7 (by rw[h2];simp)]at hi2;refine⟨i+1,⟨O,hi2⟩,by show l.length-(i+1)<l.length-i;omega,?_⟩;exact KZ0
 .conv=>whnf
  have hi:¬i<l.length:=by simp only[Z5]at h1;omega
  rw[List.drop_of_length_le O]at hi2;exact⟨ai0 hi2,lh0⟩
theorem cfG{g:Nat}{P:Iv->Bool}(l:List Iv)(hlen:l.length<9223372036854775808)(hg:∀y∈l,Fn g [] [.agg (ivC y)] (.bool (P y)) []):Fn 31 [] [.sl .iv l,.fn g []] (.bool (l.any P)) []:=by
 refine fnT hTE hmx Tryz.func31 rfl rfl (ex:= []) ?_;conv=>whnf
 refine gYn (ixG l hlen hg) ?_;exact⟨ab0 (by rw[Bool.eq_iff_iff,Z4];exact zgt P l 0),lh0⟩
def ibV(y:Iv):Bool:= !viB y
theorem q64(y:Iv)(hy:RI y):Fn 64 [] [.agg (ivC y)] (.bool (ibV y)) []:=by
 have h:=i51 y hy;unfold ibV;generalize viB y=b at*;cases b
 all_goals
  refine fnT hTQ hmx Tryz.func64 rfl rfl (ex:= []) ?_;conv=>whnf
  refine gYn h ?_;exact⟨lr rfl,lh0⟩
theorem q63(p:Int):Fn 63 [] [.int .i64 p] (.bool (pcB p)) []:=by
 have e:pcB p=(decide (p≥8)&&decide (p<=512)):=by unfold pcB;rfl
 rw[e];refine fnT hTQ hmx Tryz.func63 rfl rfl (ex:= []) ?_;conv=>whnf
 refine brI (fun h=>?_) (fun h=>?_)
 .conv=>whnf
  rw[h];exact⟨lr rfl,lh0⟩
 .conv=>whnf
  rw[h];exact⟨lr rfl,lh0⟩
def fiB(t:Tp)(x:List Iv)(p:Int):Bool:=tvB t&&(decide ((x.length:Int)=t.ins)&&(pcB p&& !x.any ibV))
theorem q33(t:Tp)(x:List Iv)(p:Int)(h1:t.ops.length<9223372036854775808)(h2:t.outs.length<9223372036854775808)(hx:∀y∈x,RI y)(hxl:x.length<9223372036854775808):
 Fn 33 [] [.agg (tpC t),.sl .iv x,.int .i64 p] (.bool (fiB t x p)) []:=by
 have c1:=f41 t h1 h2;have c2:=q63 p;have c3:=cfG (g:=64) (P:=ibV) x hxl fun y hy=>q64 y (hx y hy)
 unfold fiB;generalize tvB t=b1 at*;generalize pcB p=b2 at*;generalize x.any ibV=b3 at*
 cases b1 with
 |false=>
  refine fnT hTQ hmx Tryz.func33 rfl rfl (ex:= []) ?_;conv=>whnf
  refine gYn c1 ?_;exact⟨lr rfl,lh0⟩
 |true=>
  cases b2<;>cases b3
  all_goals
   refine fnT hTQ hmx Tryz.func33 rfl rfl (ex:= []) ?_;conv=>whnf
   refine gYn c1 ?_;refine brI (fun g=>?_) (fun g=>?_)
  all_goals conv=>whnf
  all_goals first
   |(rw[show decide ((x.length:Int)=t.ins)=false from g];exact⟨lr rfl,lh0⟩)
   |(rw[show decide ((x.length:Int)=t.ins)=true from g]
     refine gYn c2 ?_
     first
      |exact⟨lr rfl,lh0⟩
      |(refine gZn c3 ?_
        conv=>whnf
        exact⟨lr rfl,lh0⟩))
def haB(x:Iv)(d:Dy):Bool:=decide (wa x.lo d<=0)&&decide (wa d x.hi<=0)
theorem q98{x:Iv}(hx:RI x)(k:KI x){d:Dy}(hd:VD d):Fn 98 [] [.agg (ivC x),.agg (dyC d)] (.bool (haB x d)) []:=by
 have h1:=i51 x hx;rw[(zgb hx).2 (.inl k)]at h1;have h2:=v80 hd;have h3:=v81 k.lo hd;have h4:=v81 hd k.hi;have ha:=k.all;unfold haB;generalize wa x.lo d=c at*;generalize wa d x.hi=e at*;clear k hx;obtain⟨x1,x2,x3⟩:=x;have ha:x3=false:=ha;subst ha;refine fnT hTQ hmx Tryz.func98 rfl rfl (ex:= []) ?_;conv=>whnf
 refine gYn h1 ?_;refine gYn h2 ?_;refine gYn h3 ?_;refine brI (fun g=>?_) (fun g=>?_)
 .conv=>whnf
  refine gYn h4 ?_;rw[g];exact⟨lr rfl,lh0⟩
 .conv=>whnf
  rw[g];exact⟨lr rfl,lh0⟩
def zyl(x:Iv)(p:Int):Dy:=
 if ¬(kB x=true/\pcB p=true)then d0 else
 if(zay x.lo x.hi p.toNat false).2≠0 then x.lo else
 if(ql (zay x.lo x.hi p.toNat false).1 (-1)).2≠0 then x.lo else
 if haB x (ql (zay x.lo x.hi p.toNat false).1 (-1)).1=true then(ql (zay x.lo x.hi p.toNat false).1 (-1)).1 else x.lo
theorem q55(x:Iv)(hx:RI x)(p:Int):Fn 55 G0 [.agg (ivC x),.int .i64 p] (.agg (dyC (zyl x p))) G0:=by
 have h94:=zni [x] OC (by simpa using hx);rw[k1]at h94;have h95:=zwz p;unfold zyl;by_cases hk:kB x=true
 .rw[hk]at h94;by_cases hp:pcB p=true
  .rw[Z7 (by simp[hk,hp])];rw[hp]at h95;have kx:=(zw hx).1 hk;have hp':=vj hp;have e:((p.toNat:Nat):Int)=p:=by unfold pcB at hp;simp at hp;omega
   have h96:=v128 kx.lo kx.hi p.toNat hp';rw[e]at h96;have h97:=v230 (zjc x.lo x.hi false p.toNat hp') (-1);have h98:=q98 hx kx (zab (zay x.lo x.hi p.toNat false).1 (-1));generalize zay x.lo x.hi p.toNat false=A at*;generalize ql A.1 (-1)=B at*;generalize haB x B.1=c at*;clear kx hx hk hp hp' e;obtain⟨A1,A2⟩:=A;obtain⟨B1,B2⟩:=B;obtain⟨x1,x2,x3⟩:=x;simp only;refine fnT hTQ hmx Tryz.func55 rfl rfl (ex:= []) ?_;conv=>whnf
   refine gYn h94 ?_;refine gYn h95 ?_;refine gYc h96 ?_;refine brI (fun g=>?_) (fun g=>?_)
   .have g:(A2 != 0)=true:=g;rw[Z6 (by simpa using g)];conv=>whnf
    exact⟨lr rfl,leG⟩
   have g:(A2 != 0)=false:=g;rw[Z7 (by simpa using g)];conv=>whnf
   refine gYc h97 ?_;refine brI (fun g=>?_) (fun g=>?_)
   .have g:(B2 != 0)=true:=g;rw[Z6 (by simpa using g)];conv=>whnf
    exact⟨lr rfl,leG⟩
   have g:(B2 != 0)=false:=g;rw[Z7 (by simpa using g)];conv=>whnf
   refine gYn h98 ?_;cases c
   all_goals
    conv=>whnf
    exact⟨lr rfl,leG⟩
  .rw[Z6 (fun h=>hp h.2)];rw[show pcB p=false by simpa using hp]at h95;clear hx hk;obtain⟨x1,x2,x3⟩:=x;refine fnT hTQ hmx Tryz.func55 rfl rfl (ex:= []) ?_;conv=>whnf
   refine gYn h94 ?_;refine gYn h95 ?_;exact⟨lg0 (lc (lr rfl) (lc (li0 rfl) (lc (lr rfl) ln0))),leG⟩
 .rw[Z6 (fun h=>hk h.1)];rw[show kB x=false by simpa using hk]at h94;clear hx hk;obtain⟨x1,x2,x3⟩:=x;refine fnT hTQ hmx Tryz.func55 rfl rfl (ex:= []) ?_;conv=>whnf
  refine gYn h94 ?_;exact⟨lg0 (lc (lr rfl) (lc (li0 rfl) (lc (lr rfl) ln0))),leG⟩
theorem q83{j:Int}(hj:j= -1\/j= -2):Fn 83 [] [.int .i64 j] (.bool true) []:=by
 rcases hj with rfl|rfl
 all_goals
  refine fnT hTE hmx Tryz.func83 rfl rfl (ex:= []) ?_;conv=>whnf
  exact⟨lr rfl,lh0⟩
theorem q84(d:Dy)(hb:LB d.m)(hl:d.m.length<9223372036854775808):Fn 84 [] [.agg (dyC d)] (dyV (if vB d=true then(d,0)else(d0,9))) []:=by
 have h:=qcs d hb hl;generalize vB d=v at*;obtain⟨d1,d2,d3⟩:=d;cases v
 .refine fnT hTE hmx Tryz.func84 rfl rfl (ex:= []) ?_;conv=>whnf
  refine gYn h ?_;exact⟨lt0 (lc (lg0 (lc (lr rfl) (lc (li0 rfl) (lc (lr rfl) ln0)))) (lc (lr rfl) ln0)),lh0⟩
 .refine fnT hTE hmx Tryz.func84 rfl rfl (ex:= []) ?_;conv=>whnf
  refine gYn h ?_;exact⟨lr rfl,lh0⟩
theorem vB_ir{d:Dy}(h:vB d=true):irB d=true:=by
 unfold vB at h;split at h
 .rename_i h0;have e:d.m= []:=List.length_eq_zero_iff.1 h0;unfold irB;rw[e];rfl
 .simp only[Bool.and_eq_true]at h;exact h.2
theorem qe4{d:Dy}(v:VD d){j:Int}(hj:j= -1\/j= -2):ql d j=if vB (cnN d.neg (nm d) (d.e+j))=true then(cnN d.neg (nm d) (d.e+j),0)else(d0,9):=by
 unfold ql;rw[Z7 (by rcases hj with rfl|rfl<;>decide)];unfold ckN;by_cases h:irN (nm d) (d.e+j)=true
 .rw[Z6 h,Z6 ((jc (zhs h).lb).2 (zhs h))]
 .rw[Z7 h,Z7];intro hv;have:=vB_ir hv;rw[ztp]at this;exact h this
theorem q47{d:Dy}(v:VD d){j:Int}(hj:j= -1\/j= -2):Fn 47 [] [.agg (dyC d),.int .i64 j] (dyV (ql d j)) []:=by
 rw[qe4 v hj];have he:=v.exp;have c1:=qcs d v.lb (by have:=v.len;omega);rw[(jc v.lb).2 v]at c1;have c2:=q83 hj;have c3:Fn 85 [] [.bool d.neg,.sl .u32 d.m,.int .i64 (d.e+j)] (.agg (dyC (cnN d.neg (nm d) (d.e+j)))) []:=zyf d.neg v.lb (by have:=v.len;omega) (d.e+j) O;have hc:LB (cnN d.neg (nm d) (d.e+j)).m /\(cnN d.neg (nm d) (d.e+j)).m.length <9223372036854775808:=by
  have:=zb6 d.neg (n:=nm d) (e:=d.e+j) (by have:=v.bits;omega) O;exact⟨this.1,by have:=this.2.1;omega⟩
 have c4:=q84 _ hc.1 hc.2;have hw:IntKind.i64.wrap (d.e+j)=d.e+j:=wI O;generalize (if vB (cnN d.neg (nm d) (d.e+j))=true then(cnN d.neg (nm d) (d.e+j),(0:Int))else(d0,9))=R at*;generalize cnN d.neg (nm d) (d.e+j)=D at*;clear hc v he;obtain⟨d1,d2,d3⟩:=d;obtain⟨D1,D2,D3⟩:=D;obtain⟨⟨R1,R2,R3⟩,R4⟩:=R;simp only at hw c3;refine fnT hTE hmx Tryz.func47 rfl rfl (ex:= []) ?_;conv=>whnf
 refine gYn c1 ?_;refine gYn c2 ?_;rw[hw];refine gYn c3 ?_;refine gYn c4 ?_;exact⟨lr rfl,lh0⟩
