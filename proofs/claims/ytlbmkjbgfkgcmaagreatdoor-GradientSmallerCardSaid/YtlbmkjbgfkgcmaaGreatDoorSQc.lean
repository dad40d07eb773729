/- gradient.fits, gradient.all: whether intervals of a list are valid, or All. -/
import Derived.Test.YtlbmkjbgfkgcmaaGreatDoorSQb
set_option linter.all false
open Bool renaming and_eq_true->q0,eq_iff_iff->q3
open List renaming mem_of_getElem?->q1,drop_of_length_le->q2
namespace Go.Proofs.YtlbmkjbgfkgcmaaGreatDoor
open Go Go.Sx
set_option maxRecDepth 100000
set_option maxHeartbeats 8000000
def TE:Tab:= {TJ with of:= [],nb:= [],gl:= []}
theorem hTE:TabOK Tryz.prog TE:=zew Z Z
theorem ixG{g:Nat}{P:Iv->Bool}(l:List Iv)(hlen:l.length<9223372036854775808)(hg:∀y∈l,Fn g [] [.agg (ivC y)] (.bool (P y)) []):Fn 61 [] [.sl .iv l,.fn g []] (.int .i64 (ixP P l 0)) []:=by
 refine fnT hTE hmx Tryz.func61 rfl rfl (ex:= []) ?_;conv=>whnf
 refine⟨Nat,fun i=>i<=l.length/\ixP P (l.drop i) i=ixP P l 0,fun i=> [(8,.int .i64 i)],fun _=> [],fun i=>l.length-i,0,⟨OC,rfl⟩,?_,fun i hi=>?_⟩
 .exact KZ0
 refine gYe ?_;obtain⟨hi1,hi2⟩:=hi;refine brI (fun h1=>?_) (fun h1=>?_)
 .conv=>whnf
  have hi:i<l.length:=by simp only[Z4]at h1;omega
  refine⟨⟨O,O⟩,fun(x:Iv)hx=>?_⟩;have hx:l[i]? =some x:=by simpa using hx
  have hm:=q1 hx;rw[qf hx]at hi2;simp only[ixP]at hi2;conv=>whnf
  refine cbI [] (P x) (hg x hm) (fun h2=>?_) (fun h2=>?_)
  .conv=>whnf
   rw[Z6 h2]at hi2;exact⟨ai0 hi2,lh0⟩
  .conv=>whnf
   rw[Z7 (by rw[h2];simp)]at hi2;refine⟨i+1,⟨O,hi2⟩,by show l.length-(i+1)<l.length-i;omega,?_⟩;exact KZ0
 .conv=>whnf
  have hi:¬i<l.length:=by simp only[Z5]at h1;omega
  rw[q2 O]at hi2;exact⟨ai0 hi2,lh0⟩
theorem cfG{g:Nat}{P:Iv->Bool}(l:List Iv)(hlen:l.length<9223372036854775808)(hg:∀y∈l,Fn g [] [.agg (ivC y)] (.bool (P y)) []):Fn 31 [] [.sl .iv l,.fn g []] (.bool (l.any P)) []:=by
 refine fnT hTE hmx Tryz.func31 rfl rfl (ex:= []) ?_;conv=>whnf
 refine gYn (ixG l hlen hg) ?_;exact⟨ab0 (by rw[q3,Z4];exact zeg P l 0),lh0⟩
theorem ixR{g:Nat}{P:List Iv->Bool}(l:List (List Iv))(hlen:l.length<9223372036854775808)(hg:∀y∈l,Fn g [] [.sl .iv y] (.bool (P y)) []):Fn 39 [] [.sl .vs l,.fn g []] (.int .i64 (ixP P l 0)) []:=by
 refine fnT hTE hmx Tryz.func39 rfl rfl (ex:= []) ?_;conv=>whnf
 refine⟨Nat,fun i=>i<=l.length/\ixP P (l.drop i) i=ixP P l 0,fun i=> [(8,.int .i64 i)],fun _=> [],fun i=>l.length-i,0,⟨OC,rfl⟩,?_,fun i hi=>?_⟩
 .exact KZ0
 refine gYe ?_;obtain⟨hi1,hi2⟩:=hi;refine brI (fun h1=>?_) (fun h1=>?_)
 .conv=>whnf
  have hi:i<l.length:=by simp only[Z4]at h1;omega
  refine⟨⟨O,O⟩,fun(x:List Iv)hx=>?_⟩;have hx:l[i]? =some x:=by simpa using hx
  have hm:=q1 hx;rw[qf hx]at hi2;simp only[ixP]at hi2;conv=>whnf
  refine cbI [] (P x) (hg x hm) (fun h2=>?_) (fun h2=>?_)
  .conv=>whnf
   rw[Z6 h2]at hi2;exact⟨ai0 hi2,lh0⟩
  .conv=>whnf
   rw[Z7 (by rw[h2];simp)]at hi2;refine⟨i+1,⟨O,hi2⟩,by show l.length-(i+1)<l.length-i;omega,?_⟩;exact KZ0
 .conv=>whnf
  have hi:¬i<l.length:=by simp only[Z5]at h1;omega
  rw[q2 O]at hi2;exact⟨ai0 hi2,lh0⟩
theorem cfR{g:Nat}{P:List Iv->Bool}(l:List (List Iv))(hlen:l.length<9223372036854775808)(hg:∀y∈l,Fn g [] [.sl .iv y] (.bool (P y)) []):Fn 11 [] [.sl .vs l,.fn g []] (.bool (l.any P)) []:=by
 refine fnT hTE hmx Tryz.func11 rfl rfl (ex:= []) ?_;conv=>whnf
 refine gYn (ixR l hlen hg) ?_;exact⟨ab0 (by rw[q3,Z4];exact zeg P l 0),lh0⟩
def ibV(y:Iv):Bool:= !viB y
theorem q64(y:Iv)(hy:RI y):Fn 64 [] [.agg (ivC y)] (.bool (ibV y)) []:=by
 have h:=i51 y hy;unfold ibV;generalize viB y=b at*;cases b
 all_goals
  refine fnT hTQ hmx Tryz.func64 rfl rfl (ex:= []) ?_;conv=>whnf
  refine gYn h ?_;exact⟨lr rfl,lh0⟩
theorem q89(y:Iv)(hy:RI y):Fn 89 [] [.agg (ivC y)] (.bool (ibV y)) []:=by
 have h:=i51 y hy;unfold ibV;generalize viB y=b at*;cases b
 all_goals
  refine fnT hTQ hmx Tryz.func89 rfl rfl (ex:= []) ?_;conv=>whnf
  refine gYn h ?_;exact⟨lr rfl,lh0⟩
theorem q165(y:Iv):Fn 165 [] [.agg (ivC y)] (.bool y.all) []:=by
 refine fnT hTQ hmx Tryz.func165 rfl rfl (ex:= []) ?_;conv=>whnf
 exact⟨lr rfl,lh0⟩
theorem q88(l:List Iv)(hlen:l.length<9223372036854775808):Fn 88 [] [.sl .iv l] (.bool (l.any fun y=>y.all)) []:=by
 have h:=cfG (g:=165) (P:=fun y=>y.all) l hlen fun y _=>q165 y
 generalize l.any (fun y=>y.all)=b at*;refine fnT hTQ hmx Tryz.func88 rfl rfl (ex:= []) ?_;conv=>whnf
 refine gYn h ?_;exact⟨lr rfl,lh0⟩
theorem q63(p:Int):Fn 63 [] [.int .i64 p] (.bool (pcB p)) []:=by
 have e:pcB p=(decide (p≥8)&&decide (p<=512)):=by unfold pcB;rfl
 rw[e];refine fnT hTQ hmx Tryz.func63 rfl rfl (ex:= []) ?_;conv=>whnf
 refine brI (fun h=>?_) (fun h=>?_)
 .conv=>whnf
  rw[h];exact⟨lr rfl,lh0⟩
 .conv=>whnf
  rw[h];exact⟨lr rfl,lh0⟩
def fiB(t:Tp)(x:List Iv)(p:Int):Bool:=tvB t&&(decide ((x.length:Int)=t.ins)&&(pcB p&& !x.any ibV))
theorem q33(t:Tp)(x:List Iv)(p:Int)(h1:t.ops.length<9223372036854775808)(h2:t.outs.length<9223372036854775808)(hx:∀y∈x,RI y)(hxl:x.length<9223372036854775808):
 Fn 33 [] [.agg (tpC t),.sl .iv x,.int .i64 p] (.bool (fiB t x p)) []:=by
 have c1:=f41 t h1 h2;have c2:=q63 p;have c3:=cfG (g:=64) (P:=ibV) x hxl fun y hy=>q64 y (hx y hy)
 unfold fiB;generalize tvB t=b1 at*;generalize pcB p=b2 at*;generalize x.any ibV=b3 at*
 cases b1 with
 |false=>
  refine fnT hTQ hmx Tryz.func33 rfl rfl (ex:= []) ?_;conv=>whnf
  refine gYn c1 ?_;exact⟨lr rfl,lh0⟩
 |true=>
  cases b2<;>cases b3
  all_goals
   refine fnT hTQ hmx Tryz.func33 rfl rfl (ex:= []) ?_;conv=>whnf
   refine gYn c1 ?_;refine brI (fun g=>?_) (fun g=>?_)
  all_goals conv=>whnf
  all_goals first
   |(rw[show decide ((x.length:Int)=t.ins)=false from g];exact⟨lr rfl,lh0⟩)
   |(rw[show decide ((x.length:Int)=t.ins)=true from g]
     refine gYn c2 ?_
     first
      |exact⟨lr rfl,lh0⟩
      |(refine gZn c3 ?_
        conv=>whnf
        exact⟨lr rfl,lh0⟩))
theorem q162(o:TOp)(n:Int)(h:tB o n=true):Fn 162 [] [.agg (Elt.op.cells o),.int .i64 n] (.bool true) []:=by
 obtain⟨k,a,b,p,⟨c,d⟩⟩:=o;show Fn 162 [] [.agg [.int .i64 k,.int .i64 a,.int .i64 b,.int .i64 p,.int .i64 c,.int .i64 d],.int .i64 n] (.bool true) [];by_cases h1:k=1
 .subst h1;have h54:=f54 c d;unfold tB at h;rw[Z6 rfl]at h;simp only[q0,beq_iff_eq]at h;obtain⟨rfl,rfl,rfl,hv⟩:=h;rw[hv]at h54;refine fnT hTE hmx Tryz.func162 rfl rfl (ex:= []) ?_;conv=>whnf
  refine gYn h54 ?_;exact⟨lr rfl,lh0⟩
 unfold tB at h;rw[Z7 h1]at h;split at h
 .rename_i hk;simp only[q0,ibO,Z4,beq_iff_eq]at h;obtain⟨⟨ha1,ha2⟩,⟨hb1,hb2⟩,rfl,rfl,rfl⟩:=h;simp only at hk;rcases hk with rfl|rfl|rfl|rfl
  all_goals
   refine fnT hTE hmx Tryz.func162 rfl rfl (ex:= []) ?_;conv=>whnf
   repeat' first
    |exact⟨lr rfl,lh0⟩
    |(refine brI (fun h=>absurd (Z0 h) O) (fun _=>?_);(conv=>whnf))
    |(refine brI (fun _=>?_) (fun h=>absurd (Z3 h) O);(conv=>whnf))
    |fail
 split at h
 .rename_i hk;simp only[q0,ibO,Z4,beq_iff_eq]at h;obtain⟨⟨ha1,ha2⟩,rfl,⟨hp1,hp2⟩,rfl,rfl⟩:=h;obtain rfl:k=8:=hk;refine fnT hTE hmx Tryz.func162 rfl rfl (ex:= []) ?_;conv=>whnf
  repeat' first
   |exact⟨ab0 (Z8 O),lh0⟩
   |(refine brI (fun h=>absurd (Z0 h) O) (fun _=>?_);(conv=>whnf))
   |(refine brI (fun _=>?_) (fun h=>absurd (Z3 h) O);(conv=>whnf))
   |fail
 split at h
 .rename_i hk;simp only[q0,ibO,Z4,beq_iff_eq]at h;obtain⟨⟨ha1,ha2⟩,rfl,rfl,rfl,rfl⟩:=h;simp only at hk;rcases hk with rfl|rfl|rfl|rfl|rfl|rfl
  all_goals
   refine fnT hTE hmx Tryz.func162 rfl rfl (ex:= []) ?_;conv=>whnf
   repeat' first
    |exact⟨lr rfl,lh0⟩
    |(refine brI (fun h=>absurd (Z0 h) O) (fun _=>?_);(conv=>whnf))
    |(refine brI (fun _=>?_) (fun h=>absurd (Z3 h) O);(conv=>whnf))
    |fail
 .cases h
structure Sysm where
 tp:Tp
 st:Int
 ps:List Iv
def syC(s:Sysm):List AV:=tpC s.tp++ [.int .i64 s.st,.sl .iv s.ps]
def vsB(s:Sysm):Bool:=tvB s.tp&&(decide (1<=s.st/\s.st<=4/\(s.tp.outs.length:Int)=s.st/\s.ps.length<=4/\s.tp.ins=s.st+s.ps.length)&&s.ps.all kB)
abbrev Hs(t:Tp):Hp:= [(1000003,.cells (tpC t))]
theorem leHs(t:Tp){h h':Hp}:leH h h' (Hs t) (Hs t):=lh1 (bc0 (lc (lr rfl) (lc (lr rfl) (lc (lr rfl) ln0)))) lh0
theorem q163(t:Tp)(k:Int)(ht:0<=t.ins/\t.ins<=8/\t.ops.length<=200)(hk:0<=k/\k<t.ins+t.ops.length):Fn 163 (Hs t) [.int .i64 k,.ptr 1000003 0] (.bool false) (Hs t):=by
 refine fnT hTE hmx Tryz.func163 rfl rfl (ex:= []) ?_;conv=>whnf
 refine brI (fun h=>absurd (Z0 h) O) (fun h=>?_);conv=>whnf
 rw[wI O];refine⟨ab0 ?_,leHs t⟩;exact Z9 O
theorem q176(t:Tp)(ht:0<=t.ins/\t.ins<=8/\t.ops.length<=200)(l:List Int)(hlen:l.length<9223372036854775808)(hl:∀k∈l,0<=k/\k<t.ins+t.ops.length):Fn 176 (Hs t) [.sl .int l,.fn 163 [.ptr 1000003 0]] (.int .i64 (-1)) (Hs t):=by
 refine fnT hTE hmx Tryz.func176 rfl rfl (ex:= []) ?_;conv=>whnf
 refine⟨Nat,fun i=>i<=l.length,fun i=> [(8,.int .i64 i)],fun _=> [],fun i=>l.length-i,0,Nat.zero_le _,?_,fun i hi=>?_⟩
 .exact KZ0
 refine gYe ?_;refine brI (fun h1=>?_) (fun h1=>?_)
 .conv=>whnf
  have hi:i<l.length:=by simp only[Z4]at h1;omega
  refine⟨⟨O,O⟩,fun(x:Int)hx=>?_⟩;have hx:l[i]? =some x:=by simpa using hx
  have h163:=q163 t x ht (hl x (q1 hx));conv=>whnf
  refine⟨[.cells (tpC t)],_,h163,?_⟩;conv=>whnf
  refine⟨i+1,O,by show l.length-(i+1)<l.length-i;omega,?_⟩;exact KZ0
 .conv=>whnf
  exact⟨lr rfl,leHs t⟩
theorem q108(t:Tp)(ht:0<=t.ins/\t.ins<=8/\t.ops.length<=200)(l:List Int)(hlen:l.length<9223372036854775808)(hl:∀k∈l,0<=k/\k<t.ins+t.ops.length):Fn 108 (Hs t) [.sl .int l,.fn 163 [.ptr 1000003 0]] (.bool false) (Hs t):=by
 refine fnT hTE hmx Tryz.func108 rfl rfl (ex:= []) ?_;conv=>whnf
 refine⟨[.cells (tpC t)],_,q176 t ht l hlen hl,?_⟩;conv=>whnf
 exact⟨lr rfl,leHs t⟩
theorem q164{x:Iv}(k:KI x):Fn 164 [] [.agg (ivC x)] (.bool false) []:=by
 have h1:=v80 k.lo;have h2:=v80 k.hi;have h3:=v81 k.lo k.hi;have h4:=k.le;have ha:=k.all;generalize qd x.lo x.hi=c at*;clear k;obtain⟨x1,x2,x3⟩:=x;have ha:x3=false:=ha;subst ha;refine fnT hTE hmx Tryz.func164 rfl rfl (ex:= []) ?_;conv=>whnf
 refine gYn h1 ?_;refine gYn h2 ?_;refine gYn h3 ?_;exact⟨ab0 (Z9 O),lh0⟩
theorem q87(s:Sysm)(h:vsB s=true)(hr:∀y∈s.ps,RI y):Fn 87 [] [.agg (syC s)] (.bool true) []:=by
 obtain⟨t,st,ps⟩:=s;unfold vsB at h;simp only[q0,Z4]at h;obtain⟨ht,⟨s1,s2,s3,s4,s5⟩,hp⟩:=h;obtain⟨⟨a1,a2,a3,a4⟩,hob,hout⟩:=wu ht;have h108:=q108 t ⟨a1,a2,a3⟩ t.outs O hout;have h31:=cfG (g:=164) (P:=fun _=>false) ps O fun y hy=>by
  have hk:=List.all_eq_true.1 hp y hy;have k:KI y:=(zq (hr y hy)).1 hk;exact q164 k
 rw[show(ps.any fun _=>false)=false by simp]at h31;clear hout;show Fn 87 [] [.agg [.int .i64 t.ins,.sl .op t.ops,.sl .int t.outs,.int .i64 st,.sl .iv ps]] _ _;refine fnT hTE hmx Tryz.func87 rfl rfl (ex:= []) ?_;conv=>whnf
 refine brI (fun c=>absurd (Z0 c) O) (fun _=>?_);conv=>whnf
 refine brI (fun c=>absurd (Z0 c) O) (fun _=>?_);conv=>whnf
 refine brI (fun c=>absurd (Z0 c) O) (fun _=>?_);conv=>whnf
 refine brI (fun c=>absurd (Z0 c) O) (fun _=>?_);conv=>whnf
 refine⟨Nat,fun i=>i<=t.ops.length,fun i=> [(31,.int .i64 i)],fun _=> [],fun i=>t.ops.length-i,0,Nat.zero_le _,?_,fun i hi=>?_⟩
 .exact KZ0
 refine gYe ?_;refine brI (fun c=>?_) (fun c=>?_)
 .have c:=Z0 c;have hi:i<t.ops.length:=O;conv=>whnf
  refine⟨⟨O,O⟩,fun(x:TOp)hx=>?_⟩;have hx:t.ops[i]? =some x:=by simpa using hx
  have h162:=q162 x (t.ins+i) (zfh hob hx);have hw:IntKind.i64.wrap (t.ins+(i:Int))=t.ins+i:=wI O;conv=>whnf
  rw[hw];refine gYn h162 ?_;refine⟨i+1,O,by show t.ops.length-(i+1)<t.ops.length-i;omega,?_⟩;exact KZ0
 conv=>whnf
 refine⟨[.cells (tpC t)],_,h108.sw [(3,1000003)] rfl,?_⟩;conv=>whnf
 refine brI (fun c=>absurd (Z0 c) O) (fun _=>?_);conv=>whnf
 refine brI (fun c=>absurd (Z0 c) O) (fun _=>?_);conv=>whnf
 refine brI (fun c=>absurd (show(t.outs.length:Int)=st from s3) (by simpa using c)) (fun _=>?_);conv=>whnf
 refine brI (fun c=>absurd (show t.ins=IntKind.i64.wrap (st+(ps.length:Int)) by rw[wI O];exact s5) (by simpa using c)) (fun _=>?_);conv=>whnf
 refine brI (fun c=>absurd (Z0 c) O) (fun _=>?_);conv=>whnf
 refine gYn h31 ?_;exact⟨lr rfl,lh0⟩
def haB(x:Iv)(d:Dy):Bool:=decide (qd x.lo d<=0)&&decide (qd d x.hi<=0)
theorem q98{x:Iv}(hx:RI x)(k:KI x){d:Dy}(hd:VD d):Fn 98 [] [.agg (ivC x),.agg (dyC d)] (.bool (haB x d)) []:=by
 have h1:=i51 x hx;rw[(yg hx).2 (.inl k)]at h1;have h2:=v80 hd;have h3:=v81 k.lo hd;have h4:=v81 hd k.hi;have ha:=k.all;unfold haB;generalize qd x.lo d=c at*;generalize qd d x.hi=e at*;clear k hx;obtain⟨x1,x2,x3⟩:=x;have ha:x3=false:=ha;subst ha;refine fnT hTQ hmx Tryz.func98 rfl rfl (ex:= []) ?_;conv=>whnf
 refine gYn h1 ?_;refine gYn h2 ?_;refine gYn h3 ?_;refine brI (fun g=>?_) (fun g=>?_)
 .conv=>whnf
  refine gYn h4 ?_;rw[g];exact⟨lr rfl,lh0⟩
 .conv=>whnf
  rw[g];exact⟨lr rfl,lh0⟩
def zx5(x:Iv)(p:Int):Dy:=
 if ¬(kB x=true/\pcB p=true)then d0 else
 if(zas x.lo x.hi p.toNat false).2≠0 then x.lo else
 if(qc (zas x.lo x.hi p.toNat false).1 (-1)).2≠0 then x.lo else
 if haB x (qc (zas x.lo x.hi p.toNat false).1 (-1)).1=true then(qc (zas x.lo x.hi p.toNat false).1 (-1)).1 else x.lo
theorem q55(x:Iv)(hx:RI x)(p:Int):Fn 55 G0 [.agg (ivC x),.int .i64 p] (.agg (dyC (zx5 x p))) G0:=by
 have h94:=zmw [x] OC (by simpa using hx);rw[k1]at h94;have h95:=zwi p;unfold zx5;by_cases hk:kB x=true
 .rw[hk]at h94;by_cases hp:pcB p=true
  .rw[Z7 (by simp[hk,hp])];rw[hp]at h95;have kx:=(zq hx).1 hk;have hp':=qn hp;have e:((p.toNat:Nat):Int)=p:=by unfold pcB at hp;simp at hp;omega
   have h96:=v128 kx.lo kx.hi p.toNat hp';rw[e]at h96;have h97:=v230 (zpc x.lo x.hi false p.toNat hp') (-1);have h98:=q98 hx kx (uz (zas x.lo x.hi p.toNat false).1 (-1));generalize zas x.lo x.hi p.toNat false=A at*;generalize qc A.1 (-1)=B at*;generalize haB x B.1=c at*;clear kx hx hk hp hp' e;obtain⟨A1,A2⟩:=A;obtain⟨B1,B2⟩:=B;obtain⟨x1,x2,x3⟩:=x;simp only;refine fnT hTQ hmx Tryz.func55 rfl rfl (ex:= []) ?_;conv=>whnf
   refine gYn h94 ?_;refine gYn h95 ?_;refine gYc h96 ?_;refine brI (fun g=>?_) (fun g=>?_)
   .have g:(A2 != 0)=true:=g;rw[Z6 (by simpa using g)];conv=>whnf
    exact⟨lr rfl,leG⟩
   have g:(A2 != 0)=false:=g;rw[Z7 (by simpa using g)];conv=>whnf
   refine gYc h97 ?_;refine brI (fun g=>?_) (fun g=>?_)
   .have g:(B2 != 0)=true:=g;rw[Z6 (by simpa using g)];conv=>whnf
    exact⟨lr rfl,leG⟩
   have g:(B2 != 0)=false:=g;rw[Z7 (by simpa using g)];conv=>whnf
   refine gYn h98 ?_;cases c
   all_goals
    conv=>whnf
    exact⟨lr rfl,leG⟩
  .rw[Z6 (fun h=>hp h.2)];rw[show pcB p=false by simpa using hp]at h95;clear hx hk;obtain⟨x1,x2,x3⟩:=x;refine fnT hTQ hmx Tryz.func55 rfl rfl (ex:= []) ?_;conv=>whnf
   refine gYn h94 ?_;refine gYn h95 ?_;exact⟨lg0 (lc (lr rfl) (lc (li0 rfl) (lc (lr rfl) ln0))),leG⟩
 .rw[Z6 (fun h=>hk h.1)];rw[show kB x=false by simpa using hk]at h94;clear hx hk;obtain⟨x1,x2,x3⟩:=x;refine fnT hTQ hmx Tryz.func55 rfl rfl (ex:= []) ?_;conv=>whnf
  refine gYn h94 ?_;exact⟨lg0 (lc (lr rfl) (lc (li0 rfl) (lc (lr rfl) ln0))),leG⟩
