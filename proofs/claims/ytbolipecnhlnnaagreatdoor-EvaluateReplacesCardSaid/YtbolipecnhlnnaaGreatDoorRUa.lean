/-
  The seat's type table; how a contract is proved.
-/
import Derived.Test.YtbolipecnhlnnaaGreatDoorRZz
import Derived.Test.YtbolipecnhlnnaaGreatDoorChecked
set_option linter.unusedVariables false
set_option linter.unusedSimpArgs false
open Nat renaming gcd->q2,pos_of_ne_zero->q3,gcd_comm->q4,mod_lt->q5,gcd_zero_right->q6,gcd_rec->q7
namespace Go.Proofs.YtbolipecnhlnnaaGreatDoor
open Go Go.Sx
def Ty:List (Nat×TI):= [
 (3,⟨1,1,[],0,0,0,some .int,.i64,[.int .i64 0],8,false⟩),
 (26,⟨2,3,[(0,1,false),(1,1,false),(2,1,false)],0,0,0,some .dy,.i64,[.bool false,.nilsl,.int .i64 0],40,false⟩),
 (28,⟨2,7,[(0,3,true),(3,3,true),(6,1,false)],0,0,0,some .iv,.i64,[.bool false,.nilsl,.int .i64 0,.bool false,.nilsl,.int .i64 0,.bool false],88,false⟩),
 (24,⟨3,1,[],108,1,0,some .ls,.i64,[.nilsl],24,false⟩),
 (4,⟨6,1,[],0,0,0,some .bool,.i64,[.bool false],1,false⟩),
 (23,⟨3,1,[],28,7,0,some .vs,.i64,[.nilsl],24,false⟩),
 (108,⟨1,1,[],0,0,0,some .u32,.u32,[.int .u32 0],4,false⟩),
 (143,⟨1,1,[],0,0,0,none,.u64,[.int .u64 0],8,false⟩),
 (215,⟨2,2,[(0,1,false),(1,1,false)],0,0,0,none,.i64,[.bool false,.nilsl],32,false⟩),
 (63,⟨2,6,[(0,1,false),(1,2,true),(3,1,false),(4,1,false),(5,1,false)],0,0,0,some .ex,.i64,[.int .i64 0,.int .i64 0,.int .i64 0,.str [],.int .i64 0,.nilsl],72,false⟩),
 (22,⟨3,1,[],23,1,0,none,.i64,[.nilsl],24,false⟩),
 (9,⟨5,1,[],0,0,0,some .str,.i64,[.str []],16,false⟩),
 (60,⟨2,2,[(0,1,false),(1,1,false)],0,0,0,some .rat,.i64,[.int .i64 0,.int .i64 0],16,true⟩),
 (64,⟨3,1,[],9,1,0,none,.i64,[.nilsl],24,false⟩),
 (61,⟨3,1,[],63,6,0,none,.i64,[.nilsl],24,false⟩),
 (160,⟨2,1,[(0,1,false)],0,0,0,none,.i64,[.int .i64 0],8,true⟩),
 (88,⟨2,2,[(0,1,false),(1,1,false)],0,0,0,none,.i64,[.nilsl,.nilsl],48,false⟩),
 (32,⟨1,1,[],0,0,0,none,.i64,[.int .i64 0],8,false⟩),
 (5,⟨1,1,[],0,0,0,none,.u8,[.int .u8 0],1,false⟩),
 (209,⟨2,3,[(0,1,false),(1,1,false),(2,1,false)],0,0,0,none,.i64,[.nilsl,.int .i64 0,.bool false],40,false⟩),
 (163,⟨4,6,[],26,3,2,none,.i64,[.bool false,.nilsl,.int .i64 0,.bool false,.nilsl,.int .i64 0],80,false⟩),
 (273,⟨1,1,[],0,0,0,none,.u64,[.int .u64 0],8,false⟩),
 (42,⟨3,1,[],26,3,0,none,.i64,[.nilsl],24,false⟩),
 (231,⟨4,4,[],60,2,2,none,.i64,[.int .i64 0,.int .i64 0,.int .i64 0,.int .i64 0],32,false⟩),
 (37,⟨1,1,[],0,0,0,none,.u64,[.int .u64 0],8,false⟩),
 (281,⟨3,1,[],24,1,0,none,.i64,[.nilsl],24,false⟩),
 (29,⟨1,1,[],0,0,0,none,.u16,[.int .u16 0],2,false⟩),
 (250,⟨3,1,[],163,6,0,none,.i64,[.nilsl],24,false⟩),
 (68,⟨8,1,[],0,0,0,none,.i64,[.nilf],8,false⟩),
 (118,⟨3,1,[],60,2,0,none,.i64,[.nilsl],24,false⟩),
 (164,⟨4,24,[],163,6,4,none,.i64,[.bool false,.nilsl,.int .i64 0,.bool false,.nilsl,.int .i64 0,.bool false,.nilsl,.int .i64 0,.bool false,.nilsl,.int .i64 0,.bool false,.nilsl,.int .i64 0,.bool false,.nilsl,.int .i64 0,.bool false,.nilsl,.int .i64 0,.bool false,.nilsl,.int .i64 0],320,false⟩),
 (171,⟨9,1,[],9,0,60,none,.i64,[.nilm],8,false⟩),
 (67,⟨8,1,[],0,0,0,none,.i64,[.nilf],8,false⟩),
 (119,⟨9,1,[],9,0,28,none,.i64,[.nilm],8,false⟩),
 (180,⟨4,14,[],28,7,2,none,.i64,[.bool false,.nilsl,.int .i64 0,.bool false,.nilsl,.int .i64 0,.bool false,.bool false,.nilsl,.int .i64 0,.bool false,.nilsl,.int .i64 0,.bool false],176,false⟩),
 (179,⟨7,1,[],3,0,0,none,.i64,[.nilp],8,false⟩),
 (284,⟨4,32,[],5,1,32,none,.i64,[.int .u8 0,.int .u8 0,.int .u8 0,.int .u8 0,.int .u8 0,.int .u8 0,.int .u8 0,.int .u8 0,.int .u8 0,.int .u8 0,.int .u8 0,.int .u8 0,.int .u8 0,.int .u8 0,.int .u8 0,.int .u8 0,.int .u8 0,.int .u8 0,.int .u8 0,.int .u8 0,.int .u8 0,.int .u8 0,.int .u8 0,.int .u8 0,.int .u8 0,.int .u8 0,.int .u8 0,.int .u8 0,.int .u8 0,.int .u8 0,.int .u8 0,.int .u8 0],32,false⟩),
 (129,⟨9,1,[],9,0,63,none,.i64,[.nilm],8,false⟩),
 (238,⟨1,1,[],0,0,0,none,.i64,[.int .i64 0],8,false⟩),
 (48,⟨8,1,[],0,0,0,none,.i64,[.nilf],8,false⟩)]
def T:Tab:= {ty:=Ty,of:= [111,112],nb:= [(110,1),(170,1),(112,1),(187,1)]}
theorem hmx:Tryz.prog.follows .mixedOrders =true:=by kernel_rfl
theorem hT:TabOK Tryz.prog T:=zko (by kernel_rfl) (by kernel_rfl)
abbrev Fn (f:Nat) (H:Hp) (A:List AV) (r:AV) (H':Hp):Prop:=zkj Tryz.prog f H A r H'
set_option maxRecDepth 100000
set_option maxHeartbeats 1000000
theorem f105 (n:Int) (h: -9223372036854775808<=n/\n<=9223372036854775807):Fn 257 [] [.int .i64 n] (.int .u64 (n.natAbs:Int)) []:=by
 refine fnT hT hmx Tryz.func257 rfl rfl (ex:= []) ?_;conv=>whnf
 refine brI (fun hb=>?_) (fun hb=>?_)
 ·conv=>whnf
  simp at hb;refine⟨ai0 ?_,lh0⟩;rcases Decidable.em (n= -9223372036854775808)with e|e
  ·subst e;rfl
  ·rw[wI (by omega),wU (by omega)];omega
 ·conv=>whnf
  simp at hb;refine⟨ai0 ?_,lh0⟩;rw[wU (by omega)];omega
theorem qal (a b:Nat):Int.tdiv (a:Int) (b:Int)=((a/b:Nat):Int):=by
 rw[Int.tdiv_eq_ediv_of_nonneg (by omega)];rfl
theorem f104 (a b:Nat) (ha:a<18446744073709551616) (hb:b<18446744073709551616):Fn 256 [] [.int .u64 a,.int .u64 b] (.int .u64 (q2 a b:Int)) []:=by
 refine fnT hT hmx Tryz.func256 rfl rfl (ex:= []) ?_;conv=>whnf
 refine⟨Nat×Nat,fun x=>q2 x.1 x.2=q2 a b/\x.1<18446744073709551616/\x.2<18446744073709551616,fun x=> [(0,.int .u64 x.1),(1,.int .u64 x.2)],fun _=> [],fun x=>x.2,(a,b),⟨rfl,ha,hb⟩,?_,fun x hx=>?_⟩
 ·((conv=>whnf);refine⟨?_,lh0⟩;repeat' first|exact ln0|exact la0|exact lr rfl|refine lc ?_ ?_)
 ·obtain⟨hg,h1,h2⟩:=hx
  (refine⟨by kernel_rfl,?_⟩;(conv=>whnf))
  refine brI (fun hb=>?_) (fun hb=>?_)
  ·conv=>whnf
   simp at hb;refine⟨by omega,?_⟩;conv=>whnf
   (refine⟨by kernel_rfl,by kernel_rfl,?_⟩;(conv=>whnf))
   refine⟨(x.2,x.1 % x.2),⟨?_,h2,?_⟩,?_,?_⟩
   ·rw[←hg];show q2 x.2 (x.1 % x.2)=_;rw[q4 x.1 x.2,q4 x.2 (x.1 % x.2)];exact(q7 _ _).symm
   ·have:=q5 x.1 (q3 hb);omega
   ·exact q5 x.1 (q3 hb)
   ·((conv=>whnf);refine⟨?_,lh0⟩;repeat' first|exact ln0|exact la0|exact lr rfl|refine lc ?_ ?_)
  ·conv=>whnf
   simp at hb;refine⟨ai0 ?_,lh0⟩;rw[←hg,hb,q6]
theorem wQ (a g:Nat) (ha:a<18446744073709551616):IntKind.u64.wrap (Int.tdiv (a:Int) (g:Int))=((a/g:Nat):Int):=by
 have:=Nat.div_le_self a g;rw[qal];generalize a/g=c at*;rw[wU];omega
theorem f155 (a b:Nat) (ha:a<18446744073709551616) (hb:b<18446744073709551616):Fn 329 [] [.int .u64 a,.int .u64 b] (.int .u64 (q2 a b:Int)) []:=by
 refine fnT hT hmx Tryz.func329 rfl rfl (ex:= []) ?_;conv=>whnf
 refine⟨Nat×Nat,fun x=>q2 x.1 x.2=q2 a b/\x.1<18446744073709551616/\x.2<18446744073709551616,fun x=> [(0,.int .u64 x.1),(1,.int .u64 x.2)],fun _=> [],fun x=>x.2,(a,b),⟨rfl,ha,hb⟩,?_,fun x hx=>?_⟩
 ·((conv=>whnf);refine⟨?_,lh0⟩;repeat' first|exact ln0|exact la0|exact lr rfl|refine lc ?_ ?_)
 ·obtain⟨hg,h1,h2⟩:=hx
  (refine⟨by kernel_rfl,?_⟩;(conv=>whnf))
  refine brI (fun hb=>?_) (fun hb=>?_)
  ·conv=>whnf
   simp at hb;refine⟨by omega,?_⟩;conv=>whnf
   (refine⟨by kernel_rfl,by kernel_rfl,?_⟩;(conv=>whnf))
   refine⟨(x.2,x.1 % x.2),⟨?_,h2,?_⟩,?_,?_⟩
   ·rw[←hg];show q2 x.2 (x.1 % x.2)=_;rw[q4 x.1 x.2,q4 x.2 (x.1 % x.2)];exact(q7 _ _).symm
   ·have:=q5 x.1 (q3 hb);omega
   ·exact q5 x.1 (q3 hb)
   ·((conv=>whnf);refine⟨?_,lh0⟩;repeat' first|exact ln0|exact la0|exact lr rfl|refine lc ?_ ?_)
  ·conv=>whnf
   simp at hb;refine⟨ai0 ?_,lh0⟩;rw[←hg,hb,q6]
theorem f156 (n:Int) (h: -9223372036854775808<=n/\n<=9223372036854775807):Fn 254 [] [.int .i64 n] (.int .u64 (n.natAbs:Int)) []:=by
 refine fnT hT hmx Tryz.func254 rfl rfl (ex:= []) ?_;conv=>whnf
 refine brI (fun hb=>?_) (fun hb=>?_)
 ·conv=>whnf
  simp at hb;refine⟨ai0 ?_,lh0⟩;rw[wI (x:=n+1) (by omega),wI (by omega),wU (x:=0-(n+1)) (by omega),wU (by omega)];omega
 ·conv=>whnf
  simp at hb;refine⟨ai0 ?_,lh0⟩;rw[wU (by omega)];omega
theorem wN (c:Nat) (h: ¬((c:Int)>1073741824)):IntKind.i64.wrap (c:Int)=(c:Int):=wI (by omega)
theorem wM (c:Nat) (h: ¬((c:Int)>1073741824)):IntKind.i64.wrap (0-(c:Int))= -(c:Int):=by rw[wI (by omega)];omega
def rIn (r:Rt):Prop:=1<=r.d/\r.d<=1073741824/\ -1073741824<=r.n/\r.n<=1073741824
instance (r:Rt):Decidable (rIn r):=by unfold rIn;infer_instance
def rOk (r:Rt):Bool:=decide (rIn r)&&(q2 r.n.natAbs r.d.natAbs==1)
theorem ze0 {r:Rt} (h: ¬rIn r):false=rOk r:=by simp[rOk,h]
theorem f54 (n d:Int):Fn 172 [] [.agg [.int .i64 n,.int .i64 d]] (.bool (rOk ⟨n,d⟩)) []:=by
 refine fnT hT hmx Tryz.func172 rfl rfl (ex:= []) ?_;conv=>whnf
 refine brI (fun h1=>?_) (fun h1=>?_)
 ·conv=>whnf
  refine brI (fun h2=>?_) (fun h2=>?_)
  ·conv=>whnf
   refine brI (fun h3=>?_) (fun h3=>?_)
   ·conv=>whnf
    refine brI (fun h4=>?_) (fun h4=>?_)
    ·conv=>whnf
     simp only[decide_eq_true_eq]at h1 h2 h3 h4;refine gZn (f105 n (by omega)) ?_;conv=>whnf
     refine gZn (f105 d (by omega)) ?_;conv=>whnf
     refine gZn (f104 n.natAbs d.natAbs (by omega) (by omega)) ?_;conv=>whnf
     (refine⟨by kernel_rfl,by kernel_rfl,?_⟩;(conv=>whnf))
     refine⟨ab0 ?_,lh0⟩;have:rIn ⟨n,d⟩:=⟨h1,h2,h3,h4⟩;simp only[rOk,this,decide_true,Bool.true_and];rw[Bool.eq_iff_iff];simp;omega
    ·conv=>whnf
     (refine⟨by kernel_rfl,by kernel_rfl,?_⟩;(conv=>whnf))
     exact⟨ab0 (ze0 fun h=>by simp[rIn]at h h4;omega),lh0⟩
   ·conv=>whnf
    (refine⟨by kernel_rfl,by kernel_rfl,?_⟩;(conv=>whnf))
    exact⟨ab0 (ze0 fun h=>by simp[rIn]at h h3;omega),lh0⟩
  ·conv=>whnf
   (refine⟨by kernel_rfl,by kernel_rfl,?_⟩;(conv=>whnf))
   exact⟨ab0 (ze0 fun h=>by simp[rIn]at h h2;omega),lh0⟩
 ·conv=>whnf
  (refine⟨by kernel_rfl,by kernel_rfl,?_⟩;(conv=>whnf))
  exact⟨ab0 (ze0 fun h=>by simp[rIn]at h h1;omega),lh0⟩
def low (neg:Bool) (a b:Nat):Option Rt:=
 if a/q2 a b<=1073741824/\b/q2 a b<=1073741824 then some ⟨if neg then-((a/q2 a b:Nat):Int)else((a/q2 a b:Nat):Int),((b/q2 a b:Nat):Int)⟩else none
def zfd (n d:Int):Rt×Int:=if d=0 then(⟨0,0⟩,10)else match low (decide (n<0) != decide (d<0)) n.natAbs d.natAbs with
 |none=>(⟨0,0⟩,9)
 |some r=>(r,0)
abbrev rtv (r:Rt):AV:= .agg [.int .i64 r.n,.int .i64 r.d]
theorem f144 (n d:Int) (hn: -9223372036854775808<=n/\n<=9223372036854775807) (hd: -9223372036854775808<=d/\d<=9223372036854775807):
 Fn 379 [] [.int .i64 n,.int .i64 d] (.tup [rtv (zfd n d).1,.int .i64 (zfd n d).2]) []:=by
 refine fnT hT hmx Tryz.func379 rfl rfl (ex:= []) ?_;conv=>whnf
 refine brI (fun h1=>?_) (fun h1=>?_)
 ·conv=>whnf
  have h1:d=0:=by simpa using h1
  refine⟨?_,lh0⟩;have:zfd n d=(⟨0,0⟩,10):=by simp[zfd,h1]
  rw[this];exact lr rfl
 ·conv=>whnf
  have h1:d≠0:=by simpa using h1
  refine gZn (f105 n hn) ?_;conv=>whnf
  refine gZn (f105 d hd) ?_;conv=>whnf
  refine gZn (f104 n.natAbs d.natAbs (by omega) (by omega)) ?_;conv=>whnf
  have hg0:q2 n.natAbs d.natAbs≠0:=fun e=>h1 (by have:=Nat.eq_zero_of_gcd_eq_zero_right e;omega)
  refine⟨by omega,?_⟩;conv=>whnf
  refine⟨by omega,?_⟩;conv=>whnf
  (refine⟨by kernel_rfl,by kernel_rfl,?_⟩;(conv=>whnf))
  refine brI (fun h2=>?_) (fun h2=>?_)
  ·conv=>whnf
   have hlow:zfd n d=(⟨0,0⟩,9):=by
    rw[wQ _ _ (by omega)]at h2;simp only[decide_eq_true_eq]at h2;have:low (decide (n<0) != decide (d<0)) n.natAbs d.natAbs=none:=by rw[low,if_neg (by omega)]
    rw[zfd,if_neg h1,this]
   rw[hlow];exact⟨lr rfl,lh0⟩
  ·conv=>whnf
   rw[wQ _ _ (by omega)]at h2;simp only[decide_eq_false_iff_not]at h2;refine brI (fun h3=>?_) (fun h3=>?_)
   ·conv=>whnf
    have hlow:zfd n d=(⟨0,0⟩,9):=by
     rw[wQ _ _ (by omega)]at h3;simp only[decide_eq_true_eq]at h3;have:low (decide (n<0) != decide (d<0)) n.natAbs d.natAbs=none:=by rw[low,if_neg (by omega)]
     rw[zfd,if_neg h1,this]
    rw[hlow];exact⟨lr rfl,lh0⟩
   ·conv=>whnf
    rw[wQ _ _ (by omega)]at h3;simp only[decide_eq_false_iff_not]at h3;have hlow:zfd n d=(⟨if(decide (n<0) != decide (d<0))=true then-((n.natAbs/q2 n.natAbs d.natAbs:Nat):Int)else((n.natAbs/q2 n.natAbs d.natAbs:Nat):Int),((d.natAbs/q2 n.natAbs d.natAbs:Nat):Int)⟩,0):=by
     rw[zfd,if_neg h1,low,if_pos (by omega)]
    rw[hlow];refine brI (fun h4=>?_) (fun h4=>?_)
    ·conv=>whnf
     refine⟨lt0 (lc (lg0 (lc (ai0 ?_) (lc (ai0 ?_) ln0))) (lc (ai0 rfl) ln0)),lh0⟩
     ·rw[wQ _ _ (by omega),wN _ h2,wM _ h2];have:(decide (n<0) != decide (d<0))=true:=by revert h4;cases decide (n<0)<;>cases decide (d<0)<;>simp
      simp only[this,if_true]
     ·rw[wQ _ _ (by omega),wN _ h3]
    ·conv=>whnf
     refine⟨lt0 (lc (lg0 (lc (ai0 ?_) (lc (ai0 ?_) ln0))) (lc (ai0 rfl) ln0)),lh0⟩
     ·rw[wQ _ _ (by omega),wN _ h2];have:(decide (n<0) != decide (d<0))=false:=by revert h4;cases decide (n<0)<;>cases decide (d<0)<;>simp
      simp only[this];simp
     ·rw[wQ _ _ (by omega),wN _ h3]
theorem zcr {r:Rt} (h:rOk r=true):rIn r:=by simp[rOk]at h;exact h.1
def rOp (a b:Rt) (n d:Int):Rt×Int:=if(rOk a&&rOk b)=true then zfd n d else(⟨0,0⟩,1)
def rAdd (a b:Rt):Rt×Int:=rOp a b (a.n*b.d+b.n*a.d) (a.d*b.d)
def qdp (a b:Rt):Rt×Int:=rOp a b (a.n*b.d-b.n*a.d) (a.d*b.d)
def zy6 (a b:Rt):Rt×Int:=rOp a b (a.n*b.n) (a.d*b.d)
def rDiv (a b:Rt):Rt×Int:=rOp a b (a.n*b.d) (a.d*b.n)
abbrev rto (p:Rt×Int):AV:= .tup [rtv p.1,.int .i64 p.2]
abbrev rbl (a:Rt):Blk:= .cells [.int .i64 a.n,.int .i64 a.d]
theorem zop {a b:Rt} {n d:Int} (h:rOk a=false):rOp a b n d=(⟨0,0⟩,1):=by simp[rOp,h]
theorem zjm {a b:Rt} {n d:Int} (h:rOk b=false):rOp a b n d=(⟨0,0⟩,1):=by simp[rOp,h]
theorem zjl {a b:Rt} {n d:Int} (h:rOk a=true) (h2:rOk b=true):rOp a b n d=zfd n d:=by simp[rOp,h,h2]
theorem zrq {h h':Hp} (a b:Rt):leH h h' [(1000002,rbl a),(1000003,rbl b)] [(1000002,rbl a),(1000003,rbl b)]:=lh1 (bc0 (lc (lr rfl) (lc (lr rfl) ln0))) (lh1 (bc0 (lc (lr rfl) (lc (lr rfl) ln0))) lh0)
theorem zfh {x y:Int} (h1: -1073741824<=x/\x<=1073741824) (h2: -1073741824<=y/\y<=1073741824): -1152921504606846976<=x*y/\x*y<=1152921504606846976:=by
 have e:(x*y).natAbs =x.natAbs*y.natAbs:=Int.natAbs_mul x y;have:x.natAbs*y.natAbs<=1073741824*1073741824:=Nat.mul_le_mul (by omega) (by omega);omega
theorem zv6 {x y:Int} (h1: -1073741824<=x/\x<=1073741824) (h2: -1073741824<=y/\y<=1073741824):IntKind.i64.wrap (x*y)=x*y:=wI (by have:=zfh h1 h2;omega)
theorem f113 (a b:Rt) (ha:rIn a) (hb:rIn b):Fn 337 [(1000002,rbl a),(1000003,rbl b)] [.ptr 1000002 0,.ptr 1000003 0] (.tup [.int .i64 (a.n*b.d+b.n*a.d),.int .i64 (a.d*b.d)]) [(1000002,rbl a),(1000003,rbl b)]:=by
 refine fnT hT hmx Tryz.func337 rfl rfl (ex:= []) ?_;conv=>whnf
 (refine⟨by kernel_rfl,by kernel_rfl,?_⟩;(conv=>whnf))
 obtain⟨a1,a2,a3,a4⟩:=ha;obtain⟨b1,b2,b3,b4⟩:=hb;refine⟨lt0 (lc (ai0 ?_) (lc (ai0 ?_) ln0)),lh1 (bc0 (lc (lr rfl) (lc (lr rfl) ln0))) (lh1 (bc0 (lc (lr rfl) (lc (lr rfl) ln0))) lh0)⟩
 ·have h1:=zfh (x:=a.n) (y:=b.d) (by omega) (by omega);have h2:=zfh (x:=b.n) (y:=a.d) (by omega) (by omega);rw[zv6 (x:=a.n) (by omega) (by omega),zv6 (x:=b.n) (by omega) (by omega),wI (by omega)]
 ·rw[zv6 (by omega) (by omega)]
theorem b113 (a b:Rt):Fn 336 [(1000002,rbl a),(1000003,rbl b)] [rtv a,rtv b,.fn 337 [.ptr 1000002 0,.ptr 1000003 0]] (rto (rOp a b (a.n*b.d+b.n*a.d) (a.d*b.d))) [(1000002,rbl a),(1000003,rbl b)]:=by
 refine fnT hT hmx Tryz.func336 rfl rfl (ex:= []) ?_;conv=>whnf
 refine gZn (f54 a.n a.d) ?_;conv=>whnf
 refine brI (fun h1=>?_) (fun h1=>?_)
 ·conv=>whnf
  rw[zop (by simpa using h1)];exact⟨lr rfl,zrq a b⟩
 ·conv=>whnf
  refine gZn (f54 b.n b.d) ?_;conv=>whnf
  refine brI (fun h2=>?_) (fun h2=>?_)
  ·conv=>whnf
   rw[zjm (by simpa using h2)];exact⟨lr rfl,zrq a b⟩
  ·conv=>whnf
   have ha:rOk a=true:=by simpa using h1
   have hb:rOk b=true:=by simpa using h2
   have ia:=zcr ha;have ib:=zcr hb;refine⟨[rbl a,rbl b],_,f113 a b ia ib,?_⟩;conv=>whnf
   obtain⟨a1,a2,a3,a4⟩:=ia;obtain⟨b1,b2,b3,b4⟩:=ib;refine gZn (f144 _ _ ?_ ?_) ?_
   ·have h1:=zfh (x:=a.n) (y:=b.d) (by omega) (by omega);have h2:=zfh (x:=b.n) (y:=a.d) (by omega) (by omega);have h3:=zfh (x:=a.n) (y:=b.n) (by omega) (by omega);omega
   ·have h1:=zfh (x:=a.d) (y:=b.d) (by omega) (by omega);have h2:=zfh (x:=a.d) (y:=b.n) (by omega) (by omega);omega
   ·conv=>whnf
    rw[zjl ha hb];exact⟨lr rfl,zrq a b⟩
theorem f58 (a b:Rt):Fn 258 [] [rtv a,rtv b] (rto (rAdd a b)) []:=by
 refine fnT hT hmx Tryz.func258 rfl rfl (ex:= []) ?_;conv=>whnf
 refine⟨[rbl a,rbl b],rto (rAdd a b),(b113 a b).sw [(2,1000002),(3,1000003)] rfl,?_⟩;conv=>whnf
 exact⟨lr rfl,lh0⟩
theorem f143 (a b:Rt) (ha:rIn a) (hb:rIn b):Fn 338 [(1000002,rbl a),(1000003,rbl b)] [.ptr 1000002 0,.ptr 1000003 0] (.tup [.int .i64 (a.n*b.d-b.n*a.d),.int .i64 (a.d*b.d)]) [(1000002,rbl a),(1000003,rbl b)]:=by
 refine fnT hT hmx Tryz.func338 rfl rfl (ex:= []) ?_;conv=>whnf
 (refine⟨by kernel_rfl,by kernel_rfl,?_⟩;(conv=>whnf))
 obtain⟨a1,a2,a3,a4⟩:=ha;obtain⟨b1,b2,b3,b4⟩:=hb;refine⟨lt0 (lc (ai0 ?_) (lc (ai0 ?_) ln0)),lh1 (bc0 (lc (lr rfl) (lc (lr rfl) ln0))) (lh1 (bc0 (lc (lr rfl) (lc (lr rfl) ln0))) lh0)⟩
 ·have h1:=zfh (x:=a.n) (y:=b.d) (by omega) (by omega);have h2:=zfh (x:=b.n) (y:=a.d) (by omega) (by omega);rw[zv6 (x:=a.n) (by omega) (by omega),zv6 (x:=b.n) (by omega) (by omega),wI (by omega)]
 ·rw[zv6 (by omega) (by omega)]
theorem b143 (a b:Rt):Fn 336 [(1000002,rbl a),(1000003,rbl b)] [rtv a,rtv b,.fn 338 [.ptr 1000002 0,.ptr 1000003 0]] (rto (rOp a b (a.n*b.d-b.n*a.d) (a.d*b.d))) [(1000002,rbl a),(1000003,rbl b)]:=by
 refine fnT hT hmx Tryz.func336 rfl rfl (ex:= []) ?_;conv=>whnf
 refine gZn (f54 a.n a.d) ?_;conv=>whnf
 refine brI (fun h1=>?_) (fun h1=>?_)
 ·conv=>whnf
  rw[zop (by simpa using h1)];exact⟨lr rfl,zrq a b⟩
 ·conv=>whnf
  refine gZn (f54 b.n b.d) ?_;conv=>whnf
  refine brI (fun h2=>?_) (fun h2=>?_)
  ·conv=>whnf
   rw[zjm (by simpa using h2)];exact⟨lr rfl,zrq a b⟩
  ·conv=>whnf
   have ha:rOk a=true:=by simpa using h1
   have hb:rOk b=true:=by simpa using h2
   have ia:=zcr ha;have ib:=zcr hb;refine⟨[rbl a,rbl b],_,f143 a b ia ib,?_⟩;conv=>whnf
   obtain⟨a1,a2,a3,a4⟩:=ia;obtain⟨b1,b2,b3,b4⟩:=ib;refine gZn (f144 _ _ ?_ ?_) ?_
   ·have h1:=zfh (x:=a.n) (y:=b.d) (by omega) (by omega);have h2:=zfh (x:=b.n) (y:=a.d) (by omega) (by omega);have h3:=zfh (x:=a.n) (y:=b.n) (by omega) (by omega);omega
   ·have h1:=zfh (x:=a.d) (y:=b.d) (by omega) (by omega);have h2:=zfh (x:=a.d) (y:=b.n) (by omega) (by omega);omega
   ·conv=>whnf
    rw[zjl ha hb];exact⟨lr rfl,zrq a b⟩
theorem f108 (a b:Rt):Fn 259 [] [rtv a,rtv b] (rto (qdp a b)) []:=by
 refine fnT hT hmx Tryz.func259 rfl rfl (ex:= []) ?_;conv=>whnf
 refine⟨[rbl a,rbl b],rto (qdp a b),(b143 a b).sw [(2,1000002),(3,1000003)] rfl,?_⟩;conv=>whnf
 exact⟨lr rfl,lh0⟩
theorem f161 (a b:Rt) (ha:rIn a) (hb:rIn b):Fn 339 [(1000002,rbl a),(1000003,rbl b)] [.ptr 1000002 0,.ptr 1000003 0] (.tup [.int .i64 (a.n*b.n),.int .i64 (a.d*b.d)]) [(1000002,rbl a),(1000003,rbl b)]:=by
 refine fnT hT hmx Tryz.func339 rfl rfl (ex:= []) ?_;conv=>whnf
 (refine⟨by kernel_rfl,by kernel_rfl,?_⟩;(conv=>whnf))
 obtain⟨a1,a2,a3,a4⟩:=ha;obtain⟨b1,b2,b3,b4⟩:=hb;refine⟨lt0 (lc (ai0 ?_) (lc (ai0 ?_) ln0)),lh1 (bc0 (lc (lr rfl) (lc (lr rfl) ln0))) (lh1 (bc0 (lc (lr rfl) (lc (lr rfl) ln0))) lh0)⟩
 ·rw[zv6 (by omega) (by omega)]
 ·rw[zv6 (by omega) (by omega)]
theorem b161 (a b:Rt):Fn 336 [(1000002,rbl a),(1000003,rbl b)] [rtv a,rtv b,.fn 339 [.ptr 1000002 0,.ptr 1000003 0]] (rto (rOp a b (a.n*b.n) (a.d*b.d))) [(1000002,rbl a),(1000003,rbl b)]:=by
 refine fnT hT hmx Tryz.func336 rfl rfl (ex:= []) ?_;conv=>whnf
 refine gZn (f54 a.n a.d) ?_;conv=>whnf
 refine brI (fun h1=>?_) (fun h1=>?_)
 ·conv=>whnf
  rw[zop (by simpa using h1)];exact⟨lr rfl,zrq a b⟩
 ·conv=>whnf
  refine gZn (f54 b.n b.d) ?_;conv=>whnf
  refine brI (fun h2=>?_) (fun h2=>?_)
  ·conv=>whnf
   rw[zjm (by simpa using h2)];exact⟨lr rfl,zrq a b⟩
  ·conv=>whnf
   have ha:rOk a=true:=by simpa using h1
   have hb:rOk b=true:=by simpa using h2
   have ia:=zcr ha;have ib:=zcr hb;refine⟨[rbl a,rbl b],_,f161 a b ia ib,?_⟩;conv=>whnf
   obtain⟨a1,a2,a3,a4⟩:=ia;obtain⟨b1,b2,b3,b4⟩:=ib;refine gZn (f144 _ _ ?_ ?_) ?_
   ·have h1:=zfh (x:=a.n) (y:=b.d) (by omega) (by omega);have h2:=zfh (x:=b.n) (y:=a.d) (by omega) (by omega);have h3:=zfh (x:=a.n) (y:=b.n) (by omega) (by omega);omega
   ·have h1:=zfh (x:=a.d) (y:=b.d) (by omega) (by omega);have h2:=zfh (x:=a.d) (y:=b.n) (by omega) (by omega);omega
   ·conv=>whnf
    rw[zjl ha hb];exact⟨lr rfl,zrq a b⟩
theorem f142 (a b:Rt):Fn 260 [] [rtv a,rtv b] (rto (zy6 a b)) []:=by
 refine fnT hT hmx Tryz.func260 rfl rfl (ex:= []) ?_;conv=>whnf
 refine⟨[rbl a,rbl b],rto (zy6 a b),(b161 a b).sw [(2,1000002),(3,1000003)] rfl,?_⟩;conv=>whnf
 exact⟨lr rfl,lh0⟩
theorem f112 (a b:Rt) (ha:rIn a) (hb:rIn b):Fn 340 [(1000002,rbl a),(1000003,rbl b)] [.ptr 1000002 0,.ptr 1000003 0] (.tup [.int .i64 (a.n*b.d),.int .i64 (a.d*b.n)]) [(1000002,rbl a),(1000003,rbl b)]:=by
 refine fnT hT hmx Tryz.func340 rfl rfl (ex:= []) ?_;conv=>whnf
 (refine⟨by kernel_rfl,by kernel_rfl,?_⟩;(conv=>whnf))
 obtain⟨a1,a2,a3,a4⟩:=ha;obtain⟨b1,b2,b3,b4⟩:=hb;refine⟨lt0 (lc (ai0 ?_) (lc (ai0 ?_) ln0)),lh1 (bc0 (lc (lr rfl) (lc (lr rfl) ln0))) (lh1 (bc0 (lc (lr rfl) (lc (lr rfl) ln0))) lh0)⟩
 ·rw[zv6 (by omega) (by omega)]
 ·rw[zv6 (by omega) (by omega)]
theorem b112 (a b:Rt):Fn 336 [(1000002,rbl a),(1000003,rbl b)] [rtv a,rtv b,.fn 340 [.ptr 1000002 0,.ptr 1000003 0]] (rto (rOp a b (a.n*b.d) (a.d*b.n))) [(1000002,rbl a),(1000003,rbl b)]:=by
 refine fnT hT hmx Tryz.func336 rfl rfl (ex:= []) ?_;conv=>whnf
 refine gZn (f54 a.n a.d) ?_;conv=>whnf
 refine brI (fun h1=>?_) (fun h1=>?_)
 ·conv=>whnf
  rw[zop (by simpa using h1)];exact⟨lr rfl,zrq a b⟩
 ·conv=>whnf
  refine gZn (f54 b.n b.d) ?_;conv=>whnf
  refine brI (fun h2=>?_) (fun h2=>?_)
  ·conv=>whnf
   rw[zjm (by simpa using h2)];exact⟨lr rfl,zrq a b⟩
  ·conv=>whnf
   have ha:rOk a=true:=by simpa using h1
   have hb:rOk b=true:=by simpa using h2
   have ia:=zcr ha;have ib:=zcr hb;refine⟨[rbl a,rbl b],_,f112 a b ia ib,?_⟩;conv=>whnf
   obtain⟨a1,a2,a3,a4⟩:=ia;obtain⟨b1,b2,b3,b4⟩:=ib;refine gZn (f144 _ _ ?_ ?_) ?_
   ·have h1:=zfh (x:=a.n) (y:=b.d) (by omega) (by omega);have h2:=zfh (x:=b.n) (y:=a.d) (by omega) (by omega);have h3:=zfh (x:=a.n) (y:=b.n) (by omega) (by omega);omega
   ·have h1:=zfh (x:=a.d) (y:=b.d) (by omega) (by omega);have h2:=zfh (x:=a.d) (y:=b.n) (by omega) (by omega);omega
   ·conv=>whnf
    rw[zjl ha hb];exact⟨lr rfl,zrq a b⟩
theorem f57 (a b:Rt):Fn 261 [] [rtv a,rtv b] (rto (rDiv a b)) []:=by
 refine fnT hT hmx Tryz.func261 rfl rfl (ex:= []) ?_;conv=>whnf
 refine⟨[rbl a,rbl b],rto (rDiv a b),(b112 a b).sw [(2,1000002),(3,1000003)] rfl,?_⟩;conv=>whnf
 exact⟨lr rfl,lh0⟩
theorem f155' (a:Nat) (d:Int) (ha:a<18446744073709551616) (hb:0<=d/\d<18446744073709551616):Fn 329 [] [.int .u64 a,.int .u64 (IntKind.u64.wrap d)] (.int .u64 (q2 a d.natAbs:Int)) []:=by
 have h:=f155 a d.natAbs ha (by omega)
 rwa [show((d.natAbs:Nat):Int)=IntKind.u64.wrap d by rw[wU (by omega)];omega]at h
theorem f131 (n d:Int):Fn 252 [] [.agg [.int .i64 n,.int .i64 d]] (.bool (rOk ⟨n,d⟩)) []:=by
 refine fnT hT hmx Tryz.func252 rfl rfl (ex:= []) ?_;conv=>whnf
 refine brI (fun h1=>?_) (fun h1=>?_)
 ·conv=>whnf
  refine brI (fun h2=>?_) (fun h2=>?_)
  ·conv=>whnf
   refine brI (fun h3=>?_) (fun h3=>?_)
   ·conv=>whnf
    refine brI (fun h4=>?_) (fun h4=>?_)
    ·conv=>whnf
     simp only[decide_eq_true_eq]at h1 h2 h3 h4;refine gZn (f156 n (by omega)) ?_;conv=>whnf
     refine gZn (f155' n.natAbs d (by omega) (by omega)) ?_;conv=>whnf
     (refine⟨by kernel_rfl,by kernel_rfl,?_⟩;(conv=>whnf))
     refine⟨ab0 ?_,lh0⟩;have:rIn ⟨n,d⟩:=⟨h1,h2,h3,h4⟩;simp only[rOk,this,decide_true,Bool.true_and];rw[Bool.eq_iff_iff];simp;omega
    ·conv=>whnf
     (refine⟨by kernel_rfl,by kernel_rfl,?_⟩;(conv=>whnf))
     exact⟨ab0 (ze0 fun h=>by simp[rIn]at h h4;omega),lh0⟩
   ·conv=>whnf
    (refine⟨by kernel_rfl,by kernel_rfl,?_⟩;(conv=>whnf))
    exact⟨ab0 (ze0 fun h=>by simp[rIn]at h h3;omega),lh0⟩
  ·conv=>whnf
   (refine⟨by kernel_rfl,by kernel_rfl,?_⟩;(conv=>whnf))
   exact⟨ab0 (ze0 fun h=>by simp[rIn]at h h2;omega),lh0⟩
 ·conv=>whnf
  (refine⟨by kernel_rfl,by kernel_rfl,?_⟩;(conv=>whnf))
  exact⟨ab0 (ze0 fun h=>by simp[rIn]at h h1;omega),lh0⟩
end Go.Proofs.YtbolipecnhlnnaaGreatDoor
