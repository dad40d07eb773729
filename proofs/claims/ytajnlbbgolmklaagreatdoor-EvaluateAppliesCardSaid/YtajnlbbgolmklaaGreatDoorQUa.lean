/-
  The seat's type table; how a contract is proved.
-/
import Derived.Test.YtajnlbbgolmklaaGreatDoorQZz
import Derived.Test.YtajnlbbgolmklaaGreatDoorChecked
set_option linter.unusedVariables false
set_option linter.unusedSimpArgs false
namespace Go.Proofs.YtajnlbbgolmklaaGreatDoor
open Go Go.Sx
def Ty:List (Nat×TI):= [
 (3,⟨1,1,[],0,0,0,some .int,.i64,[.int .i64 0],8,false⟩),
 (35,⟨2,3,[(0,1,false),(1,1,false),(2,1,false)],0,0,0,some .dy,.i64,[.bool false,.nilsl,.int .i64 0],40,false⟩),
 (37,⟨2,7,[(0,3,true),(3,3,true),(6,1,false)],0,0,0,some .iv,.i64,[.bool false,.nilsl,.int .i64 0,.bool false,.nilsl,.int .i64 0,.bool false],88,false⟩),
 (33,⟨3,1,[],122,1,0,some .ls,.i64,[.nilsl],24,false⟩),
 (122,⟨1,1,[],0,0,0,some .u32,.u32,[.int .u32 0],4,false⟩),
 (4,⟨6,1,[],0,0,0,some .bool,.i64,[.bool false],1,false⟩),
 (26,⟨2,6,[(0,1,false),(1,2,true),(3,1,false),(4,1,false),(5,1,false)],0,0,0,some .ex,.i64,[.int .i64 0,.int .i64 0,.int .i64 0,.str [],.int .i64 0,.nilsl],72,false⟩),
 (130,⟨1,1,[],0,0,0,none,.u64,[.int .u64 0],8,false⟩),
 (177,⟨2,2,[(0,1,false),(1,1,false)],0,0,0,none,.i64,[.bool false,.nilsl],32,false⟩),
 (23,⟨2,2,[(0,1,false),(1,1,false)],0,0,0,some .rat,.i64,[.int .i64 0,.int .i64 0],16,true⟩),
 (9,⟨5,1,[],0,0,0,some .str,.i64,[.str []],16,false⟩),
 (27,⟨3,1,[],9,1,0,none,.i64,[.nilsl],24,false⟩),
 (24,⟨3,1,[],26,6,0,none,.i64,[.nilsl],24,false⟩),
 (28,⟨3,1,[],37,7,0,some .vs,.i64,[.nilsl],24,false⟩),
 (139,⟨2,1,[(0,1,false)],0,0,0,none,.i64,[.int .i64 0],8,true⟩),
 (5,⟨1,1,[],0,0,0,none,.u8,[.int .u8 0],1,false⟩),
 (168,⟨2,3,[(0,1,false),(1,1,false),(2,1,false)],0,0,0,none,.i64,[.nilsl,.int .i64 0,.bool false],40,false⟩),
 (60,⟨1,1,[],0,0,0,none,.i64,[.int .i64 0],8,false⟩),
 (127,⟨4,6,[],35,3,2,none,.i64,[.bool false,.nilsl,.int .i64 0,.bool false,.nilsl,.int .i64 0],80,false⟩),
 (50,⟨2,8,[(0,1,false),(1,7,true)],0,0,0,some .ki,.i64,[.int .i64 0,.bool false,.nilsl,.int .i64 0,.bool false,.nilsl,.int .i64 0,.bool false],96,false⟩),
 (225,⟨1,1,[],0,0,0,none,.u64,[.int .u64 0],8,false⟩),
 (153,⟨4,4,[],23,2,2,none,.i64,[.int .i64 0,.int .i64 0,.int .i64 0,.int .i64 0],32,false⟩),
 (64,⟨3,1,[],23,2,0,none,.i64,[.nilsl],24,false⟩),
 (132,⟨1,1,[],0,0,0,none,.u64,[.int .u64 0],8,false⟩),
 (232,⟨3,1,[],33,1,0,none,.i64,[.nilsl],24,false⟩),
 (212,⟨3,1,[],127,6,0,none,.i64,[.nilsl],24,false⟩),
 (216,⟨3,1,[],35,3,0,none,.i64,[.nilsl],24,false⟩),
 (112,⟨9,1,[],9,0,23,none,.i64,[.nilm],8,false⟩),
 (128,⟨4,24,[],127,6,4,none,.i64,[.bool false,.nilsl,.int .i64 0,.bool false,.nilsl,.int .i64 0,.bool false,.nilsl,.int .i64 0,.bool false,.nilsl,.int .i64 0,.bool false,.nilsl,.int .i64 0,.bool false,.nilsl,.int .i64 0,.bool false,.nilsl,.int .i64 0,.bool false,.nilsl,.int .i64 0],320,false⟩),
 (31,⟨8,1,[],0,0,0,none,.i64,[.nilf],8,false⟩),
 (80,⟨9,1,[],9,0,37,none,.i64,[.nilm],8,false⟩),
 (121,⟨4,14,[],37,7,2,none,.i64,[.bool false,.nilsl,.int .i64 0,.bool false,.nilsl,.int .i64 0,.bool false,.bool false,.nilsl,.int .i64 0,.bool false,.nilsl,.int .i64 0,.bool false],176,false⟩),
 (88,⟨7,1,[],3,0,0,none,.i64,[.nilp],8,false⟩),
 (55,⟨3,1,[],50,8,0,none,.i64,[.nilsl],24,false⟩),
 (246,⟨4,32,[],5,1,32,none,.i64,[.int .u8 0,.int .u8 0,.int .u8 0,.int .u8 0,.int .u8 0,.int .u8 0,.int .u8 0,.int .u8 0,.int .u8 0,.int .u8 0,.int .u8 0,.int .u8 0,.int .u8 0,.int .u8 0,.int .u8 0,.int .u8 0,.int .u8 0,.int .u8 0,.int .u8 0,.int .u8 0,.int .u8 0,.int .u8 0,.int .u8 0,.int .u8 0,.int .u8 0,.int .u8 0,.int .u8 0,.int .u8 0,.int .u8 0,.int .u8 0,.int .u8 0,.int .u8 0],32,false⟩),
 (111,⟨9,1,[],9,0,26,none,.i64,[.nilm],8,false⟩),
 (190,⟨1,1,[],0,0,0,none,.i64,[.int .i64 0],8,false⟩)]
def T:Tab:= {ty:=Ty,of:= [92,93],nb:= [(91,1),(96,1),(93,1),(150,1)]}
theorem hmx:Tryz.prog.follows .mixedOrders =true:=by kernel_rfl
theorem hT:TabOK Tryz.prog T:=zg5 (by kernel_rfl) (by kernel_rfl)
abbrev Fn (f:Nat) (H:Hp) (A:List AV) (r:AV) (H':Hp):Prop:=ze9 Tryz.prog f H A r H'
end Go.Proofs.YtajnlbbgolmklaaGreatDoor

namespace Go.Proofs.YtajnlbbgolmklaaGreatDoor
open Go Go.Sx
set_option maxRecDepth 100000
set_option maxHeartbeats 1000000
theorem f105 (n:Int) (h: -9223372036854775808≤n∧n≤9223372036854775807):Fn 152 [] [.int .i64 n] (.int .u64 (n.natAbs:Int)) []:=by
 refine fnT hT hmx Tryz.func152 rfl rfl (ex:= []) ?_;conv=>whnf
 refine brI (fun hb=>?_) (fun hb=>?_)
 ·conv=>whnf
  simp at hb
  refine⟨ai0 ?_,lh0⟩
  rcases Decidable.em (n= -9223372036854775808)with e|e
  ·subst e;rfl
  ·rw[wI (by omega),wU (by omega)];omega
 ·conv=>whnf
  simp at hb
  refine⟨ai0 ?_,lh0⟩
  rw[wU (by omega)];omega
theorem zyi (a b:Nat):Int.tdiv (a:Int) (b:Int)=((a/b:Nat):Int):=by
 rw[Int.tdiv_eq_ediv_of_nonneg (by omega)];rfl
theorem f104 (a b:Nat) (ha:a<18446744073709551616) (hb:b<18446744073709551616):Fn 151 [] [.int .u64 a,.int .u64 b] (.int .u64 (Nat.gcd a b:Int)) []:=by
 refine fnT hT hmx Tryz.func151 rfl rfl (ex:= []) ?_;conv=>whnf
 refine⟨Nat×Nat,fun x=>Nat.gcd x.1 x.2=Nat.gcd a b∧x.1<18446744073709551616∧x.2<18446744073709551616,fun x=> [(0,.int .u64 x.1),(1,.int .u64 x.2)],fun _=> [],fun x=>x.2,(a,b),⟨rfl,ha,hb⟩,?_,fun x hx=>?_⟩
 ·((conv=>whnf);refine⟨?_,lh0⟩;repeat' first|exact ln0|exact la0|exact lr rfl|refine lc ?_ ?_)
 ·obtain⟨hg,h1,h2⟩:=hx
  (refine⟨by kernel_rfl,?_⟩;(conv=>whnf))
  refine brI (fun hb=>?_) (fun hb=>?_)
  ·conv=>whnf
   simp at hb
   refine⟨by omega,?_⟩;conv=>whnf
   (refine⟨by kernel_rfl,by kernel_rfl,?_⟩;(conv=>whnf))
   refine⟨(x.2,x.1 % x.2),⟨?_,h2,?_⟩,?_,?_⟩
   ·rw[←hg];show Nat.gcd x.2 (x.1 % x.2)=_;rw[Nat.gcd_comm x.1 x.2,Nat.gcd_comm x.2 (x.1 % x.2)];exact(Nat.gcd_rec _ _).symm
   ·have:=Nat.mod_lt x.1 (Nat.pos_of_ne_zero hb);omega
   ·exact Nat.mod_lt x.1 (Nat.pos_of_ne_zero hb)
   ·((conv=>whnf);refine⟨?_,lh0⟩;repeat' first|exact ln0|exact la0|exact lr rfl|refine lc ?_ ?_)
  ·conv=>whnf
   simp at hb
   refine⟨ai0 ?_,lh0⟩
   rw[←hg,hb,Nat.gcd_zero_right]
theorem wQ (a g:Nat) (ha:a<18446744073709551616):IntKind.u64.wrap (Int.tdiv (a:Int) (g:Int))=((a/g:Nat):Int):=by
 have:=Nat.div_le_self a g
 rw[zyi]
 generalize a/g=c at*
 rw[wU];omega
theorem f155 (a b:Nat) (ha:a<18446744073709551616) (hb:b<18446744073709551616):Fn 241 [] [.int .u64 a,.int .u64 b] (.int .u64 (Nat.gcd a b:Int)) []:=by
 refine fnT hT hmx Tryz.func241 rfl rfl (ex:= []) ?_;conv=>whnf
 refine⟨Nat×Nat,fun x=>Nat.gcd x.1 x.2=Nat.gcd a b∧x.1<18446744073709551616∧x.2<18446744073709551616,fun x=> [(0,.int .u64 x.1),(1,.int .u64 x.2)],fun _=> [],fun x=>x.2,(a,b),⟨rfl,ha,hb⟩,?_,fun x hx=>?_⟩
 ·((conv=>whnf);refine⟨?_,lh0⟩;repeat' first|exact ln0|exact la0|exact lr rfl|refine lc ?_ ?_)
 ·obtain⟨hg,h1,h2⟩:=hx
  (refine⟨by kernel_rfl,?_⟩;(conv=>whnf))
  refine brI (fun hb=>?_) (fun hb=>?_)
  ·conv=>whnf
   simp at hb
   refine⟨by omega,?_⟩;conv=>whnf
   (refine⟨by kernel_rfl,by kernel_rfl,?_⟩;(conv=>whnf))
   refine⟨(x.2,x.1 % x.2),⟨?_,h2,?_⟩,?_,?_⟩
   ·rw[←hg];show Nat.gcd x.2 (x.1 % x.2)=_;rw[Nat.gcd_comm x.1 x.2,Nat.gcd_comm x.2 (x.1 % x.2)];exact(Nat.gcd_rec _ _).symm
   ·have:=Nat.mod_lt x.1 (Nat.pos_of_ne_zero hb);omega
   ·exact Nat.mod_lt x.1 (Nat.pos_of_ne_zero hb)
   ·((conv=>whnf);refine⟨?_,lh0⟩;repeat' first|exact ln0|exact la0|exact lr rfl|refine lc ?_ ?_)
  ·conv=>whnf
   simp at hb
   refine⟨ai0 ?_,lh0⟩
   rw[←hg,hb,Nat.gcd_zero_right]
theorem f156 (n:Int) (h: -9223372036854775808≤n∧n≤9223372036854775807):Fn 166 [] [.int .i64 n] (.int .u64 (n.natAbs:Int)) []:=by
 refine fnT hT hmx Tryz.func166 rfl rfl (ex:= []) ?_;conv=>whnf
 refine brI (fun hb=>?_) (fun hb=>?_)
 ·conv=>whnf
  simp at hb
  refine⟨ai0 ?_,lh0⟩
  rw[wI (x:=n+1) (by omega),wI (by omega),wU (x:=0-(n+1)) (by omega),wU (by omega)];omega
 ·conv=>whnf
  simp at hb
  refine⟨ai0 ?_,lh0⟩
  rw[wU (by omega)];omega
theorem wN (c:Nat) (h: ¬((c:Int)>1073741824)):IntKind.i64.wrap (c:Int)=(c:Int):=wI (by omega)
theorem wM (c:Nat) (h: ¬((c:Int)>1073741824)):IntKind.i64.wrap (0-(c:Int))= -(c:Int):=by rw[wI (by omega)];omega
end Go.Proofs.YtajnlbbgolmklaaGreatDoor

namespace Go.Proofs.YtajnlbbgolmklaaGreatDoor
open Go Go.Sx
set_option maxRecDepth 100000
set_option maxHeartbeats 1000000
def rIn (r:Rt):Prop:=1≤r.d∧r.d≤1073741824∧ -1073741824≤r.n∧r.n≤1073741824
instance (r:Rt):Decidable (rIn r):=by unfold rIn;infer_instance
def rOk (r:Rt):Bool:=decide (rIn r)&&(Nat.gcd r.n.natAbs r.d.natAbs==1)
theorem zd8 {r:Rt} (h: ¬rIn r):false=rOk r:=by simp[rOk,h]
theorem f54 (n d:Int):Fn 98 [] [.agg [.int .i64 n,.int .i64 d]] (.bool (rOk ⟨n,d⟩)) []:=by
 refine fnT hT hmx Tryz.func98 rfl rfl (ex:= []) ?_;conv=>whnf
 refine brI (fun h1=>?_) (fun h1=>?_)
 ·conv=>whnf
  refine brI (fun h2=>?_) (fun h2=>?_)
  ·conv=>whnf
   refine brI (fun h3=>?_) (fun h3=>?_)
   ·conv=>whnf
    refine brI (fun h4=>?_) (fun h4=>?_)
    ·conv=>whnf
     simp only[decide_eq_true_eq]at h1 h2 h3 h4
     refine gZn (f105 n (by omega)) ?_;conv=>whnf
     refine gZn (f105 d (by omega)) ?_;conv=>whnf
     refine gZn (f104 n.natAbs d.natAbs (by omega) (by omega)) ?_;conv=>whnf
     (refine⟨by kernel_rfl,by kernel_rfl,?_⟩;(conv=>whnf))
     refine⟨ab0 ?_,lh0⟩
     have:rIn ⟨n,d⟩:=⟨h1,h2,h3,h4⟩
     simp only[rOk,this,decide_true,Bool.true_and]
     rw[Bool.eq_iff_iff];simp;omega
    ·conv=>whnf
     (refine⟨by kernel_rfl,by kernel_rfl,?_⟩;(conv=>whnf))
     exact⟨ab0 (zd8 fun h=>by simp[rIn]at h h4;omega),lh0⟩
   ·conv=>whnf
    (refine⟨by kernel_rfl,by kernel_rfl,?_⟩;(conv=>whnf))
    exact⟨ab0 (zd8 fun h=>by simp[rIn]at h h3;omega),lh0⟩
  ·conv=>whnf
   (refine⟨by kernel_rfl,by kernel_rfl,?_⟩;(conv=>whnf))
   exact⟨ab0 (zd8 fun h=>by simp[rIn]at h h2;omega),lh0⟩
 ·conv=>whnf
  (refine⟨by kernel_rfl,by kernel_rfl,?_⟩;(conv=>whnf))
  exact⟨ab0 (zd8 fun h=>by simp[rIn]at h h1;omega),lh0⟩
def low (neg:Bool) (a b:Nat):Option Rt:=
 if a/Nat.gcd a b≤1073741824∧b/Nat.gcd a b≤1073741824 then some ⟨if neg then-((a/Nat.gcd a b:Nat):Int)else((a/Nat.gcd a b:Nat):Int),((b/Nat.gcd a b:Nat):Int)⟩else none
def zel (n d:Int):Rt×Int:=if d=0 then(⟨0,0⟩,10)else match low (decide (n<0) != decide (d<0)) n.natAbs d.natAbs with
 |none=>(⟨0,0⟩,9)
 |some r=>(r,0)
abbrev rtv (r:Rt):AV:= .agg [.int .i64 r.n,.int .i64 r.d]
theorem f144 (n d:Int) (hn: -9223372036854775808≤n∧n≤9223372036854775807) (hd: -9223372036854775808≤d∧d≤9223372036854775807):
 Fn 289 [] [.int .i64 n,.int .i64 d] (.tup [rtv (zel n d).1,.int .i64 (zel n d).2]) []:=by
 refine fnT hT hmx Tryz.func289 rfl rfl (ex:= []) ?_;conv=>whnf
 refine brI (fun h1=>?_) (fun h1=>?_)
 ·conv=>whnf
  have h1:d=0:=by simpa using h1
  refine⟨?_,lh0⟩
  have:zel n d=(⟨0,0⟩,10):=by simp[zel,h1]
  rw[this]
  exact lr rfl
 ·conv=>whnf
  have h1:d≠0:=by simpa using h1
  refine gZn (f105 n hn) ?_;conv=>whnf
  refine gZn (f105 d hd) ?_;conv=>whnf
  refine gZn (f104 n.natAbs d.natAbs (by omega) (by omega)) ?_;conv=>whnf
  have hg0:Nat.gcd n.natAbs d.natAbs≠0:=fun e=>h1 (by have:=Nat.eq_zero_of_gcd_eq_zero_right e;omega)
  refine⟨by omega,?_⟩;conv=>whnf
  refine⟨by omega,?_⟩;conv=>whnf
  (refine⟨by kernel_rfl,by kernel_rfl,?_⟩;(conv=>whnf))
  refine brI (fun h2=>?_) (fun h2=>?_)
  ·conv=>whnf
   have hlow:zel n d=(⟨0,0⟩,9):=by
    rw[wQ _ _ (by omega)]at h2
    simp only[decide_eq_true_eq]at h2
    have:low (decide (n<0) != decide (d<0)) n.natAbs d.natAbs=none:=by rw[low,if_neg (by omega)]
    rw[zel,if_neg h1,this]
   rw[hlow]
   exact⟨lr rfl,lh0⟩
  ·conv=>whnf
   rw[wQ _ _ (by omega)]at h2
   simp only[decide_eq_false_iff_not]at h2
   refine brI (fun h3=>?_) (fun h3=>?_)
   ·conv=>whnf
    have hlow:zel n d=(⟨0,0⟩,9):=by
     rw[wQ _ _ (by omega)]at h3
     simp only[decide_eq_true_eq]at h3
     have:low (decide (n<0) != decide (d<0)) n.natAbs d.natAbs=none:=by rw[low,if_neg (by omega)]
     rw[zel,if_neg h1,this]
    rw[hlow]
    exact⟨lr rfl,lh0⟩
   ·conv=>whnf
    rw[wQ _ _ (by omega)]at h3
    simp only[decide_eq_false_iff_not]at h3
    have hlow:zel n d=(⟨if(decide (n<0) != decide (d<0))=true then-((n.natAbs/Nat.gcd n.natAbs d.natAbs:Nat):Int)else((n.natAbs/Nat.gcd n.natAbs d.natAbs:Nat):Int),((d.natAbs/Nat.gcd n.natAbs d.natAbs:Nat):Int)⟩,0):=by
     rw[zel,if_neg h1,low,if_pos (by omega)]
    rw[hlow]
    refine brI (fun h4=>?_) (fun h4=>?_)
    ·conv=>whnf
     refine⟨lt0 (lc (lg0 (lc (ai0 ?_) (lc (ai0 ?_) ln0))) (lc (ai0 rfl) ln0)),lh0⟩
     ·rw[wQ _ _ (by omega),wN _ h2,wM _ h2]
      have:(decide (n<0) != decide (d<0))=true:=by revert h4;cases decide (n<0)<;>cases decide (d<0)<;>simp
      simp only[this,if_true]
     ·rw[wQ _ _ (by omega),wN _ h3]
    ·conv=>whnf
     refine⟨lt0 (lc (lg0 (lc (ai0 ?_) (lc (ai0 ?_) ln0))) (lc (ai0 rfl) ln0)),lh0⟩
     ·rw[wQ _ _ (by omega),wN _ h2]
      have:(decide (n<0) != decide (d<0))=false:=by revert h4;cases decide (n<0)<;>cases decide (d<0)<;>simp
      simp only[this];simp
     ·rw[wQ _ _ (by omega),wN _ h3]
end Go.Proofs.YtajnlbbgolmklaaGreatDoor

namespace Go.Proofs.YtajnlbbgolmklaaGreatDoor
open Go Go.Sx
set_option maxRecDepth 100000
set_option maxHeartbeats 1000000
theorem zc0 {r:Rt} (h:rOk r=true):rIn r:=by simp[rOk]at h;exact h.1
def rOp (a b:Rt) (n d:Int):Rt×Int:=if(rOk a&&rOk b)=true then zel n d else(⟨0,0⟩,1)
def rAdd (a b:Rt):Rt×Int:=rOp a b (a.n*b.d+b.n*a.d) (a.d*b.d)
def qbc (a b:Rt):Rt×Int:=rOp a b (a.n*b.d-b.n*a.d) (a.d*b.d)
def zw9 (a b:Rt):Rt×Int:=rOp a b (a.n*b.n) (a.d*b.d)
def rDiv (a b:Rt):Rt×Int:=rOp a b (a.n*b.d) (a.d*b.n)
abbrev rto (p:Rt×Int):AV:= .tup [rtv p.1,.int .i64 p.2]
abbrev rbl (a:Rt):Blk:= .cells [.int .i64 a.n,.int .i64 a.d]
theorem znk {a b:Rt} {n d:Int} (h:rOk a=false):rOp a b n d=(⟨0,0⟩,1):=by simp[rOp,h]
theorem zim {a b:Rt} {n d:Int} (h:rOk b=false):rOp a b n d=(⟨0,0⟩,1):=by simp[rOp,h]
theorem zil {a b:Rt} {n d:Int} (h:rOk a=true) (h2:rOk b=true):rOp a b n d=zel n d:=by simp[rOp,h,h2]
theorem zqf {h h':Hp} (a b:Rt):leH h h' [(1000002,rbl a),(1000003,rbl b)] [(1000002,rbl a),(1000003,rbl b)]:=lh1 (bc0 (lc (lr rfl) (lc (lr rfl) ln0))) (lh1 (bc0 (lc (lr rfl) (lc (lr rfl) ln0))) lh0)
theorem zen {x y:Int} (h1: -1073741824≤x∧x≤1073741824) (h2: -1073741824≤y∧y≤1073741824): -1152921504606846976≤x*y∧x*y≤1152921504606846976:=by
 have e:(x*y).natAbs =x.natAbs*y.natAbs:=Int.natAbs_mul x y
 have:x.natAbs*y.natAbs≤1073741824*1073741824:=Nat.mul_le_mul (by omega) (by omega)
 omega
theorem zuh {x y:Int} (h1: -1073741824≤x∧x≤1073741824) (h2: -1073741824≤y∧y≤1073741824):IntKind.i64.wrap (x*y)=x*y:=wI (by have:=zen h1 h2;omega)
theorem f113 (a b:Rt) (ha:rIn a) (hb:rIn b):Fn 232 [(1000002,rbl a),(1000003,rbl b)] [.ptr 1000002 0,.ptr 1000003 0] (.tup [.int .i64 (a.n*b.d+b.n*a.d),.int .i64 (a.d*b.d)]) [(1000002,rbl a),(1000003,rbl b)]:=by
 refine fnT hT hmx Tryz.func232 rfl rfl (ex:= []) ?_;conv=>whnf
 (refine⟨by kernel_rfl,by kernel_rfl,?_⟩;(conv=>whnf))
 obtain⟨a1,a2,a3,a4⟩:=ha
 obtain⟨b1,b2,b3,b4⟩:=hb
 refine⟨lt0 (lc (ai0 ?_) (lc (ai0 ?_) ln0)),lh1 (bc0 (lc (lr rfl) (lc (lr rfl) ln0))) (lh1 (bc0 (lc (lr rfl) (lc (lr rfl) ln0))) lh0)⟩
 ·have h1:=zen (x:=a.n) (y:=b.d) (by omega) (by omega)
  have h2:=zen (x:=b.n) (y:=a.d) (by omega) (by omega)
  rw[zuh (x:=a.n) (by omega) (by omega),zuh (x:=b.n) (by omega) (by omega),wI (by omega)]
 ·rw[zuh (by omega) (by omega)]
theorem b113 (a b:Rt):Fn 231 [(1000002,rbl a),(1000003,rbl b)] [rtv a,rtv b,.fn 232 [.ptr 1000002 0,.ptr 1000003 0]] (rto (rOp a b (a.n*b.d+b.n*a.d) (a.d*b.d))) [(1000002,rbl a),(1000003,rbl b)]:=by
 refine fnT hT hmx Tryz.func231 rfl rfl (ex:= []) ?_;conv=>whnf
 refine gZn (f54 a.n a.d) ?_;conv=>whnf
 refine brI (fun h1=>?_) (fun h1=>?_)
 ·conv=>whnf
  rw[znk (by simpa using h1)]
  exact⟨lr rfl,zqf a b⟩
 ·conv=>whnf
  refine gZn (f54 b.n b.d) ?_;conv=>whnf
  refine brI (fun h2=>?_) (fun h2=>?_)
  ·conv=>whnf
   rw[zim (by simpa using h2)]
   exact⟨lr rfl,zqf a b⟩
  ·conv=>whnf
   have ha:rOk a=true:=by simpa using h1
   have hb:rOk b=true:=by simpa using h2
   have ia:=zc0 ha
   have ib:=zc0 hb
   refine⟨[rbl a,rbl b],_,f113 a b ia ib,?_⟩;conv=>whnf
   obtain⟨a1,a2,a3,a4⟩:=ia
   obtain⟨b1,b2,b3,b4⟩:=ib
   refine gZn (f144 _ _ ?_ ?_) ?_
   ·have h1:=zen (x:=a.n) (y:=b.d) (by omega) (by omega)
    have h2:=zen (x:=b.n) (y:=a.d) (by omega) (by omega)
    have h3:=zen (x:=a.n) (y:=b.n) (by omega) (by omega)
    omega
   ·have h1:=zen (x:=a.d) (y:=b.d) (by omega) (by omega)
    have h2:=zen (x:=a.d) (y:=b.n) (by omega) (by omega)
    omega
   ·conv=>whnf
    rw[zil ha hb]
    exact⟨lr rfl,zqf a b⟩
theorem f58 (a b:Rt):Fn 153 [] [rtv a,rtv b] (rto (rAdd a b)) []:=by
 refine fnT hT hmx Tryz.func153 rfl rfl (ex:= []) ?_;conv=>whnf
 refine⟨[rbl a,rbl b],rto (rAdd a b),(b113 a b).sw [(2,1000002),(3,1000003)] rfl,?_⟩;conv=>whnf
 exact⟨lr rfl,lh0⟩
theorem f143 (a b:Rt) (ha:rIn a) (hb:rIn b):Fn 233 [(1000002,rbl a),(1000003,rbl b)] [.ptr 1000002 0,.ptr 1000003 0] (.tup [.int .i64 (a.n*b.d-b.n*a.d),.int .i64 (a.d*b.d)]) [(1000002,rbl a),(1000003,rbl b)]:=by
 refine fnT hT hmx Tryz.func233 rfl rfl (ex:= []) ?_;conv=>whnf
 (refine⟨by kernel_rfl,by kernel_rfl,?_⟩;(conv=>whnf))
 obtain⟨a1,a2,a3,a4⟩:=ha
 obtain⟨b1,b2,b3,b4⟩:=hb
 refine⟨lt0 (lc (ai0 ?_) (lc (ai0 ?_) ln0)),lh1 (bc0 (lc (lr rfl) (lc (lr rfl) ln0))) (lh1 (bc0 (lc (lr rfl) (lc (lr rfl) ln0))) lh0)⟩
 ·have h1:=zen (x:=a.n) (y:=b.d) (by omega) (by omega)
  have h2:=zen (x:=b.n) (y:=a.d) (by omega) (by omega)
  rw[zuh (x:=a.n) (by omega) (by omega),zuh (x:=b.n) (by omega) (by omega),wI (by omega)]
 ·rw[zuh (by omega) (by omega)]
theorem b143 (a b:Rt):Fn 231 [(1000002,rbl a),(1000003,rbl b)] [rtv a,rtv b,.fn 233 [.ptr 1000002 0,.ptr 1000003 0]] (rto (rOp a b (a.n*b.d-b.n*a.d) (a.d*b.d))) [(1000002,rbl a),(1000003,rbl b)]:=by
 refine fnT hT hmx Tryz.func231 rfl rfl (ex:= []) ?_;conv=>whnf
 refine gZn (f54 a.n a.d) ?_;conv=>whnf
 refine brI (fun h1=>?_) (fun h1=>?_)
 ·conv=>whnf
  rw[znk (by simpa using h1)]
  exact⟨lr rfl,zqf a b⟩
 ·conv=>whnf
  refine gZn (f54 b.n b.d) ?_;conv=>whnf
  refine brI (fun h2=>?_) (fun h2=>?_)
  ·conv=>whnf
   rw[zim (by simpa using h2)]
   exact⟨lr rfl,zqf a b⟩
  ·conv=>whnf
   have ha:rOk a=true:=by simpa using h1
   have hb:rOk b=true:=by simpa using h2
   have ia:=zc0 ha
   have ib:=zc0 hb
   refine⟨[rbl a,rbl b],_,f143 a b ia ib,?_⟩;conv=>whnf
   obtain⟨a1,a2,a3,a4⟩:=ia
   obtain⟨b1,b2,b3,b4⟩:=ib
   refine gZn (f144 _ _ ?_ ?_) ?_
   ·have h1:=zen (x:=a.n) (y:=b.d) (by omega) (by omega)
    have h2:=zen (x:=b.n) (y:=a.d) (by omega) (by omega)
    have h3:=zen (x:=a.n) (y:=b.n) (by omega) (by omega)
    omega
   ·have h1:=zen (x:=a.d) (y:=b.d) (by omega) (by omega)
    have h2:=zen (x:=a.d) (y:=b.n) (by omega) (by omega)
    omega
   ·conv=>whnf
    rw[zil ha hb]
    exact⟨lr rfl,zqf a b⟩
theorem f108 (a b:Rt):Fn 154 [] [rtv a,rtv b] (rto (qbc a b)) []:=by
 refine fnT hT hmx Tryz.func154 rfl rfl (ex:= []) ?_;conv=>whnf
 refine⟨[rbl a,rbl b],rto (qbc a b),(b143 a b).sw [(2,1000002),(3,1000003)] rfl,?_⟩;conv=>whnf
 exact⟨lr rfl,lh0⟩
theorem f161 (a b:Rt) (ha:rIn a) (hb:rIn b):Fn 234 [(1000002,rbl a),(1000003,rbl b)] [.ptr 1000002 0,.ptr 1000003 0] (.tup [.int .i64 (a.n*b.n),.int .i64 (a.d*b.d)]) [(1000002,rbl a),(1000003,rbl b)]:=by
 refine fnT hT hmx Tryz.func234 rfl rfl (ex:= []) ?_;conv=>whnf
 (refine⟨by kernel_rfl,by kernel_rfl,?_⟩;(conv=>whnf))
 obtain⟨a1,a2,a3,a4⟩:=ha
 obtain⟨b1,b2,b3,b4⟩:=hb
 refine⟨lt0 (lc (ai0 ?_) (lc (ai0 ?_) ln0)),lh1 (bc0 (lc (lr rfl) (lc (lr rfl) ln0))) (lh1 (bc0 (lc (lr rfl) (lc (lr rfl) ln0))) lh0)⟩
 ·rw[zuh (by omega) (by omega)]
 ·rw[zuh (by omega) (by omega)]
theorem b161 (a b:Rt):Fn 231 [(1000002,rbl a),(1000003,rbl b)] [rtv a,rtv b,.fn 234 [.ptr 1000002 0,.ptr 1000003 0]] (rto (rOp a b (a.n*b.n) (a.d*b.d))) [(1000002,rbl a),(1000003,rbl b)]:=by
 refine fnT hT hmx Tryz.func231 rfl rfl (ex:= []) ?_;conv=>whnf
 refine gZn (f54 a.n a.d) ?_;conv=>whnf
 refine brI (fun h1=>?_) (fun h1=>?_)
 ·conv=>whnf
  rw[znk (by simpa using h1)]
  exact⟨lr rfl,zqf a b⟩
 ·conv=>whnf
  refine gZn (f54 b.n b.d) ?_;conv=>whnf
  refine brI (fun h2=>?_) (fun h2=>?_)
  ·conv=>whnf
   rw[zim (by simpa using h2)]
   exact⟨lr rfl,zqf a b⟩
  ·conv=>whnf
   have ha:rOk a=true:=by simpa using h1
   have hb:rOk b=true:=by simpa using h2
   have ia:=zc0 ha
   have ib:=zc0 hb
   refine⟨[rbl a,rbl b],_,f161 a b ia ib,?_⟩;conv=>whnf
   obtain⟨a1,a2,a3,a4⟩:=ia
   obtain⟨b1,b2,b3,b4⟩:=ib
   refine gZn (f144 _ _ ?_ ?_) ?_
   ·have h1:=zen (x:=a.n) (y:=b.d) (by omega) (by omega)
    have h2:=zen (x:=b.n) (y:=a.d) (by omega) (by omega)
    have h3:=zen (x:=a.n) (y:=b.n) (by omega) (by omega)
    omega
   ·have h1:=zen (x:=a.d) (y:=b.d) (by omega) (by omega)
    have h2:=zen (x:=a.d) (y:=b.n) (by omega) (by omega)
    omega
   ·conv=>whnf
    rw[zil ha hb]
    exact⟨lr rfl,zqf a b⟩
theorem f142 (a b:Rt):Fn 155 [] [rtv a,rtv b] (rto (zw9 a b)) []:=by
 refine fnT hT hmx Tryz.func155 rfl rfl (ex:= []) ?_;conv=>whnf
 refine⟨[rbl a,rbl b],rto (zw9 a b),(b161 a b).sw [(2,1000002),(3,1000003)] rfl,?_⟩;conv=>whnf
 exact⟨lr rfl,lh0⟩
theorem f112 (a b:Rt) (ha:rIn a) (hb:rIn b):Fn 235 [(1000002,rbl a),(1000003,rbl b)] [.ptr 1000002 0,.ptr 1000003 0] (.tup [.int .i64 (a.n*b.d),.int .i64 (a.d*b.n)]) [(1000002,rbl a),(1000003,rbl b)]:=by
 refine fnT hT hmx Tryz.func235 rfl rfl (ex:= []) ?_;conv=>whnf
 (refine⟨by kernel_rfl,by kernel_rfl,?_⟩;(conv=>whnf))
 obtain⟨a1,a2,a3,a4⟩:=ha
 obtain⟨b1,b2,b3,b4⟩:=hb
 refine⟨lt0 (lc (ai0 ?_) (lc (ai0 ?_) ln0)),lh1 (bc0 (lc (lr rfl) (lc (lr rfl) ln0))) (lh1 (bc0 (lc (lr rfl) (lc (lr rfl) ln0))) lh0)⟩
 ·rw[zuh (by omega) (by omega)]
 ·rw[zuh (by omega) (by omega)]
theorem b112 (a b:Rt):Fn 231 [(1000002,rbl a),(1000003,rbl b)] [rtv a,rtv b,.fn 235 [.ptr 1000002 0,.ptr 1000003 0]] (rto (rOp a b (a.n*b.d) (a.d*b.n))) [(1000002,rbl a),(1000003,rbl b)]:=by
 refine fnT hT hmx Tryz.func231 rfl rfl (ex:= []) ?_;conv=>whnf
 refine gZn (f54 a.n a.d) ?_;conv=>whnf
 refine brI (fun h1=>?_) (fun h1=>?_)
 ·conv=>whnf
  rw[znk (by simpa using h1)]
  exact⟨lr rfl,zqf a b⟩
 ·conv=>whnf
  refine gZn (f54 b.n b.d) ?_;conv=>whnf
  refine brI (fun h2=>?_) (fun h2=>?_)
  ·conv=>whnf
   rw[zim (by simpa using h2)]
   exact⟨lr rfl,zqf a b⟩
  ·conv=>whnf
   have ha:rOk a=true:=by simpa using h1
   have hb:rOk b=true:=by simpa using h2
   have ia:=zc0 ha
   have ib:=zc0 hb
   refine⟨[rbl a,rbl b],_,f112 a b ia ib,?_⟩;conv=>whnf
   obtain⟨a1,a2,a3,a4⟩:=ia
   obtain⟨b1,b2,b3,b4⟩:=ib
   refine gZn (f144 _ _ ?_ ?_) ?_
   ·have h1:=zen (x:=a.n) (y:=b.d) (by omega) (by omega)
    have h2:=zen (x:=b.n) (y:=a.d) (by omega) (by omega)
    have h3:=zen (x:=a.n) (y:=b.n) (by omega) (by omega)
    omega
   ·have h1:=zen (x:=a.d) (y:=b.d) (by omega) (by omega)
    have h2:=zen (x:=a.d) (y:=b.n) (by omega) (by omega)
    omega
   ·conv=>whnf
    rw[zil ha hb]
    exact⟨lr rfl,zqf a b⟩
theorem f57 (a b:Rt):Fn 156 [] [rtv a,rtv b] (rto (rDiv a b)) []:=by
 refine fnT hT hmx Tryz.func156 rfl rfl (ex:= []) ?_;conv=>whnf
 refine⟨[rbl a,rbl b],rto (rDiv a b),(b112 a b).sw [(2,1000002),(3,1000003)] rfl,?_⟩;conv=>whnf
 exact⟨lr rfl,lh0⟩
end Go.Proofs.YtajnlbbgolmklaaGreatDoor

namespace Go.Proofs.YtajnlbbgolmklaaGreatDoor
open Go Go.Sx
set_option maxRecDepth 100000
set_option maxHeartbeats 1000000
theorem f155' (a:Nat) (d:Int) (ha:a<18446744073709551616) (hb:0≤d∧d<18446744073709551616):Fn 241 [] [.int .u64 a,.int .u64 (IntKind.u64.wrap d)] (.int .u64 (Nat.gcd a d.natAbs:Int)) []:=by
 have h:=f155 a d.natAbs ha (by omega)
 rwa [show((d.natAbs:Nat):Int)=IntKind.u64.wrap d by rw[wU (by omega)];omega]at h
theorem f131 (n d:Int):Fn 164 [] [.agg [.int .i64 n,.int .i64 d]] (.bool (rOk ⟨n,d⟩)) []:=by
 refine fnT hT hmx Tryz.func164 rfl rfl (ex:= []) ?_;conv=>whnf
 refine brI (fun h1=>?_) (fun h1=>?_)
 ·conv=>whnf
  refine brI (fun h2=>?_) (fun h2=>?_)
  ·conv=>whnf
   refine brI (fun h3=>?_) (fun h3=>?_)
   ·conv=>whnf
    refine brI (fun h4=>?_) (fun h4=>?_)
    ·conv=>whnf
     simp only[decide_eq_true_eq]at h1 h2 h3 h4
     refine gZn (f156 n (by omega)) ?_;conv=>whnf
     refine gZn (f155' n.natAbs d (by omega) (by omega)) ?_;conv=>whnf
     (refine⟨by kernel_rfl,by kernel_rfl,?_⟩;(conv=>whnf))
     refine⟨ab0 ?_,lh0⟩
     have:rIn ⟨n,d⟩:=⟨h1,h2,h3,h4⟩
     simp only[rOk,this,decide_true,Bool.true_and]
     rw[Bool.eq_iff_iff];simp;omega
    ·conv=>whnf
     (refine⟨by kernel_rfl,by kernel_rfl,?_⟩;(conv=>whnf))
     exact⟨ab0 (zd8 fun h=>by simp[rIn]at h h4;omega),lh0⟩
   ·conv=>whnf
    (refine⟨by kernel_rfl,by kernel_rfl,?_⟩;(conv=>whnf))
    exact⟨ab0 (zd8 fun h=>by simp[rIn]at h h3;omega),lh0⟩
  ·conv=>whnf
   (refine⟨by kernel_rfl,by kernel_rfl,?_⟩;(conv=>whnf))
   exact⟨ab0 (zd8 fun h=>by simp[rIn]at h h2;omega),lh0⟩
 ·conv=>whnf
  (refine⟨by kernel_rfl,by kernel_rfl,?_⟩;(conv=>whnf))
  exact⟨ab0 (zd8 fun h=>by simp[rIn]at h h1;omega),lh0⟩
end Go.Proofs.YtajnlbbgolmklaaGreatDoor

namespace Go.Proofs.YtajnlbbgolmklaaGreatDoor
open Go Go.Sx
set_option maxRecDepth 100000
set_option maxHeartbeats 1000000
end Go.Proofs.YtajnlbbgolmklaaGreatDoor
