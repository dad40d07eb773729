/-
  The seat's type table; how a contract is proved.
-/
import Derived.Test.YtlocddfailmnpaaGreatDoorQZz
import Derived.Test.YtlocddfailmnpaaGreatDoorChecked
set_option linter.unusedVariables false
set_option linter.unusedSimpArgs false
namespace Go.Proofs.YtlocddfailmnpaaGreatDoor
open Go Go.Sx
def Ty:List (Nat×TI):= [
 (3,⟨1,1,[],0,0,0,some .int,.i64,[.int .i64 0],8,false⟩),
 (33,⟨2,3,[(0,1,false),(1,1,false),(2,1,false)],0,0,0,some .dy,.i64,[.bool false,.nilsl,.int .i64 0],40,false⟩),
 (35,⟨2,7,[(0,3,true),(3,3,true),(6,1,false)],0,0,0,some .iv,.i64,[.bool false,.nilsl,.int .i64 0,.bool false,.nilsl,.int .i64 0,.bool false],88,false⟩),
 (31,⟨3,1,[],110,1,0,some .ls,.i64,[.nilsl],24,false⟩),
 (184,⟨2,2,[(0,1,false),(1,1,false)],0,0,0,none,.i64,[.bool false,.nilsl],32,false⟩),
 (4,⟨6,1,[],0,0,0,some .bool,.i64,[.bool false],1,false⟩),
 (9,⟨5,1,[],0,0,0,some .str,.i64,[.str []],16,false⟩),
 (47,⟨3,1,[],9,1,0,none,.i64,[.nilsl],24,false⟩),
 (25,⟨2,3,[(0,1,false),(1,1,false),(2,1,false)],0,0,0,none,.i64,[.int .i64 0,.nilsl,.nilsl],56,false⟩),
 (110,⟨1,1,[],0,0,0,some .u32,.u32,[.int .u32 0],4,false⟩),
 (43,⟨2,6,[(0,1,false),(1,2,true),(3,1,false),(4,1,false),(5,1,false)],0,0,0,some .ex,.i64,[.int .i64 0,.int .i64 0,.int .i64 0,.str [],.int .i64 0,.nilsl],72,false⟩),
 (140,⟨1,1,[],0,0,0,none,.u64,[.int .u64 0],8,false⟩),
 (39,⟨2,6,[(0,1,false),(1,1,false),(2,1,false),(3,1,false),(4,2,true)],0,0,0,some .op,.i64,[.int .i64 0,.int .i64 0,.int .i64 0,.int .i64 0,.int .i64 0,.int .i64 0],48,true⟩),
 (26,⟨3,1,[],35,7,0,some .vs,.i64,[.nilsl],24,false⟩),
 (22,⟨3,1,[],39,6,0,none,.i64,[.nilsl],24,false⟩),
 (23,⟨3,1,[],3,1,0,none,.i64,[.nilsl],24,false⟩),
 (155,⟨2,1,[(0,1,false)],0,0,0,none,.i64,[.int .i64 0],8,true⟩),
 (37,⟨2,2,[(0,1,false),(1,1,false)],0,0,0,some .rat,.i64,[.int .i64 0,.int .i64 0],16,true⟩),
 (41,⟨3,1,[],43,6,0,none,.i64,[.nilsl],24,false⟩),
 (176,⟨2,3,[(0,1,false),(1,1,false),(2,1,false)],0,0,0,none,.i64,[.nilsl,.int .i64 0,.bool false],40,false⟩),
 (49,⟨1,1,[],0,0,0,none,.i64,[.int .i64 0],8,false⟩),
 (221,⟨1,1,[],0,0,0,none,.u64,[.int .u64 0],8,false⟩),
 (90,⟨2,4,[(0,3,true),(3,1,false)],0,0,0,none,.i64,[.int .i64 0,.nilsl,.nilsl,.nilm],64,false⟩),
 (5,⟨1,1,[],0,0,0,none,.u8,[.int .u8 0],1,false⟩),
 (147,⟨4,6,[],33,3,2,none,.i64,[.bool false,.nilsl,.int .i64 0,.bool false,.nilsl,.int .i64 0],80,false⟩),
 (226,⟨3,1,[],31,1,0,none,.i64,[.nilsl],24,false⟩),
 (145,⟨1,1,[],0,0,0,none,.u64,[.int .u64 0],8,false⟩),
 (210,⟨3,1,[],33,3,0,none,.i64,[.nilsl],24,false⟩),
 (98,⟨3,1,[],26,1,0,none,.i64,[.nilsl],24,false⟩),
 (86,⟨7,1,[],90,0,0,none,.i64,[.nilp],8,false⟩),
 (148,⟨4,24,[],147,6,4,none,.i64,[.bool false,.nilsl,.int .i64 0,.bool false,.nilsl,.int .i64 0,.bool false,.nilsl,.int .i64 0,.bool false,.nilsl,.int .i64 0,.bool false,.nilsl,.int .i64 0,.bool false,.nilsl,.int .i64 0,.bool false,.nilsl,.int .i64 0,.bool false,.nilsl,.int .i64 0],320,false⟩),
 (71,⟨8,1,[],0,0,0,none,.i64,[.nilf],8,false⟩),
 (68,⟨9,1,[],9,0,35,none,.i64,[.nilm],8,false⟩),
 (108,⟨4,14,[],35,7,2,none,.i64,[.bool false,.nilsl,.int .i64 0,.bool false,.nilsl,.int .i64 0,.bool false,.bool false,.nilsl,.int .i64 0,.bool false,.nilsl,.int .i64 0,.bool false],176,false⟩),
 (107,⟨7,1,[],3,0,0,none,.i64,[.nilp],8,false⟩),
 (235,⟨4,32,[],5,1,32,none,.i64,[.int .u8 0,.int .u8 0,.int .u8 0,.int .u8 0,.int .u8 0,.int .u8 0,.int .u8 0,.int .u8 0,.int .u8 0,.int .u8 0,.int .u8 0,.int .u8 0,.int .u8 0,.int .u8 0,.int .u8 0,.int .u8 0,.int .u8 0,.int .u8 0,.int .u8 0,.int .u8 0,.int .u8 0,.int .u8 0,.int .u8 0,.int .u8 0,.int .u8 0,.int .u8 0,.int .u8 0,.int .u8 0,.int .u8 0,.int .u8 0,.int .u8 0,.int .u8 0],32,false⟩),
 (201,⟨1,1,[],0,0,0,none,.i64,[.int .i64 0],8,false⟩)]
def T:Tab:= {ty:=Ty,of:= [107,108],nb:= [(106,1),(108,1),(110,1),(111,1),(202,1)]}
theorem hmx:Tryz.prog.follows .mixedOrders =true:=by kernel_rfl
theorem hT:TabOK Tryz.prog T:=zgt (by kernel_rfl) (by kernel_rfl)
abbrev Fn (f:Nat) (H:Hp) (A:List AV) (r:AV) (H':Hp):Prop:=zd3 Tryz.prog f H A r H'
end Go.Proofs.YtlocddfailmnpaaGreatDoor

namespace Go.Proofs.YtlocddfailmnpaaGreatDoor
open Go Go.Sx
set_option maxRecDepth 100000
set_option maxHeartbeats 1000000
theorem f105 (n:Int) (h: -9223372036854775808≤n∧n≤9223372036854775807):Fn 118 [] [.int .i64 n] (.int .u64 (n.natAbs:Int)) []:=by
 refine fnT hT hmx Tryz.func118 rfl rfl (ex:= []) ?_;conv=>whnf
 refine brI (fun hb=>?_) (fun hb=>?_)
 ·conv=>whnf
  simp at hb
  refine⟨ai0 ?_,lh0⟩
  rcases Decidable.em (n= -9223372036854775808)with e|e
  ·subst e;rfl
  ·rw[wI (by omega),wU (by omega)];omega
 ·conv=>whnf
  simp at hb
  refine⟨ai0 ?_,lh0⟩
  rw[wU (by omega)];omega
theorem f104 (a b:Nat) (ha:a<18446744073709551616) (hb:b<18446744073709551616):Fn 117 [] [.int .u64 a,.int .u64 b] (.int .u64 (Nat.gcd a b:Int)) []:=by
 refine fnT hT hmx Tryz.func117 rfl rfl (ex:= []) ?_;conv=>whnf
 refine⟨Nat×Nat,fun x=>Nat.gcd x.1 x.2=Nat.gcd a b∧x.1<18446744073709551616∧x.2<18446744073709551616,fun x=> [(0,.int .u64 x.1),(1,.int .u64 x.2)],fun _=> [],fun x=>x.2,(a,b),⟨rfl,ha,hb⟩,?_,fun x hx=>?_⟩
 ·((conv=>whnf);refine⟨?_,lh0⟩;repeat' first|exact ln0|exact la0|exact lr rfl|refine lc ?_ ?_)
 ·obtain⟨hg,h1,h2⟩:=hx
  (refine⟨by kernel_rfl,?_⟩;(conv=>whnf))
  refine brI (fun hb=>?_) (fun hb=>?_)
  ·conv=>whnf
   simp at hb
   refine⟨by omega,?_⟩;conv=>whnf
   (refine⟨by kernel_rfl,by kernel_rfl,?_⟩;(conv=>whnf))
   refine⟨(x.2,x.1 % x.2),⟨?_,h2,?_⟩,?_,?_⟩
   ·rw[←hg];show Nat.gcd x.2 (x.1 % x.2)=_;rw[Nat.gcd_comm x.1 x.2,Nat.gcd_comm x.2 (x.1 % x.2)];exact(Nat.gcd_rec _ _).symm
   ·have:=Nat.mod_lt x.1 (Nat.pos_of_ne_zero hb);omega
   ·exact Nat.mod_lt x.1 (Nat.pos_of_ne_zero hb)
   ·((conv=>whnf);refine⟨?_,lh0⟩;repeat' first|exact ln0|exact la0|exact lr rfl|refine lc ?_ ?_)
  ·conv=>whnf
   simp at hb
   refine⟨ai0 ?_,lh0⟩
   rw[←hg,hb,Nat.gcd_zero_right]
theorem f155 (a b:Nat) (ha:a<18446744073709551616) (hb:b<18446744073709551616):Fn 121 [] [.int .u64 a,.int .u64 b] (.int .u64 (Nat.gcd a b:Int)) []:=by
 refine fnT hT hmx Tryz.func121 rfl rfl (ex:= []) ?_;conv=>whnf
 refine⟨Nat×Nat,fun x=>Nat.gcd x.1 x.2=Nat.gcd a b∧x.1<18446744073709551616∧x.2<18446744073709551616,fun x=> [(0,.int .u64 x.1),(1,.int .u64 x.2)],fun _=> [],fun x=>x.2,(a,b),⟨rfl,ha,hb⟩,?_,fun x hx=>?_⟩
 ·((conv=>whnf);refine⟨?_,lh0⟩;repeat' first|exact ln0|exact la0|exact lr rfl|refine lc ?_ ?_)
 ·obtain⟨hg,h1,h2⟩:=hx
  (refine⟨by kernel_rfl,?_⟩;(conv=>whnf))
  refine brI (fun hb=>?_) (fun hb=>?_)
  ·conv=>whnf
   simp at hb
   refine⟨by omega,?_⟩;conv=>whnf
   (refine⟨by kernel_rfl,by kernel_rfl,?_⟩;(conv=>whnf))
   refine⟨(x.2,x.1 % x.2),⟨?_,h2,?_⟩,?_,?_⟩
   ·rw[←hg];show Nat.gcd x.2 (x.1 % x.2)=_;rw[Nat.gcd_comm x.1 x.2,Nat.gcd_comm x.2 (x.1 % x.2)];exact(Nat.gcd_rec _ _).symm
   ·have:=Nat.mod_lt x.1 (Nat.pos_of_ne_zero hb);omega
   ·exact Nat.mod_lt x.1 (Nat.pos_of_ne_zero hb)
   ·((conv=>whnf);refine⟨?_,lh0⟩;repeat' first|exact ln0|exact la0|exact lr rfl|refine lc ?_ ?_)
  ·conv=>whnf
   simp at hb
   refine⟨ai0 ?_,lh0⟩
   rw[←hg,hb,Nat.gcd_zero_right]
theorem f156 (n:Int) (h: -9223372036854775808≤n∧n≤9223372036854775807):Fn 122 [] [.int .i64 n] (.int .u64 (n.natAbs:Int)) []:=by
 refine fnT hT hmx Tryz.func122 rfl rfl (ex:= []) ?_;conv=>whnf
 refine brI (fun hb=>?_) (fun hb=>?_)
 ·conv=>whnf
  simp at hb
  refine⟨ai0 ?_,lh0⟩
  rw[wI (x:=n+1) (by omega),wI (by omega),wU (x:=0-(n+1)) (by omega),wU (by omega)];omega
 ·conv=>whnf
  simp at hb
  refine⟨ai0 ?_,lh0⟩
  rw[wU (by omega)];omega
end Go.Proofs.YtlocddfailmnpaaGreatDoor

namespace Go.Proofs.YtlocddfailmnpaaGreatDoor
open Go Go.Sx
set_option maxRecDepth 100000
set_option maxHeartbeats 1000000
def rIn (r:Rt):Prop:=1≤r.d∧r.d≤1073741824∧ -1073741824≤r.n∧r.n≤1073741824
instance (r:Rt):Decidable (rIn r):=by unfold rIn;infer_instance
def rOk (r:Rt):Bool:=decide (rIn r)&&(Nat.gcd r.n.natAbs r.d.natAbs==1)
theorem zdu {r:Rt} (h: ¬rIn r):false=rOk r:=by simp[rOk,h]
theorem f54 (n d:Int):Fn 72 [] [.agg [.int .i64 n,.int .i64 d]] (.bool (rOk ⟨n,d⟩)) []:=by
 refine fnT hT hmx Tryz.func72 rfl rfl (ex:= []) ?_;conv=>whnf
 refine brI (fun h1=>?_) (fun h1=>?_)
 ·conv=>whnf
  refine brI (fun h2=>?_) (fun h2=>?_)
  ·conv=>whnf
   refine brI (fun h3=>?_) (fun h3=>?_)
   ·conv=>whnf
    refine brI (fun h4=>?_) (fun h4=>?_)
    ·conv=>whnf
     simp only[decide_eq_true_eq]at h1 h2 h3 h4
     refine gZn (f105 n (by omega)) ?_;conv=>whnf
     refine gZn (f105 d (by omega)) ?_;conv=>whnf
     refine gZn (f104 n.natAbs d.natAbs (by omega) (by omega)) ?_;conv=>whnf
     (refine⟨by kernel_rfl,by kernel_rfl,?_⟩;(conv=>whnf))
     refine⟨ab0 ?_,lh0⟩
     have:rIn ⟨n,d⟩:=⟨h1,h2,h3,h4⟩
     simp only[rOk,this,decide_true,Bool.true_and]
     rw[Bool.eq_iff_iff];simp;omega
    ·conv=>whnf
     (refine⟨by kernel_rfl,by kernel_rfl,?_⟩;(conv=>whnf))
     exact⟨ab0 (zdu fun h=>by simp[rIn]at h h4;omega),lh0⟩
   ·conv=>whnf
    (refine⟨by kernel_rfl,by kernel_rfl,?_⟩;(conv=>whnf))
    exact⟨ab0 (zdu fun h=>by simp[rIn]at h h3;omega),lh0⟩
  ·conv=>whnf
   (refine⟨by kernel_rfl,by kernel_rfl,?_⟩;(conv=>whnf))
   exact⟨ab0 (zdu fun h=>by simp[rIn]at h h2;omega),lh0⟩
 ·conv=>whnf
  (refine⟨by kernel_rfl,by kernel_rfl,?_⟩;(conv=>whnf))
  exact⟨ab0 (zdu fun h=>by simp[rIn]at h h1;omega),lh0⟩
end Go.Proofs.YtlocddfailmnpaaGreatDoor

namespace Go.Proofs.YtlocddfailmnpaaGreatDoor
open Go Go.Sx
set_option maxRecDepth 100000
set_option maxHeartbeats 1000000
theorem zwu {r:Rt} (h:rOk r=true):rIn r:=by simp[rOk]at h;exact h.1
end Go.Proofs.YtlocddfailmnpaaGreatDoor

namespace Go.Proofs.YtlocddfailmnpaaGreatDoor
open Go Go.Sx
set_option maxRecDepth 100000
set_option maxHeartbeats 1000000
theorem f155' (a:Nat) (d:Int) (ha:a<18446744073709551616) (hb:0≤d∧d<18446744073709551616):Fn 121 [] [.int .u64 a,.int .u64 (IntKind.u64.wrap d)] (.int .u64 (Nat.gcd a d.natAbs:Int)) []:=by
 have h:=f155 a d.natAbs ha (by omega)
 rwa [show((d.natAbs:Nat):Int)=IntKind.u64.wrap d by rw[wU (by omega)];omega]at h
theorem f131 (n d:Int):Fn 76 [] [.agg [.int .i64 n,.int .i64 d]] (.bool (rOk ⟨n,d⟩)) []:=by
 refine fnT hT hmx Tryz.func76 rfl rfl (ex:= []) ?_;conv=>whnf
 refine brI (fun h1=>?_) (fun h1=>?_)
 ·conv=>whnf
  refine brI (fun h2=>?_) (fun h2=>?_)
  ·conv=>whnf
   refine brI (fun h3=>?_) (fun h3=>?_)
   ·conv=>whnf
    refine brI (fun h4=>?_) (fun h4=>?_)
    ·conv=>whnf
     simp only[decide_eq_true_eq]at h1 h2 h3 h4
     refine gZn (f156 n (by omega)) ?_;conv=>whnf
     refine gZn (f155' n.natAbs d (by omega) (by omega)) ?_;conv=>whnf
     (refine⟨by kernel_rfl,by kernel_rfl,?_⟩;(conv=>whnf))
     refine⟨ab0 ?_,lh0⟩
     have:rIn ⟨n,d⟩:=⟨h1,h2,h3,h4⟩
     simp only[rOk,this,decide_true,Bool.true_and]
     rw[Bool.eq_iff_iff];simp;omega
    ·conv=>whnf
     (refine⟨by kernel_rfl,by kernel_rfl,?_⟩;(conv=>whnf))
     exact⟨ab0 (zdu fun h=>by simp[rIn]at h h4;omega),lh0⟩
   ·conv=>whnf
    (refine⟨by kernel_rfl,by kernel_rfl,?_⟩;(conv=>whnf))
    exact⟨ab0 (zdu fun h=>by simp[rIn]at h h3;omega),lh0⟩
  ·conv=>whnf
   (refine⟨by kernel_rfl,by kernel_rfl,?_⟩;(conv=>whnf))
   exact⟨ab0 (zdu fun h=>by simp[rIn]at h h2;omega),lh0⟩
 ·conv=>whnf
  (refine⟨by kernel_rfl,by kernel_rfl,?_⟩;(conv=>whnf))
  exact⟨ab0 (zdu fun h=>by simp[rIn]at h h1;omega),lh0⟩
end Go.Proofs.YtlocddfailmnpaaGreatDoor

namespace Go.Proofs.YtlocddfailmnpaaGreatDoor
open Go Go.Sx
set_option maxRecDepth 100000
set_option maxHeartbeats 1000000
end Go.Proofs.YtlocddfailmnpaaGreatDoor
