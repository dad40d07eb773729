/- The seat's type table; how a contract is proved. -/
import Derived.Test.YtbolipecnhlnnaaGreatDoorVZz
import Derived.Test.YtbolipecnhlnnaaGreatDoorChecked
import Derived.Laws.Externs
import Derived.Tactics
set_option linter.all false
open And renaming intro->q2
open List renaming getElem?_eq_some_iff->q1,drop_eq_getElem_cons->q3,mem_of_getElem?->q6,length_cons->q9,mem_cons->qd
open Nat renaming gcd->q0,pos_of_ne_zero->q4,gcd_comm->q5,mod_lt->q7,gcd_zero_right->q8,gcd_rec->qn
namespace Go.Proofs.YtbolipecnhlnnaaGreatDoor
open Go Go.Sx
def Ty:List (Nat×TI):= [
 (3,⟨1,1,[],0,0,0,some .int,.i64,[.int .i64 0],8,false⟩),
 (26,⟨2,3,[(0,1,false),(1,1,false),(2,1,false)],0,0,0,some .dy,.i64,[.bool false,.nilsl,.int .i64 0],40,false⟩),
 (28,⟨2,7,[(0,3,true),(3,3,true),(6,1,false)],0,0,0,some .iv,.i64,[.bool false,.nilsl,.int .i64 0,.bool false,.nilsl,.int .i64 0,.bool false],88,false⟩),
 (24,⟨3,1,[],108,1,0,some .ls,.i64,[.nilsl],24,false⟩),
 (4,⟨6,1,[],0,0,0,some .bool,.i64,[.bool false],1,false⟩),
 (23,⟨3,1,[],28,7,0,some .vs,.i64,[.nilsl],24,false⟩),
 (108,⟨1,1,[],0,0,0,some .u32,.u32,[.int .u32 0],4,false⟩),
 (143,⟨1,1,[],0,0,0,none,.u64,[.int .u64 0],8,false⟩),
 (215,⟨2,2,[(0,1,false),(1,1,false)],0,0,0,none,.i64,[.bool false,.nilsl],32,false⟩),
 (63,⟨2,6,[(0,1,false),(1,2,true),(3,1,false),(4,1,false),(5,1,false)],0,0,0,some .ex,.i64,[.int .i64 0,.int .i64 0,.int .i64 0,.str [],.int .i64 0,.nilsl],72,false⟩),
 (22,⟨3,1,[],23,1,0,none,.i64,[.nilsl],24,false⟩),
 (9,⟨5,1,[],0,0,0,some .str,.i64,[.str []],16,false⟩),
 (60,⟨2,2,[(0,1,false),(1,1,false)],0,0,0,some .rat,.i64,[.int .i64 0,.int .i64 0],16,true⟩),
 (64,⟨3,1,[],9,1,0,none,.i64,[.nilsl],24,false⟩),
 (61,⟨3,1,[],63,6,0,none,.i64,[.nilsl],24,false⟩),
 (160,⟨2,1,[(0,1,false)],0,0,0,none,.i64,[.int .i64 0],8,true⟩),
 (88,⟨2,2,[(0,1,false),(1,1,false)],0,0,0,none,.i64,[.nilsl,.nilsl],48,false⟩),
 (32,⟨1,1,[],0,0,0,none,.i64,[.int .i64 0],8,false⟩),
 (5,⟨1,1,[],0,0,0,none,.u8,[.int .u8 0],1,false⟩),
 (209,⟨2,3,[(0,1,false),(1,1,false),(2,1,false)],0,0,0,none,.i64,[.nilsl,.int .i64 0,.bool false],40,false⟩),
 (163,⟨4,6,[],26,3,2,some .dd,.i64,[.bool false,.nilsl,.int .i64 0,.bool false,.nilsl,.int .i64 0],80,false⟩),
 (273,⟨1,1,[],0,0,0,none,.u64,[.int .u64 0],8,false⟩),
 (42,⟨3,1,[],26,3,0,none,.i64,[.nilsl],24,false⟩),
 (231,⟨4,4,[],60,2,2,none,.i64,[.int .i64 0,.int .i64 0,.int .i64 0,.int .i64 0],32,false⟩),
 (37,⟨1,1,[],0,0,0,none,.u64,[.int .u64 0],8,false⟩),
 (281,⟨3,1,[],24,1,0,none,.i64,[.nilsl],24,false⟩),
 (29,⟨1,1,[],0,0,0,none,.u16,[.int .u16 0],2,false⟩),
 (250,⟨3,1,[],163,6,0,none,.i64,[.nilsl],24,false⟩),
 (68,⟨8,1,[],0,0,0,none,.i64,[.nilf],8,false⟩),
 (118,⟨3,1,[],60,2,0,none,.i64,[.nilsl],24,false⟩),
 (164,⟨4,24,[],163,6,4,none,.i64,[.bool false,.nilsl,.int .i64 0,.bool false,.nilsl,.int .i64 0,.bool false,.nilsl,.int .i64 0,.bool false,.nilsl,.int .i64 0,.bool false,.nilsl,.int .i64 0,.bool false,.nilsl,.int .i64 0,.bool false,.nilsl,.int .i64 0,.bool false,.nilsl,.int .i64 0],320,false⟩),
 (171,⟨9,1,[],9,0,60,none,.i64,[.nilm],8,false⟩),
 (67,⟨8,1,[],0,0,0,none,.i64,[.nilf],8,false⟩),
 (119,⟨9,1,[],9,0,28,none,.i64,[.nilm],8,false⟩),
 (180,⟨4,14,[],28,7,2,none,.i64,[.bool false,.nilsl,.int .i64 0,.bool false,.nilsl,.int .i64 0,.bool false,.bool false,.nilsl,.int .i64 0,.bool false,.nilsl,.int .i64 0,.bool false],176,false⟩),
 (179,⟨7,1,[],3,0,0,none,.i64,[.nilp],8,false⟩),
 (284,⟨4,32,[],5,1,32,none,.i64,[.int .u8 0,.int .u8 0,.int .u8 0,.int .u8 0,.int .u8 0,.int .u8 0,.int .u8 0,.int .u8 0,.int .u8 0,.int .u8 0,.int .u8 0,.int .u8 0,.int .u8 0,.int .u8 0,.int .u8 0,.int .u8 0,.int .u8 0,.int .u8 0,.int .u8 0,.int .u8 0,.int .u8 0,.int .u8 0,.int .u8 0,.int .u8 0,.int .u8 0,.int .u8 0,.int .u8 0,.int .u8 0,.int .u8 0,.int .u8 0,.int .u8 0,.int .u8 0],32,false⟩),
 (129,⟨9,1,[],9,0,63,none,.i64,[.nilm],8,false⟩),
 (238,⟨1,1,[],0,0,0,none,.i64,[.int .i64 0],8,false⟩),
 (48,⟨8,1,[],0,0,0,none,.i64,[.nilf],8,false⟩)]
def T:Tab:= {ty:=Ty,of:= [111,112],nb:= [(110,1),(170,1),(112,1),(187,1)]}
theorem hmx:Tryz.prog.follows .mixedOrders =true:=Z
theorem hT:TabOK Tryz.prog T:=zhv Z Z
abbrev Fn(f:Nat)(H:Hp)(A:List AV)(r:AV)(H':Hp):Prop:=zmk Tryz.prog f H A r H'
set_option maxRecDepth 100000
set_option maxHeartbeats 1000000
theorem f105(n:Int)(h: -9223372036854775808<=n/\n<=9223372036854775807):Fn 257 [] [.int .i64 n] (.int .u64 (n.natAbs:Int)) []:=by
 refine fnT hT hmx Tryz.func257 rfl rfl (ex:= []) ?_;conv=>whnf
 refine brI (fun hb=>?_) (fun hb=>?_)
 .conv=>whnf
  simp at hb;refine⟨ai0 ?_,lh0⟩;rcases Decidable.em (n= -9223372036854775808)with e|e
  .subst e;rfl
  .rw[wI O,wU O];omega
 .conv=>whnf
  simp at hb;refine⟨ai0 ?_,lh0⟩;rw[wU O];omega
theorem qed(a b:Nat):Int.tdiv (a:Int) (b:Int)=((a/b:Nat):Int):=by
 rw[Int.tdiv_eq_ediv_of_nonneg O];rfl
theorem f104(a b:Nat)(ha:a<18446744073709551616)(hb:b<18446744073709551616):Fn 256 [] [.int .u64 a,.int .u64 b] (.int .u64 (q0 a b:Int)) []:=by
 refine fnT hT hmx Tryz.func256 rfl rfl (ex:= []) ?_;conv=>whnf
 refine⟨Nat×Nat,fun x=>q0 x.1 x.2=q0 a b/\x.1<18446744073709551616/\x.2<18446744073709551616,fun x=> [(0,.int .u64 x.1),(1,.int .u64 x.2)],fun _=> [],fun x=>x.2,(a,b),⟨rfl,ha,hb⟩,?_,fun x hx=>?_⟩
 ·((conv=>whnf);refine⟨?_,lh0⟩;repeat' first|exact ln0|exact la0|exact lr rfl|refine lc ?_ ?_)
 .obtain⟨hg,h1,h2⟩:=hx;refine gYe ?_;refine brI (fun hb=>?_) (fun hb=>?_)
  .conv=>whnf
   simp at hb;refine⟨O,?_⟩;conv=>whnf
   refine gYd ?_;refine⟨(x.2,x.1 % x.2),⟨?_,h2,?_⟩,?_,?_⟩
   .rw[<-hg];show q0 x.2 (x.1 % x.2)=_;rw[q5 x.1 x.2,q5 x.2 (x.1 % x.2)];exact(qn _ _).symm
   .have:=q7 x.1 (q4 hb);omega
   .exact q7 x.1 (q4 hb)
   ·((conv=>whnf);refine⟨?_,lh0⟩;repeat' first|exact ln0|exact la0|exact lr rfl|refine lc ?_ ?_)
  .conv=>whnf
   simp at hb;refine⟨ai0 ?_,lh0⟩;rw[<-hg,hb,q8]
theorem wQ(a g:Nat)(ha:a<18446744073709551616):IntKind.u64.wrap (Int.tdiv (a:Int) (g:Int))=((a/g:Nat):Int):=by
 have:=Nat.div_le_self a g;rw[qed];generalize a/g=c at*;rw[wU];omega
theorem f155(a b:Nat)(ha:a<18446744073709551616)(hb:b<18446744073709551616):Fn 329 [] [.int .u64 a,.int .u64 b] (.int .u64 (q0 a b:Int)) []:=by
 refine fnT hT hmx Tryz.func329 rfl rfl (ex:= []) ?_;conv=>whnf
 refine⟨Nat×Nat,fun x=>q0 x.1 x.2=q0 a b/\x.1<18446744073709551616/\x.2<18446744073709551616,fun x=> [(0,.int .u64 x.1),(1,.int .u64 x.2)],fun _=> [],fun x=>x.2,(a,b),⟨rfl,ha,hb⟩,?_,fun x hx=>?_⟩
 ·((conv=>whnf);refine⟨?_,lh0⟩;repeat' first|exact ln0|exact la0|exact lr rfl|refine lc ?_ ?_)
 .obtain⟨hg,h1,h2⟩:=hx;refine gYe ?_;refine brI (fun hb=>?_) (fun hb=>?_)
  .conv=>whnf
   simp at hb;refine⟨O,?_⟩;conv=>whnf
   refine gYd ?_;refine⟨(x.2,x.1 % x.2),⟨?_,h2,?_⟩,?_,?_⟩
   .rw[<-hg];show q0 x.2 (x.1 % x.2)=_;rw[q5 x.1 x.2,q5 x.2 (x.1 % x.2)];exact(qn _ _).symm
   .have:=q7 x.1 (q4 hb);omega
   .exact q7 x.1 (q4 hb)
   ·((conv=>whnf);refine⟨?_,lh0⟩;repeat' first|exact ln0|exact la0|exact lr rfl|refine lc ?_ ?_)
  .conv=>whnf
   simp at hb;refine⟨ai0 ?_,lh0⟩;rw[<-hg,hb,q8]
theorem f156(n:Int)(h: -9223372036854775808<=n/\n<=9223372036854775807):Fn 254 [] [.int .i64 n] (.int .u64 (n.natAbs:Int)) []:=by
 refine fnT hT hmx Tryz.func254 rfl rfl (ex:= []) ?_;conv=>whnf
 refine brI (fun hb=>?_) (fun hb=>?_)
 .conv=>whnf
  simp at hb;refine⟨ai0 ?_,lh0⟩;rw[wI (x:=n+1) O,wI O,wU (x:=0-(n+1)) O,wU O];omega
 .conv=>whnf
  simp at hb;refine⟨ai0 ?_,lh0⟩;rw[wU O];omega
theorem wN(c:Nat)(h:¬((c:Int)>1073741824)):IntKind.i64.wrap (c:Int)=(c:Int):=wI O
theorem wM(c:Nat)(h:¬((c:Int)>1073741824)):IntKind.i64.wrap (0-(c:Int))= -(c:Int):=by rw[wI O];omega
def rIn(r:Rt):Prop:=1<=r.d/\r.d<=1073741824/\ -1073741824<=r.n/\r.n<=1073741824
instance (r:Rt):Decidable (rIn r):=by unfold rIn;infer_instance
def rOk(r:Rt):Bool:=decide (rIn r)&&(q0 r.n.natAbs r.d.natAbs==1)
theorem zgf{r:Rt}(h:¬rIn r):false=rOk r:=by simp[rOk,h]
theorem f54(n d:Int):Fn 172 [] [.agg [.int .i64 n,.int .i64 d]] (.bool (rOk ⟨n,d⟩)) []:=by
 refine fnT hT hmx Tryz.func172 rfl rfl (ex:= []) ?_;conv=>whnf
 refine brI (fun h1=>?_) (fun h1=>?_)
 .conv=>whnf
  refine brI (fun h2=>?_) (fun h2=>?_)
  .conv=>whnf
   refine brI (fun h3=>?_) (fun h3=>?_)
   .conv=>whnf
    refine brI (fun h4=>?_) (fun h4=>?_)
    .conv=>whnf
     simp only[Z2]at h1 h2 h3 h4;refine gYn (f105 n O) ?_;refine gYn (f105 d O) ?_;refine gYn (f104 n.natAbs d.natAbs O O) ?_;refine gYd ?_;refine⟨ab0 ?_,lh0⟩;have:rIn ⟨n,d⟩:=⟨h1,h2,h3,h4⟩;simp only[rOk,this,decide_true,Bool.true_and];rw[Bool.eq_iff_iff];simp;omega
    .conv=>whnf
     refine gYd ?_;exact⟨ab0 (zgf fun h=>by simp[rIn]at h h4;omega),lh0⟩
   .conv=>whnf
    refine gYd ?_;exact⟨ab0 (zgf fun h=>by simp[rIn]at h h3;omega),lh0⟩
  .conv=>whnf
   refine gYd ?_;exact⟨ab0 (zgf fun h=>by simp[rIn]at h h2;omega),lh0⟩
 .conv=>whnf
  refine gYd ?_;exact⟨ab0 (zgf fun h=>by simp[rIn]at h h1;omega),lh0⟩
def low(neg:Bool)(a b:Nat):Option Rt:=
 if a/q0 a b<=1073741824/\b/q0 a b<=1073741824 then some ⟨if neg then-((a/q0 a b:Nat):Int)else((a/q0 a b:Nat):Int),((b/q0 a b:Nat):Int)⟩else none
def zgv(n d:Int):Rt×Int:=if d=0 then(⟨0,0⟩,10)else match low (decide (n<0) != decide (d<0)) n.natAbs d.natAbs with
 |none=>(⟨0,0⟩,9)
 |some r=>(r,0)
abbrev rtv(r:Rt):AV:=.agg [.int .i64 r.n,.int .i64 r.d]
theorem f144(n d:Int)(hn: -9223372036854775808<=n/\n<=9223372036854775807)(hd: -9223372036854775808<=d/\d<=9223372036854775807):
 Fn 379 [] [.int .i64 n,.int .i64 d] (.tup [rtv (zgv n d).1,.int .i64 (zgv n d).2]) []:=by
 refine fnT hT hmx Tryz.func379 rfl rfl (ex:= []) ?_;conv=>whnf
 refine brI (fun h1=>?_) (fun h1=>?_)
 .conv=>whnf
  have h1:d=0:=by simpa using h1
  refine⟨?_,lh0⟩;have:zgv n d=(⟨0,0⟩,10):=by simp[zgv,h1]
  rw[this];exact lr rfl
 .conv=>whnf
  have h1:d≠0:=by simpa using h1
  refine gYn (f105 n hn) ?_;refine gYn (f105 d hd) ?_;refine gYn (f104 n.natAbs d.natAbs O O) ?_;have hg0:q0 n.natAbs d.natAbs≠0:=fun e=>h1 (by have:=Nat.eq_zero_of_gcd_eq_zero_right e;omega)
  refine⟨O,?_⟩;conv=>whnf
  refine⟨O,?_⟩;conv=>whnf
  refine gYd ?_;refine brI (fun h2=>?_) (fun h2=>?_)
  .conv=>whnf
   have hlow:zgv n d=(⟨0,0⟩,9):=by
    rw[wQ _ _ O]at h2;simp only[Z2]at h2;have:low (decide (n<0) != decide (d<0)) n.natAbs d.natAbs=none:=by rw[low,Z5 O]
    rw[zgv,Z5 h1,this]
   rw[hlow];exact⟨lr rfl,lh0⟩
  .conv=>whnf
   rw[wQ _ _ O]at h2;simp only[Z3]at h2;refine brI (fun h3=>?_) (fun h3=>?_)
   .conv=>whnf
    have hlow:zgv n d=(⟨0,0⟩,9):=by
     rw[wQ _ _ O]at h3;simp only[Z2]at h3;have:low (decide (n<0) != decide (d<0)) n.natAbs d.natAbs=none:=by rw[low,Z5 O]
     rw[zgv,Z5 h1,this]
    rw[hlow];exact⟨lr rfl,lh0⟩
   .conv=>whnf
    rw[wQ _ _ O]at h3;simp only[Z3]at h3;have hlow:zgv n d=(⟨if(decide (n<0) != decide (d<0))=true then-((n.natAbs/q0 n.natAbs d.natAbs:Nat):Int)else((n.natAbs/q0 n.natAbs d.natAbs:Nat):Int),((d.natAbs/q0 n.natAbs d.natAbs:Nat):Int)⟩,0):=by
     rw[zgv,Z5 h1,low,Z4 O]
    rw[hlow];refine brI (fun h4=>?_) (fun h4=>?_)
    .conv=>whnf
     refine⟨lt0 (lc (lg0 (lc (ai0 ?_) (lc (ai0 ?_) ln0))) (lc (ai0 rfl) ln0)),lh0⟩
     .rw[wQ _ _ O,wN _ h2,wM _ h2];have:(decide (n<0) != decide (d<0))=true:=by revert h4;cases decide (n<0)<;>cases decide (d<0)<;>simp
      simp only[this,if_true]
     .rw[wQ _ _ O,wN _ h3]
    .conv=>whnf
     refine⟨lt0 (lc (lg0 (lc (ai0 ?_) (lc (ai0 ?_) ln0))) (lc (ai0 rfl) ln0)),lh0⟩
     .rw[wQ _ _ O,wN _ h2];have:(decide (n<0) != decide (d<0))=false:=by revert h4;cases decide (n<0)<;>cases decide (d<0)<;>simp
      simp only[this];simp
     .rw[wQ _ _ O,wN _ h3]
theorem zb9{r:Rt}(h:rOk r=true):rIn r:=by simp[rOk]at h;exact h.1
def rOp(a b:Rt)(n d:Int):Rt×Int:=if(rOk a&&rOk b)=true then zgv n d else(⟨0,0⟩,1)
def rAdd(a b:Rt):Rt×Int:=rOp a b (a.n*b.d+b.n*a.d) (a.d*b.d)
def qhv(a b:Rt):Rt×Int:=rOp a b (a.n*b.d-b.n*a.d) (a.d*b.d)
def qcn(a b:Rt):Rt×Int:=rOp a b (a.n*b.n) (a.d*b.d)
def rDiv(a b:Rt):Rt×Int:=rOp a b (a.n*b.d) (a.d*b.n)
abbrev rto(p:Rt×Int):AV:=.tup [rtv p.1,.int .i64 p.2]
abbrev rbl(a:Rt):Blk:=.cells [.int .i64 a.n,.int .i64 a.d]
theorem zqx{a b:Rt}{n d:Int}(h:rOk a=false):rOp a b n d=(⟨0,0⟩,1):=by simp[rOp,h]
theorem zle{a b:Rt}{n d:Int}(h:rOk b=false):rOp a b n d=(⟨0,0⟩,1):=by simp[rOp,h]
theorem zld{a b:Rt}{n d:Int}(h:rOk a=true)(h2:rOk b=true):rOp a b n d=zgv n d:=by simp[rOp,h,h2]
theorem ztw{h h':Hp}(a b:Rt):leH h h' [(1000002,rbl a),(1000003,rbl b)] [(1000002,rbl a),(1000003,rbl b)]:=lh1 (bc0 (lc (lr rfl) (lc (lr rfl) ln0))) (lh1 (bc0 (lc (lr rfl) (lc (lr rfl) ln0))) lh0)
theorem zgx{x y:Int}(h1: -1073741824<=x/\x<=1073741824)(h2: -1073741824<=y/\y<=1073741824): -1152921504606846976<=x*y/\x*y<=1152921504606846976:=by
 have e:(x*y).natAbs =x.natAbs*y.natAbs:=Int.natAbs_mul x y;have:x.natAbs*y.natAbs<=1073741824*1073741824:=Nat.mul_le_mul O O;omega
theorem zyz{x y:Int}(h1: -1073741824<=x/\x<=1073741824)(h2: -1073741824<=y/\y<=1073741824):IntKind.i64.wrap (x*y)=x*y:=wI (by have:=zgx h1 h2;omega)
theorem f143(a b:Rt)(ha:rIn a)(hb:rIn b):Fn 338 [(1000002,rbl a),(1000003,rbl b)] [.ptr 1000002 0,.ptr 1000003 0] (.tup [.int .i64 (a.n*b.d-b.n*a.d),.int .i64 (a.d*b.d)]) [(1000002,rbl a),(1000003,rbl b)]:=by
 refine fnT hT hmx Tryz.func338 rfl rfl (ex:= []) ?_;conv=>whnf
 refine gYd ?_;obtain⟨a1,a2,a3,a4⟩:=ha;obtain⟨b1,b2,b3,b4⟩:=hb;refine⟨lt0 (lc (ai0 ?_) (lc (ai0 ?_) ln0)),lh1 (bc0 (lc (lr rfl) (lc (lr rfl) ln0))) (lh1 (bc0 (lc (lr rfl) (lc (lr rfl) ln0))) lh0)⟩
 .have h1:=zgx (x:=a.n) (y:=b.d) O O;have h2:=zgx (x:=b.n) (y:=a.d) O O;rw[zyz (x:=a.n) O O,zyz (x:=b.n) O O,wI O]
 .rw[zyz O O]
theorem b143(a b:Rt):Fn 336 [(1000002,rbl a),(1000003,rbl b)] [rtv a,rtv b,.fn 338 [.ptr 1000002 0,.ptr 1000003 0]] (rto (rOp a b (a.n*b.d-b.n*a.d) (a.d*b.d))) [(1000002,rbl a),(1000003,rbl b)]:=by
 refine fnT hT hmx Tryz.func336 rfl rfl (ex:= []) ?_;conv=>whnf
 refine gYn (f54 a.n a.d) ?_;refine brI (fun h1=>?_) (fun h1=>?_)
 .conv=>whnf
  rw[zqx (by simpa using h1)];exact⟨lr rfl,ztw a b⟩
 .conv=>whnf
  refine gYn (f54 b.n b.d) ?_;refine brI (fun h2=>?_) (fun h2=>?_)
  .conv=>whnf
   rw[zle (by simpa using h2)];exact⟨lr rfl,ztw a b⟩
  .conv=>whnf
   have ha:rOk a=true:=by simpa using h1
   have hb:rOk b=true:=by simpa using h2
   have ia:=zb9 ha;have ib:=zb9 hb;refine⟨[rbl a,rbl b],_,f143 a b ia ib,?_⟩;conv=>whnf
   obtain⟨a1,a2,a3,a4⟩:=ia;obtain⟨b1,b2,b3,b4⟩:=ib;refine gZn (f144 _ _ ?_ ?_) ?_
   .have h1:=zgx (x:=a.n) (y:=b.d) O O;have h2:=zgx (x:=b.n) (y:=a.d) O O;have h3:=zgx (x:=a.n) (y:=b.n) O O;omega
   .have h1:=zgx (x:=a.d) (y:=b.d) O O;have h2:=zgx (x:=a.d) (y:=b.n) O O;omega
   .conv=>whnf
    rw[zld ha hb];exact⟨lr rfl,ztw a b⟩
theorem f108(a b:Rt):Fn 259 [] [rtv a,rtv b] (rto (qhv a b)) []:=by
 refine fnT hT hmx Tryz.func259 rfl rfl (ex:= []) ?_;conv=>whnf
 refine⟨[rbl a,rbl b],rto (qhv a b),(b143 a b).sw [(2,1000002),(3,1000003)] rfl,?_⟩;conv=>whnf
 exact⟨lr rfl,lh0⟩
theorem f112(a b:Rt)(ha:rIn a)(hb:rIn b):Fn 340 [(1000002,rbl a),(1000003,rbl b)] [.ptr 1000002 0,.ptr 1000003 0] (.tup [.int .i64 (a.n*b.d),.int .i64 (a.d*b.n)]) [(1000002,rbl a),(1000003,rbl b)]:=by
 refine fnT hT hmx Tryz.func340 rfl rfl (ex:= []) ?_;conv=>whnf
 refine gYd ?_;obtain⟨a1,a2,a3,a4⟩:=ha;obtain⟨b1,b2,b3,b4⟩:=hb;refine⟨lt0 (lc (ai0 ?_) (lc (ai0 ?_) ln0)),lh1 (bc0 (lc (lr rfl) (lc (lr rfl) ln0))) (lh1 (bc0 (lc (lr rfl) (lc (lr rfl) ln0))) lh0)⟩
 .rw[zyz O O]
 .rw[zyz O O]
theorem b112(a b:Rt):Fn 336 [(1000002,rbl a),(1000003,rbl b)] [rtv a,rtv b,.fn 340 [.ptr 1000002 0,.ptr 1000003 0]] (rto (rOp a b (a.n*b.d) (a.d*b.n))) [(1000002,rbl a),(1000003,rbl b)]:=by
 refine fnT hT hmx Tryz.func336 rfl rfl (ex:= []) ?_;conv=>whnf
 refine gYn (f54 a.n a.d) ?_;refine brI (fun h1=>?_) (fun h1=>?_)
 .conv=>whnf
  rw[zqx (by simpa using h1)];exact⟨lr rfl,ztw a b⟩
 .conv=>whnf
  refine gYn (f54 b.n b.d) ?_;refine brI (fun h2=>?_) (fun h2=>?_)
  .conv=>whnf
   rw[zle (by simpa using h2)];exact⟨lr rfl,ztw a b⟩
  .conv=>whnf
   have ha:rOk a=true:=by simpa using h1
   have hb:rOk b=true:=by simpa using h2
   have ia:=zb9 ha;have ib:=zb9 hb;refine⟨[rbl a,rbl b],_,f112 a b ia ib,?_⟩;conv=>whnf
   obtain⟨a1,a2,a3,a4⟩:=ia;obtain⟨b1,b2,b3,b4⟩:=ib;refine gZn (f144 _ _ ?_ ?_) ?_
   .have h1:=zgx (x:=a.n) (y:=b.d) O O;have h2:=zgx (x:=b.n) (y:=a.d) O O;have h3:=zgx (x:=a.n) (y:=b.n) O O;omega
   .have h1:=zgx (x:=a.d) (y:=b.d) O O;have h2:=zgx (x:=a.d) (y:=b.n) O O;omega
   .conv=>whnf
    rw[zld ha hb];exact⟨lr rfl,ztw a b⟩
theorem f57(a b:Rt):Fn 261 [] [rtv a,rtv b] (rto (rDiv a b)) []:=by
 refine fnT hT hmx Tryz.func261 rfl rfl (ex:= []) ?_;conv=>whnf
 refine⟨[rbl a,rbl b],rto (rDiv a b),(b112 a b).sw [(2,1000002),(3,1000003)] rfl,?_⟩;conv=>whnf
 exact⟨lr rfl,lh0⟩
theorem f155'(a:Nat)(d:Int)(ha:a<18446744073709551616)(hb:0<=d/\d<18446744073709551616):Fn 329 [] [.int .u64 a,.int .u64 (IntKind.u64.wrap d)] (.int .u64 (q0 a d.natAbs:Int)) []:=by
 have h:=f155 a d.natAbs ha O
 rwa [show((d.natAbs:Nat):Int)=IntKind.u64.wrap d by rw[wU O];omega]at h
theorem qkx(n d:Int):Fn 252 [] [.agg [.int .i64 n,.int .i64 d]] (.bool (rOk ⟨n,d⟩)) []:=by
 refine fnT hT hmx Tryz.func252 rfl rfl (ex:= []) ?_;conv=>whnf
 refine brI (fun h1=>?_) (fun h1=>?_)
 .conv=>whnf
  refine brI (fun h2=>?_) (fun h2=>?_)
  .conv=>whnf
   refine brI (fun h3=>?_) (fun h3=>?_)
   .conv=>whnf
    refine brI (fun h4=>?_) (fun h4=>?_)
    .conv=>whnf
     simp only[Z2]at h1 h2 h3 h4;refine gYn (f156 n O) ?_;refine gYn (f155' n.natAbs d O O) ?_;refine gYd ?_;refine⟨ab0 ?_,lh0⟩;have:rIn ⟨n,d⟩:=⟨h1,h2,h3,h4⟩;simp only[rOk,this,decide_true,Bool.true_and];rw[Bool.eq_iff_iff];simp;omega
    .conv=>whnf
     refine gYd ?_;exact⟨ab0 (zgf fun h=>by simp[rIn]at h h4;omega),lh0⟩
   .conv=>whnf
    refine gYd ?_;exact⟨ab0 (zgf fun h=>by simp[rIn]at h h3;omega),lh0⟩
  .conv=>whnf
   refine gYd ?_;exact⟨ab0 (zgf fun h=>by simp[rIn]at h h2;omega),lh0⟩
 .conv=>whnf
  refine gYd ?_;exact⟨ab0 (zgf fun h=>by simp[rIn]at h h1;omega),lh0⟩
theorem c177(s:ByteArray)(c:Int)(w:World):
 Calls Tryz.prog 392 #[.string s,.int .u8 c] w fun e w'=>e=.returned (.int .i64 (firstIdx s c.toNat.toUInt8))/\w'=w:=by
 go_enter Tryz.func392,Tryz.ntmps392
 go_wp2
 rw[run_callFunc_extern Tryz.func408 Z Z Z (e:=Extern.BytealgIndexByte.indexByte) Z,run_indexByte_string];simp only[Result.andThen];rw[Oper.upon_value]
 go_wp2
 go_ret
 exact⟨rfl,rfl⟩
theorem zmk.pure{P:Program}{f:Nat}{H:Hp}{A:List AV}{r:AV}(hE:Ent P f)
 (h:∀(ρ:Env)(vs:List Value)(w:World),Rs ρ A vs->Calls P f vs.toArray w fun e w'=>(∃v,e=.returned v/\R ρ r v)/\w'=w):zmk P f H A r H:=by
 refine⟨hE,fun w M pt ow S vs hcore hcont hargs=>?_⟩;refine(h _ vs w hargs).mono ?_;rintro e w' ⟨⟨v,rfl,hr⟩,rfl⟩;exact⟨v,M,pt,ow,S,rfl,hcore,hcont,hr,⟨rfl,rfl,rfl,Nat.le_refl _,fun _ _ _ _=>rfl,fun _ h=>h,fun _ h=>.inl h,fun _ h=>.inl h,fun _ _ h=>.inl h,fun _ _ h=>.inl h⟩⟩
theorem f177(s:zg)(c:Int):Fn 392 [] [.str s,.int .u8 c] (.int .i64 (firstIdx ⟨s.toArray⟩ c.toNat.toUInt8)) []:=by
 refine zmk.pure ⟨_,Tryz.func392,rfl,rfl⟩ fun ρ vs w hv=>?_
 match vs,hv with
 | [a,b],⟨ha,hb,_⟩=>
   obtain rfl:a=.string ⟨s.toArray⟩:=ha;obtain rfl:b=.int .u8 c:=hb;refine(c177 ⟨s.toArray⟩ c w).mono ?_;rintro e w' ⟨rfl,rfl⟩;exact⟨⟨_,rfl,rfl⟩,rfl⟩
theorem f164(s:zg)(c:Int):Fn 354 [] [.str s,.int .u8 c] (.int .i64 (firstIdx ⟨s.toArray⟩ c.toNat.toUInt8)) []:=by
 refine fnT hT hmx Tryz.func354 rfl rfl (ex:= []) ?_;conv=>whnf
 refine gYn (f177 s c) ?_;exact⟨lr rfl,lh0⟩
def syms:zg:= [40,41,91,93,123,125,44,59,58,39,61,43,45,42,47,94]
def cls(c:Int):Int:=
 if c=32\/c=9\/c=13\/c=10 then 1 else if(97<=c/\c<=122)\/(65<=c/\c<=90)then 2 else if 48<=c/\c<=57 then 3
 else if c=95 then 4 else if c=46 then 5 else if 0<=firstIdx ⟨syms.toArray⟩ c.toNat.toUInt8 then 6 else 0
theorem f157(c:Int):Fn 279 [] [.int .u8 c] (.int .i64 (cls c)) []:=by
 refine fnT hT hmx Tryz.func279 rfl rfl (ex:= []) ?_;conv=>whnf
 repeat' first
  |(refine brI (fun h=>?_) (fun h=>?_)<;>(conv=>whnf))
  |refine⟨ai0 ?_,lh0⟩
  |(refine gYn (f164 syms c) ?_)
 all_goals (simp only[Z2,Z3,beq_iff_eq,beq_eq_false_iff_ne,ne_eq]at*;unfold cls;repeat' split)
 all_goals first|rfl|omega
def kws:List zg:= [[115,116,97,116,101],[112,97,114,97,109],[105,110],[109,111,100,101],[119,104,101,110],[114,105,115,101,115],[102,97,108,108,115],[103,111,116,111],[119,105,116,104],[116,105,109,101],[101,120,112],[108,111,103],[115,105,110],[99,111,115],[115,113,114,116]]
def kwB(s:zg):Bool:=kws.any fun k=>s==k
theorem f135(s:zg):Fn 185 [] [.str s] (.bool (kwB s)) []:=by
 refine fnT hT hmx Tryz.func185 rfl rfl (ex:= []) ?_;conv=>whnf
 repeat' first
  |(refine brI (fun h=>?_) (fun h=>?_)<;>(conv=>whnf))
  |refine q2 (ab0 ?_) lh0
 all_goals simp_all[kwB,kws]
def chB(c:UInt8):Bool:=decide (cls c.toNat=2)||decide (cls c.toNat=3)||decide (cls c.toNat=4)
def zeu:zg->Bool
 | []=>false
 |c::s=>decide (cls c.toNat=2)&&s.all chB
theorem f134(s:zg)(hs:s.length<9223372036854775808):Fn 184 [] [.str s] (.bool (zeu s)) []:=by
 refine fnT hT hmx Tryz.func184 rfl rfl (ex:= []) ?_;conv=>whnf
 match s,hs with
 | [],_=>
   conv=>whnf
   exact⟨ab0 rfl,lh0⟩
 |c::s,hs=>
  conv=>whnf
  refine⟨⟨O,OC⟩,fun c' hc'=>?_⟩;obtain rfl:c=c':=by simpa using hc'
  conv=>whnf
  refine gYn (f157 c.toNat) ?_;refine brI (fun h2=>?_) (fun h2=>?_)
  .conv=>whnf
   refine⟨ab0 ?_,lh0⟩;simp only[bne_iff_ne]at h2;simp[zeu,h2]
  .conv=>whnf
   have h2:cls c.toNat=2:=by simpa using h2
   refine⟨Nat,fun i=>i<=(c::s).length /\((c::s).take i).all chB=true,fun i=> [(15,.int .i64 i)],fun _=> [],fun i=>(c::s).length -i,0,⟨OC,OC⟩,?_,fun i hi=>?_⟩
   ·((conv=>whnf);refine⟨?_,lh0⟩;repeat' first|exact ln0|exact la0|exact lr rfl|refine lc ?_ ?_)
   .refine gYe ?_;obtain⟨hi1,hi2⟩:=hi;refine brI (fun h3=>?_) (fun h3=>?_)
    .conv=>whnf
     have h3:i<(c::s).length :=by simp only[Z2]at h3;omega
     refine⟨⟨O,O⟩,fun c' hc'=>?_⟩;have hc':(c::s)[i]? =some c':=by simpa using hc'
     conv=>whnf
     refine gYn (f157 c'.toNat) ?_;have hno:chB c'=false->false=zeu (c::s):=fun h=>by
      have hm:c'∈c::s:=q6 hc';simp only[zeu,h2,decide_true,Bool.true_and];rcases qd.1 hm with rfl|hm
      .simp[chB,h2]at h
      .symm;rw[List.all_eq_false];exact⟨c',hm,by rw[h];simp⟩
     have hyes:chB c'=true->((c::s).take (i+1)).all chB=true:=fun h=>by
      rw[List.take_add_one,hc'];simp[hi2,h]
     have hnext:chB c'=true->i+1<=(c::s).length /\((c::s).take (i+1)).all chB=true:=fun h=>⟨O,hyes h⟩
     refine brI (fun h4=>?_) (fun h4=>?_)
     .conv=>whnf
      refine brI (fun h5=>?_) (fun h5=>?_)
      .conv=>whnf
       refine brI (fun h6=>?_) (fun h6=>?_)
       .conv=>whnf
        refine⟨ab0 (hno ?_),lh0⟩;simp only[bne_iff_ne]at h4 h5 h6;simp[chB,h4,h5,h6]
       .conv=>whnf
        refine⟨i+1,hnext (by simp at h6;simp[chB,h6]),(by show(c::s).length -(i+1)<(c::s).length -i;omega),?_⟩
        ((conv=>whnf);refine⟨?_,lh0⟩;repeat' first|exact ln0|exact la0|exact lr rfl|refine lc ?_ ?_)
        exact ai0 (by rw[wI O];omega)
      .conv=>whnf
       refine⟨i+1,hnext (by simp at h5;simp[chB,h5]),(by show(c::s).length -(i+1)<(c::s).length -i;omega),?_⟩
       ((conv=>whnf);refine⟨?_,lh0⟩;repeat' first|exact ln0|exact la0|exact lr rfl|refine lc ?_ ?_)
       exact ai0 (by rw[wI O];omega)
     .conv=>whnf
      refine⟨i+1,hnext (by simp at h4;simp[chB,h4]),(by show(c::s).length -(i+1)<(c::s).length -i;omega),?_⟩
      ((conv=>whnf);refine⟨?_,lh0⟩;repeat' first|exact ln0|exact la0|exact lr rfl|refine lc ?_ ?_)
      exact ai0 (by rw[wI O];omega)
    .conv=>whnf
     have h3:¬i<(c::s).length :=by simp only[Z3]at h3;omega
     refine⟨ab0 ?_,lh0⟩;rw[List.take_of_length_le O]at hi2;simp only[List.all_cons,Bool.and_eq_true]at hi2;simp[zeu,h2,hi2.2]
def zia(s:zg):Bool:=zeu s&&decide (s.length<=20)&& !kwB s
theorem f89(s:zg)(hs:s.length<9223372036854775808):Fn 107 [] [.str s] (.bool (zia s)) []:=by
 refine fnT hT hmx Tryz.func107 rfl rfl (ex:= []) ?_;conv=>whnf
 refine gYn (f134 s hs) ?_;refine brI (fun h1=>?_) (fun h1=>?_)
 .conv=>whnf
  refine brI (fun h2=>?_) (fun h2=>?_)
  .conv=>whnf
   refine gYn (f135 s) ?_;have h2:s.length<=20:=by simp only[Z2]at h2;omega
   exact⟨ab0 (by simp[zia,h1,h2]),lh0⟩
  .conv=>whnf
   have h2:¬s.length<=20:=by simp only[Z3]at h2;omega
   exact⟨ab0 (by simp[zia,h2]),lh0⟩
 .conv=>whnf
  exact⟨ab0 (by simp[zia,h1]),lh0⟩
theorem cbI{Pc K:List Blk->AV->Prop}(bs:List Blk)(b:Bool)(hc:Pc bs (.bool b))(h1:b=true->K bs (.bool true))(h2:b=false->K bs (.bool false)):∃bs' r,Pc bs' r/\K bs' r:=by
 cases b
 .exact⟨bs,_,hc,h2 rfl⟩
 .exact⟨bs,_,hc,h1 rfl⟩
set_option maxHeartbeats 4000000
def opn(k:Int):Int:=
 if k=3\/k=4\/k=5\/k=6 then 2 else if k=7\/k=8\/k=9\/k=10\/k=11\/k=12\/k=13 then 1 else-1
theorem f147(k:Int):Fn 341 [] [.int .i64 k] (.int .i64 (opn k)) []:=by
 refine fnT hT hmx Tryz.func341 rfl rfl (ex:= []) ?_;conv=>whnf
 repeat' first
  |(refine brI (fun h=>?_) (fun h=>?_)<;>(conv=>whnf))
  |refine q2 (ai0 ?_) lh0
  |fail
 all_goals (simp only[beq_iff_eq,beq_eq_false_iff_ne,ne_eq]at*;unfold opn;repeat' split)
 all_goals first|rfl|omega
def numB(e:Ex):Bool:=rOk e.q&&(e.s== [])&&decide (e.p=0)&&decide (e.l.length=0)
def varB(e:Ex):Bool:=decide (e.q=⟨0,0⟩)&&zia e.s&&decide (e.p=0)&&decide (e.l.length=0)
def powB(e:Ex):Bool:=decide (e.q=⟨0,0⟩)&&(e.s== [])&&decide (0<=e.p)&&decide (e.p<=16)&&decide (e.l.length=1)
def opB(e:Ex):Bool:=decide (e.q=⟨0,0⟩)&&(e.s== [])&&decide (e.p=0)&&decide ((e.l.length:Int)=opn e.k)
def ze9(e:Ex):Bool:=if e.k=1 then numB e else if e.k=2 then varB e else if e.k=8 then powB e else opB e
theorem f118(e:Ex)(hs:e.s.length<9223372036854775808):Fn 262 [] [.agg (exC e)] (.bool (ze9 e)) []:=by
 refine fnT hT hmx Tryz.func262 rfl rfl (ex:= []) ?_;conv=>whnf
 repeat' first
  |(refine brI (fun h=>?_) (fun h=>?_)<;>(conv=>whnf))
  |refine q2 (ab0 ?_) lh0
  |(refine gYn (f54 e.q.n e.q.d) ?_)
  |(refine gYn (f89 e.s hs) ?_)
  |(refine gYn (f147 e.k) ?_)
  |(refine q2 Z (q2 Z ?_);conv=>whnf)
  |fail
 all_goals (obtain⟨k,⟨n,d⟩,s,p,l⟩:=e;simp only[Ex.k,Ex.q,Ex.s,Ex.p,Ex.l]at*;simp_all[ze9,numB,varB,powB,opB,Ex.k,Ex.q,Ex.s,Ex.p,Ex.l])
 all_goals first
  |(cases l<;>simp<;>omega)
  |(intro h1;have h2:=Z0 h1;omega)
  |(rw[Bool.eq_iff_iff];simp only[beq_iff_eq];constructor
    .intro h1;exact Z6 O
    .intro h1;have:=Z0 h1;omega)
mutual
def Sm:Ex->Prop
 |.mk _ _ s _ l=>s.length<9223372036854775808/\l.length<9223372036854775808/\SmL l
def SmL:List Ex->Prop
 | []=>True
 |x::l=>Sm x/\SmL l
end
theorem qhi{l:List Ex}(h:SmL l){x:Ex}{i:Nat}(hx:l[i]? =some x):Sm x:=by
 induction l generalizing i with
 |nil=>simp at hx
 |cons y l ih=>cases i with
  |zero=>simp at hx;rw[<-hx];exact h.1
  |succ i=>exact ih h.2 (by simpa using hx)
mutual
def zem:Ex->Nat->Nat->Bool×Nat
 |.mk k q s p l,d,n=>if d<=20/\n+1<=200/\ze9 (.mk k q s p l)=true then zgk l (d+1) (n+1)else(false,n+1)
def zgk:List Ex->Nat->Nat->Bool×Nat
 | [],_,n=>(true,n)
 |x::l,d,n=>match zem x d n with
  |(true,m)=>zgk l d m
  |(false,m)=>(false,m)
end
def ixL:List Ex->Nat->Nat->Nat->Int
 | [],_,_,_=> -1
 |x::l,d,n,i=>match zem x d n with
  |(true,m)=>ixL l d m (i+1)
  |(false,_)=>i
theorem zwt:∀(l:List Ex)(d n i:Nat),0<=ixL l d n i<->(zgk l d n).1=false
 | [],d,n,i=>by simp[ixL,zgk]
 |x::l,d,n,i=>by
  simp only[ixL,zgk]
  cases h:zem x d n with
  |mk b m=>cases b with
   |true=>exact zwt l d m (i+1)
   |false=>simp
abbrev cb1(n:Int):Blk:=.cells [.int .i64 n]
abbrev Hc(d n:Nat):Hp:= [(1000004,cb1 d),(1000005,.cells [.ptr 1000002 0]),(1000002,cb1 n)]
abbrev zym(e:Ex):Prop:=∀d n:Nat,d<=1000->n<=1000->Fn 175 [(1000002,cb1 n)] [.agg (exC e),.int .i64 d,.ptr 1000002 0] (.bool (zem e d n).1) [(1000002,cb1 (zem e d n).2)]
theorem f119(e:Ex)(h:zym e)(d n:Nat)(hd:d<1000)(hn:n<=1000):
 Fn 264 (Hc d n) [.agg (exC e),.ptr 1000004 0,.ptr 1000005 0] (.bool (!(zem e (d+1) n).1)) (Hc d (zem e (d+1) n).2):=by
 refine fnT hT hmx Tryz.func264 rfl rfl (ex:= []) ?_;conv=>whnf
 rw[wI (x:=(d:Int)+1) O];refine⟨[cb1 (zem e (d+1) n).2],.bool (zem e (d+1) n).1,h (d+1) n O hn,?_⟩;conv=>whnf
 exact⟨lr rfl,lh1 (bc0 (lc (lr rfl) ln0)) (lh1 (bc0 (lc (lr rfl) ln0)) (lh1 (bc0 (lc (lr rfl) ln0)) lh0))⟩
mutual
theorem zxu:∀(e:Ex)(d n:Nat),(zem e d n).1=true->(zem e d n).2<=200
 |.mk k q s p l,d,n,h=>by
   simp only[zem]at h⊢;split at h
   .rename_i hc;rw[Z4 hc];exact zxt l _ _ hc.2.1 h
   .simp at h
theorem zxt:∀(l:List Ex)(d n:Nat),n<=200->(zgk l d n).1=true->(zgk l d n).2<=200
 | [],d,n,hn,_=>hn
 |x::l,d,n,hn,h=>by
  simp only[zgk]at h⊢;have:=zxu x d n
  cases hx:zem x d n with
  |mk b m=>cases b with
   |true=>rw[hx]at h this;exact zxt l d m (this rfl) h
   |false=>rw[hx]at h;simp at h
end
def AtL(l:List Ex)(d n i m:Nat):Prop:=i<=l.length/\m<=200/\zgk (l.drop i) d m=zgk l d n/\ixL (l.drop i) d m i=ixL l d n 0
theorem qb4{l:List Ex}{d n i m m':Nat}{x:Ex}(h:AtL l d n i m)(hx:l[i]? =some x)(hc:zem x d m=(true,m')):AtL l d n (i+1) m':=by
 obtain⟨h1,h2,h3,h4⟩:=h;have hd:l.drop i=x::l.drop (i+1):=by
  obtain⟨hi,hx⟩:=q1.1 hx;rw[<-hx];exact q3 hi
 have hi:i<l.length:=by
  obtain⟨hi,hx⟩:=q1.1 hx;exact hi
 rw[hd]at h3 h4;simp only[zgk,ixL,hc]at h3 h4;have:=zxu x d m (by rw[hc]);rw[hc]at this;exact⟨O,this,h3,h4⟩
theorem f114c(l:List Ex)(hl:∀x∈l,zym x)(hlen:l.length<9223372036854775808)(d n:Nat)(hd:d<1000)(hn:n<=200):
 Fn 342 (Hc d n) [.sl .ex l,.fn 264 [.ptr 1000004 0,.ptr 1000005 0]] (.int .i64 (ixL l (d+1) n 0)) (Hc d (zgk l (d+1) n).2):=by
 refine fnT hT hmx Tryz.func342 rfl rfl (ex:= []) ?_;conv=>whnf
 refine⟨Nat×Nat,fun x=>AtL l (d+1) n x.1 x.2,fun x=> [(8,.int .i64 x.1)],fun x=> [(1000002,cb1 x.2)],fun x=>l.length-x.1,(0,n),⟨OC,hn,rfl,rfl⟩,?_,fun x hx=>?_⟩
 ·((conv=>whnf);refine q2 ?_ ?_;repeat' first|exact ln0|exact lh0|exact la0|exact lr rfl|exact li0 rfl|refine lg0 ?_|refine lt0 ?_|exact bf0|exact bd0|refine lc ?_ ?_|refine lh1 ?_ ?_|refine bc0 ?_|fail)
 .refine gYe ?_;obtain⟨i,m⟩:=x;have hx:AtL l (d+1) n i m:=hx;refine brI (fun h1=>?_) (fun h1=>?_)
  .conv=>whnf
   have hi:i<l.length:=by simp only[Z2]at h1;omega
   refine⟨⟨O,OD⟩,fun e he=>?_⟩;have he:l[i]? =some e:=by simpa using he
   conv=>whnf
   refine⟨[cb1 d,.cells [.ptr 1000002 0],cb1 (zem e (d+1) m).2],.bool (!(zem e (d+1) m).1),f119 e (hl e (q6 he)) d m hd (by have:=hx.2.1;omega),?_⟩;conv=>whnf
   refine brI (fun h2=>?_) (fun h2=>?_)
   .conv=>whnf
    have hd:l.drop i=e::l.drop (i+1):=by
     obtain⟨hi,he⟩:=q1.1 he;rw[<-he];exact q3 hi
    have h2:(zem e (d+1) m).1=false:=by simpa using h2
    obtain⟨_,_,h3,h4⟩:=hx;rw[hd]at h3 h4;simp only[zgk,ixL]at h3 h4;rcases hc:zem e (d+1) m with ⟨b,m'⟩
    rw[hc]at h3 h4 h2;subst h2;simp only at h3 h4;rw[<-h3,<-h4]
    (refine q2 ?_ ?_;repeat' first|exact ln0|exact lh0|exact la0|exact lr rfl|exact li0 rfl|refine lg0 ?_|refine lt0 ?_|exact bf0|exact bd0|refine lc ?_ ?_|refine lh1 ?_ ?_|refine bc0 ?_|fail)
   .conv=>whnf
    have h2:(zem e (d+1) m).1=true:=by simpa using h2
    refine⟨(i+1,(zem e (d+1) m).2),qb4 hx he (by rw[<-h2]),by show l.length-(i+1)<l.length-i;omega,?_⟩
    ((conv=>whnf);refine q2 ?_ ?_;repeat' first|exact ln0|exact lh0|exact la0|exact lr rfl|exact li0 rfl|refine lg0 ?_|refine lt0 ?_|exact bf0|exact bd0|refine lc ?_ ?_|refine lh1 ?_ ?_|refine bc0 ?_|fail)
    exact ai0 (by rw[wI OD];simp only;omega)
  .conv=>whnf
   have hi:¬i<l.length:=by simp only[Z3]at h1;omega
   obtain⟨_,_,h3,h4⟩:=hx;rw[List.drop_of_length_le O]at h3 h4;simp only[zgk,ixL]at h3 h4;rw[<-h3,<-h4]
   (refine q2 ?_ ?_;repeat' first|exact ln0|exact lh0|exact la0|exact lr rfl|exact li0 rfl|refine lg0 ?_|refine lt0 ?_|exact bf0|exact bd0|refine lc ?_ ?_|refine lh1 ?_ ?_|refine bc0 ?_|fail)
theorem f60c(l:List Ex)(hl:∀x∈l,zym x)(hlen:l.length<9223372036854775808)(d n:Nat)(hd:d<1000)(hn:n<=200):
 Fn 263 (Hc d n) [.sl .ex l,.fn 264 [.ptr 1000004 0,.ptr 1000005 0]] (.bool (!(zgk l (d+1) n).1)) (Hc d (zgk l (d+1) n).2):=by
 refine fnT hT hmx Tryz.func263 rfl rfl (ex:= []) ?_;conv=>whnf
 refine⟨[cb1 d,.cells [.ptr 1000002 0],cb1 (zgk l (d+1) n).2],_,f114c l hl hlen d n hd hn,?_⟩;conv=>whnf
 (refine q2 ?_ ?_;repeat' first|exact ln0|exact lh0|exact la0|exact lr rfl|exact li0 rfl|refine lg0 ?_|refine lt0 ?_|exact bf0|exact bd0|refine lc ?_ ?_|refine lh1 ?_ ?_|refine bc0 ?_|fail)
 exact ab0 (by have:=zwt l (d+1) n 0;cases hc:(zgk l (d+1) n).1<;>simp_all)
mutual
theorem zpp{P:Ex->Prop}(h:∀k q s p l,(∀x∈l,P x)->P (.mk k q s p l)):∀e,P e
 |.mk k q s p l=>h k q s p l (qc8 h l)
theorem qc8{P:Ex->Prop}(h:∀k q s p l,(∀x∈l,P x)->P (.mk k q s p l)):∀(l:List Ex),∀x∈l,P x
 | []=>fun x hx=>by simp at hx
 |y::l=>fun x hx=>by
  rcases qd.1 hx with e|hx
  .rw[e];exact zpp h y
  .exact qc8 h l x hx
end
theorem zmj{l:List Ex}(h:SmL l):∀x∈l,Sm x:=fun x hx=>by
 obtain⟨i,hi⟩:=List.mem_iff_getElem?.1 hx;exact qhi h hi
theorem leH1{h h':Hp}{n m:Int}(e:n=m):leH h h' [(1000002,cb1 n)] [(1000002,cb1 m)]:=by
 subst e;exact lh1 (bc0 (lc (lr rfl) ln0)) lh0
theorem f65:∀(e:Ex),Sm e->zym e:=by
 refine zpp fun k q s p l ih hs=>?_
 simp only[Sm]at hs;have hl:∀x∈l,zym x:=fun x hx=>ih x hx (zmj hs.2.2 x hx)
 intro d n hd hn;have hnode:Fn 262 [] [.agg (exC (.mk k q s p l))] (.bool (ze9 (.mk k q s p l))) []:=f118 _ hs.1;have hcon:=f60c l hl hs.2.1;have hno:¬(d<=20/\n+1<=200/\ze9 (.mk k q s p l)=true)->zem (.mk k q s p l) d n=(false,n+1):=fun h=>by simp only[zem];rw[Z5 h]
 refine fnT hT hmx Tryz.func175 rfl rfl (ex:= []) ?_;conv=>whnf
 have hw:IntKind.i64.wrap ((n:Int)+1)=((n+1:Nat):Int):=by rw[wI O];rfl
 refine brI (fun h1=>?_) (fun h1=>?_)
 .conv=>whnf
  simp only[Z2]at h1;rw[hno O];exact⟨lr rfl,leH1 hw⟩
 .conv=>whnf
  simp only[Z3]at h1;refine brI (fun h2=>?_) (fun h2=>?_)
  .conv=>whnf
   simp only[Z2]at h2;rw[hw]at h2;rw[hno O];exact⟨lr rfl,leH1 hw⟩
  .conv=>whnf
   simp only[Z3]at h2;rw[hw]at h2;refine gYn hnode ?_;refine brI (fun h3=>?_) (fun h3=>?_)
   .conv=>whnf
    have h3:ze9 (.mk k q s p l)=false:=by simpa using h3
    rw[hno (by rw[h3];simp)];exact⟨lr rfl,leH1 hw⟩
   .conv=>whnf
    have h3:ze9 (.mk k q s p l)=true:=by simpa using h3
    have hyes:zem (.mk k q s p l) d n=zgk l (d+1) (n+1):=by simp only[zem];rw[Z4 ⟨O,O,h3⟩]
    rw[hyes,hw];refine⟨[cb1 d,.cells [.ptr 1000002 0],cb1 (zgk l (d+1) (n+1)).2],.bool (!(zgk l (d+1) (n+1)).1),(hcon d (n+1) O O).sw [(4,1000004),(5,1000005)] rfl,?_⟩;conv=>whnf
    exact⟨ab0 OC,leH1 rfl⟩
def okT(e:Ex):Bool:=(zem e 1 0).1
theorem f17(e:Ex)(hs:Sm e):Fn 95 [] [.agg (exC e)] (.bool (okT e)) []:=by
 refine fnT hT hmx Tryz.func95 rfl rfl (ex:= []) ?_;conv=>whnf
 refine⟨[cb1 (zem e 1 0).2],.bool (okT e),(f65 e hs 1 0 O O).sw [(3,1000002)] rfl,?_⟩;conv=>whnf
 exact⟨lr rfl,lh0⟩
set_option maxHeartbeats 8000000
theorem qe{α:Type}{l:List α}{i:Nat}{x:α}(h:l[i]? =some x):l.drop i=x::l.drop (i+1):=by
 obtain⟨hi,hx⟩:=q1.1 h;rw[<-hx];exact q3 hi
def ixP{α:Type}(p:α->Bool):List α->Nat->Int
 | [],_=> -1
 |x::l,i=>if p x then i else ixP p l (i+1)
theorem zl1{α:Type}(p:α->Bool):∀(l:List α)(i:Nat),0<=ixP p l i<->l.any p=true
 | [],i=>by simp[ixP]
 |x::l,i=>by
  have ih:=zl1 p l (i+1);by_cases h:p x=true
  .simp[ixP,h]
  .simp only[ixP,Z5 h,ih,List.any_cons];simp[h]
def eqS(s x:zg):Bool:=s==x
def zge(r:Rt):Ex:=.mk 1 r [] 0 []
def opE(k n:Int)(l:List Ex):Ex:=.mk k ⟨0,0⟩ [] n l
theorem ix0{P:Ex->Prop}{a:Ex}{l:List Ex}(h:P a):((0:Int)<=0/\(0:Int)<((a::l).length :Int))/\∀x,(a::l)[(0:Int).toNat]? =some x->P x:=
 ⟨⟨O,by simp only[q9];omega⟩,fun x hx=>(show a=x by simpa using hx)▸h⟩
theorem ix1{P:Ex->Prop}{a b:Ex}{l:List Ex}(h:P b):((0:Int)<=1/\(1:Int)<((a::b::l).length :Int))/\∀x,(a::b::l)[(1:Int).toNat]? =some x->P x:=
 ⟨⟨O,by simp only[q9];omega⟩,fun x hx=>(show b=x by simpa using hx)▸h⟩
