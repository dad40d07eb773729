/- The seat's type table; how a contract is proved. -/
import Derived.Test.YthbgbmdmimejiaaGreatDoorMZz
import Derived.Test.YthbgbmdmimejiaaGreatDoorChecked
import Derived.Laws.Externs
import Derived.Tactics
set_option linter.all false
open And renaming intro->q2
open List renaming getElem?_eq_some_iff->q3,drop_eq_getElem_cons->q5,mem_of_getElem?->q6,take_of_length_le->q7,all_eq_false->q9,take_add_one->qd,length_cons->qn,mem_cons->qA,all_cons->qB
open Nat renaming gcd->q4,pos_of_ne_zero->q8,gcd_comm->qC,le_refl->qD,mod_lt->qE
open Go.IntKind renaming i64->qF
namespace Go.Proofs.YthbgbmdmimejiaaGreatDoor
open Go Go.Sx
def Ty:List (Nat×TI):= [
 (3,⟨1,1,[],0,0,0,some .int,.i64,[.int .i64 0],8,false⟩),
 (33,⟨2,3,[(0,1,false),(1,1,false),(2,1,false)],0,0,0,some .dy,.i64,[.bool false,.nilsl,.int .i64 0],40,false⟩),
 (35,⟨2,7,[(0,3,true),(3,3,true),(6,1,false)],0,0,0,some .iv,.i64,[.bool false,.nilsl,.int .i64 0,.bool false,.nilsl,.int .i64 0,.bool false],88,false⟩),
 (26,⟨2,6,[(0,1,false),(1,2,true),(3,1,false),(4,1,false),(5,1,false)],0,0,0,some .ex,.i64,[.int .i64 0,.int .i64 0,.int .i64 0,.str [],.int .i64 0,.nilsl],72,false⟩),
 (31,⟨3,1,[],137,1,0,some .ls,.i64,[.nilsl],24,false⟩),
 (218,⟨2,2,[(0,1,false),(1,1,false)],0,0,0,none,.i64,[.bool false,.nilsl],32,false⟩),
 (4,⟨6,1,[],0,0,0,some .bool,.i64,[.bool false],1,false⟩),
 (9,⟨5,1,[],0,0,0,some .str,.i64,[.str []],16,false⟩),
 (27,⟨3,1,[],9,1,0,none,.i64,[.nilsl],24,false⟩),
 (23,⟨2,2,[(0,1,false),(1,1,false)],0,0,0,some .rat,.i64,[.int .i64 0,.int .i64 0],16,true⟩),
 (137,⟨1,1,[],0,0,0,some .u32,.u32,[.int .u32 0],4,false⟩),
 (146,⟨1,1,[],0,0,0,none,.u64,[.int .u64 0],8,false⟩),
 (24,⟨3,1,[],26,6,0,none,.i64,[.nilsl],24,false⟩),
 (44,⟨2,3,[(0,1,false),(1,1,false),(2,1,false)],0,0,0,none,.i64,[.int .i64 0,.nilsl,.nilsl],56,false⟩),
 (75,⟨2,6,[(0,1,false),(1,1,false),(2,1,false),(3,1,false),(4,2,true)],0,0,0,some .op,.i64,[.int .i64 0,.int .i64 0,.int .i64 0,.int .i64 0,.int .i64 0,.int .i64 0],48,true⟩),
 (28,⟨3,1,[],35,7,0,some .vs,.i64,[.nilsl],24,false⟩),
 (41,⟨3,1,[],75,6,0,none,.i64,[.nilsl],24,false⟩),
 (42,⟨3,1,[],3,1,0,none,.i64,[.nilsl],24,false⟩),
 (189,⟨2,1,[(0,1,false)],0,0,0,none,.i64,[.int .i64 0],8,true⟩),
 (180,⟨2,3,[(0,1,false),(1,1,false),(2,1,false)],0,0,0,none,.i64,[.nilsl,.int .i64 0,.bool false],40,false⟩),
 (45,⟨1,1,[],0,0,0,none,.i64,[.int .i64 0],8,false⟩),
 (5,⟨1,1,[],0,0,0,none,.u8,[.int .u8 0],1,false⟩),
 (235,⟨1,1,[],0,0,0,none,.u64,[.int .u64 0],8,false⟩),
 (84,⟨2,4,[(0,3,true),(3,1,false)],0,0,0,none,.i64,[.int .i64 0,.nilsl,.nilsl,.nilm],64,false⟩),
 (59,⟨2,7,[(0,1,false),(1,6,true)],0,0,0,some .eqn,.i64,[.str [],.int .i64 0,.int .i64 0,.int .i64 0,.str [],.int .i64 0,.nilsl],88,false⟩),
 (182,⟨4,6,[],33,3,2,some .dd,.i64,[.bool false,.nilsl,.int .i64 0,.bool false,.nilsl,.int .i64 0],80,false⟩),
 (232,⟨3,1,[],31,1,0,none,.i64,[.nilsl],24,false⟩),
 (60,⟨3,1,[],59,7,0,none,.i64,[.nilsl],24,false⟩),
 (153,⟨1,1,[],0,0,0,none,.u64,[.int .u64 0],8,false⟩),
 (210,⟨3,1,[],33,3,0,none,.i64,[.nilsl],24,false⟩),
 (90,⟨3,1,[],28,1,0,none,.i64,[.nilsl],24,false⟩),
 (78,⟨7,1,[],84,0,0,none,.i64,[.nilp],8,false⟩),
 (30,⟨8,1,[],0,0,0,none,.i64,[.nilf],8,false⟩),
 (183,⟨4,24,[],182,6,4,none,.i64,[.bool false,.nilsl,.int .i64 0,.bool false,.nilsl,.int .i64 0,.bool false,.nilsl,.int .i64 0,.bool false,.nilsl,.int .i64 0,.bool false,.nilsl,.int .i64 0,.bool false,.nilsl,.int .i64 0,.bool false,.nilsl,.int .i64 0,.bool false,.nilsl,.int .i64 0],320,false⟩),
 (64,⟨9,1,[],9,0,35,none,.i64,[.nilm],8,false⟩),
 (103,⟨4,14,[],35,7,2,none,.i64,[.bool false,.nilsl,.int .i64 0,.bool false,.nilsl,.int .i64 0,.bool false,.bool false,.nilsl,.int .i64 0,.bool false,.nilsl,.int .i64 0,.bool false],176,false⟩),
 (98,⟨7,1,[],3,0,0,none,.i64,[.nilp],8,false⟩),
 (94,⟨9,1,[],9,0,4,none,.i64,[.nilm],8,false⟩),
 (249,⟨4,32,[],5,1,32,none,.i64,[.int .u8 0,.int .u8 0,.int .u8 0,.int .u8 0,.int .u8 0,.int .u8 0,.int .u8 0,.int .u8 0,.int .u8 0,.int .u8 0,.int .u8 0,.int .u8 0,.int .u8 0,.int .u8 0,.int .u8 0,.int .u8 0,.int .u8 0,.int .u8 0,.int .u8 0,.int .u8 0,.int .u8 0,.int .u8 0,.int .u8 0,.int .u8 0,.int .u8 0,.int .u8 0,.int .u8 0,.int .u8 0,.int .u8 0,.int .u8 0,.int .u8 0,.int .u8 0],32,false⟩),
 (201,⟨1,1,[],0,0,0,none,.i64,[.int .i64 0],8,false⟩)]
def T:Tab:= {ty:=Ty,of:= [116,117],nb:= [(59,1),(117,1),(78,1),(79,1),(127,1)]}
theorem hmx:Tryz.prog.follows .mixedOrders =true:=Z
theorem hT:TabOK Tryz.prog T:=zmf Z Z
abbrev Fn(f:Nat)(H:Hp)(A:List AV)(r:AV)(H':Hp):Prop:=zi3 Tryz.prog f H A r H'
set_option maxRecDepth 100000
set_option maxHeartbeats 1000000
theorem f105(n:Int)(h: -9223372036854775808<=n/\n<=9223372036854775807):Fn 122 [] [.int .i64 n] (.int .u64 (n.natAbs:Int)) []:=by
 refine fnT hT hmx Tryz.func122 rfl rfl (ex:= []) ?_;conv=>whnf
 refine brI (fun hb=>?_) (fun hb=>?_)
 .conv=>whnf
  simp at hb;refine⟨ai0 ?_,lh0⟩;rcases Decidable.em (n= -9223372036854775808)with e|e
  .subst e;rfl
  .rw[wI O,wU O];omega
 .conv=>whnf
  simp at hb;refine⟨ai0 ?_,lh0⟩;rw[wU O];omega
theorem qd6(a b:Nat):Int.tdiv (a:Int) (b:Int)=((a/b:Nat):Int):=by
 rw[Int.tdiv_eq_ediv_of_nonneg O];rfl
theorem f104(a b:Nat)(ha:a<18446744073709551616)(hb:b<18446744073709551616):Fn 121 [] [.int .u64 a,.int .u64 b] (.int .u64 (q4 a b:Int)) []:=by
 refine fnT hT hmx Tryz.func121 rfl rfl (ex:= []) ?_;conv=>whnf
 refine⟨Nat×Nat,fun x=>q4 x.1 x.2=q4 a b/\x.1<18446744073709551616/\x.2<18446744073709551616,fun x=> [(0,.int .u64 x.1),(1,.int .u64 x.2)],fun _=> [],fun x=>x.2,(a,b),⟨rfl,ha,hb⟩,?_,fun x hx=>?_⟩
 ·((conv=>whnf);refine⟨?_,lh0⟩;repeat' first|exact ln0|exact la0|exact lr rfl|refine lc ?_ ?_)
 .obtain⟨hg,h1,h2⟩:=hx;refine gYe ?_;refine brI (fun hb=>?_) (fun hb=>?_)
  .conv=>whnf
   simp at hb;refine⟨O,?_⟩;conv=>whnf
   refine gYd ?_;refine⟨(x.2,x.1 % x.2),⟨?_,h2,?_⟩,?_,?_⟩
   .rw[<-hg];show q4 x.2 (x.1 % x.2)=_;rw[qC x.1 x.2,qC x.2 (x.1 % x.2)];exact(Nat.gcd_rec _ _).symm
   .have:=qE x.1 (q8 hb);omega
   .exact qE x.1 (q8 hb)
   ·((conv=>whnf);refine⟨?_,lh0⟩;repeat' first|exact ln0|exact la0|exact lr rfl|refine lc ?_ ?_)
  .conv=>whnf
   simp at hb;refine⟨ai0 ?_,lh0⟩;rw[<-hg,hb,Nat.gcd_zero_right]
theorem wQ(a g:Nat)(ha:a<18446744073709551616):IntKind.u64.wrap (Int.tdiv (a:Int) (g:Int))=((a/g:Nat):Int):=by
 have:=Nat.div_le_self a g;rw[qd6];generalize a/g=c at*;rw[wU];omega
theorem wN(c:Nat)(h:¬((c:Int)>1073741824)):qF.wrap (c:Int)=(c:Int):=wI O
theorem wM(c:Nat)(h:¬((c:Int)>1073741824)):qF.wrap (0-(c:Int))= -(c:Int):=by rw[wI O];omega
def rIn(r:Rt):Prop:=1<=r.d/\r.d<=1073741824/\ -1073741824<=r.n/\r.n<=1073741824
instance (r:Rt):Decidable (rIn r):=by unfold rIn;infer_instance
def rOk(r:Rt):Bool:=decide (rIn r)&&(q4 r.n.natAbs r.d.natAbs==1)
theorem zql{r:Rt}(h:¬rIn r):false=rOk r:=by simp[rOk,h]
theorem f54(n d:Int):Fn 81 [] [.agg [.int .i64 n,.int .i64 d]] (.bool (rOk ⟨n,d⟩)) []:=by
 refine fnT hT hmx Tryz.func81 rfl rfl (ex:= []) ?_;conv=>whnf
 refine brI (fun h1=>?_) (fun h1=>?_)
 .conv=>whnf
  refine brI (fun h2=>?_) (fun h2=>?_)
  .conv=>whnf
   refine brI (fun h3=>?_) (fun h3=>?_)
   .conv=>whnf
    refine brI (fun h4=>?_) (fun h4=>?_)
    .conv=>whnf
     simp only[Z2]at h1 h2 h3 h4;refine gYn (f105 n O) ?_;refine gYn (f105 d O) ?_;refine gYn (f104 n.natAbs d.natAbs O O) ?_;refine gYd ?_;refine⟨ab0 ?_,lh0⟩;have:rIn ⟨n,d⟩:=⟨h1,h2,h3,h4⟩;simp only[rOk,this,decide_true,Bool.true_and];rw[Bool.eq_iff_iff];simp;omega
    .conv=>whnf
     refine gYd ?_;exact⟨ab0 (zql fun h=>by simp[rIn]at h h4;omega),lh0⟩
   .conv=>whnf
    refine gYd ?_;exact⟨ab0 (zql fun h=>by simp[rIn]at h h3;omega),lh0⟩
  .conv=>whnf
   refine gYd ?_;exact⟨ab0 (zql fun h=>by simp[rIn]at h h2;omega),lh0⟩
 .conv=>whnf
  refine gYd ?_;exact⟨ab0 (zql fun h=>by simp[rIn]at h h1;omega),lh0⟩
def low(neg:Bool)(a b:Nat):Option Rt:=
 if a/q4 a b<=1073741824/\b/q4 a b<=1073741824 then some ⟨if neg then-((a/q4 a b:Nat):Int)else((a/q4 a b:Nat):Int),((b/q4 a b:Nat):Int)⟩else none
def xy(n d:Int):Rt×Int:=if d=0 then(⟨0,0⟩,10)else match low (decide (n<0) != decide (d<0)) n.natAbs d.natAbs with
 |none=>(⟨0,0⟩,9)
 |some r=>(r,0)
abbrev rtv(r:Rt):AV:=.agg [.int .i64 r.n,.int .i64 r.d]
theorem f144(n d:Int)(hn: -9223372036854775808<=n/\n<=9223372036854775807)(hd: -9223372036854775808<=d/\d<=9223372036854775807):
 Fn 245 [] [.int .i64 n,.int .i64 d] (.tup [rtv (xy n d).1,.int .i64 (xy n d).2]) []:=by
 refine fnT hT hmx Tryz.func245 rfl rfl (ex:= []) ?_;conv=>whnf
 refine brI (fun h1=>?_) (fun h1=>?_)
 .conv=>whnf
  have h1:d=0:=by simpa using h1
  refine⟨?_,lh0⟩;have:xy n d=(⟨0,0⟩,10):=by simp[xy,h1]
  rw[this];exact lr rfl
 .conv=>whnf
  have h1:d≠0:=by simpa using h1
  refine gYn (f105 n hn) ?_;refine gYn (f105 d hd) ?_;refine gYn (f104 n.natAbs d.natAbs O O) ?_;have hg0:q4 n.natAbs d.natAbs≠0:=fun e=>h1 (by have:=Nat.eq_zero_of_gcd_eq_zero_right e;omega)
  refine⟨O,?_⟩;conv=>whnf
  refine⟨O,?_⟩;conv=>whnf
  refine gYd ?_;refine brI (fun h2=>?_) (fun h2=>?_)
  .conv=>whnf
   have hlow:xy n d=(⟨0,0⟩,9):=by
    rw[wQ _ _ O]at h2;simp only[Z2]at h2;have:low (decide (n<0) != decide (d<0)) n.natAbs d.natAbs=none:=by rw[low,Z5 O]
    rw[xy,Z5 h1,this]
   rw[hlow];exact⟨lr rfl,lh0⟩
  .conv=>whnf
   rw[wQ _ _ O]at h2;simp only[Z3]at h2;refine brI (fun h3=>?_) (fun h3=>?_)
   .conv=>whnf
    have hlow:xy n d=(⟨0,0⟩,9):=by
     rw[wQ _ _ O]at h3;simp only[Z2]at h3;have:low (decide (n<0) != decide (d<0)) n.natAbs d.natAbs=none:=by rw[low,Z5 O]
     rw[xy,Z5 h1,this]
    rw[hlow];exact⟨lr rfl,lh0⟩
   .conv=>whnf
    rw[wQ _ _ O]at h3;simp only[Z3]at h3;have hlow:xy n d=(⟨if(decide (n<0) != decide (d<0))=true then-((n.natAbs/q4 n.natAbs d.natAbs:Nat):Int)else((n.natAbs/q4 n.natAbs d.natAbs:Nat):Int),((d.natAbs/q4 n.natAbs d.natAbs:Nat):Int)⟩,0):=by
     rw[xy,Z5 h1,low,Z4 O]
    rw[hlow];refine brI (fun h4=>?_) (fun h4=>?_)
    .conv=>whnf
     refine⟨lt0 (lc (lg0 (lc (ai0 ?_) (lc (ai0 ?_) ln0))) (lc (ai0 rfl) ln0)),lh0⟩
     .rw[wQ _ _ O,wN _ h2,wM _ h2];have:(decide (n<0) != decide (d<0))=true:=by revert h4;cases decide (n<0)<;>cases decide (d<0)<;>simp
      simp only[this,if_true]
     .rw[wQ _ _ O,wN _ h3]
    .conv=>whnf
     refine⟨lt0 (lc (lg0 (lc (ai0 ?_) (lc (ai0 ?_) ln0))) (lc (ai0 rfl) ln0)),lh0⟩
     .rw[wQ _ _ O,wN _ h2];have:(decide (n<0) != decide (d<0))=false:=by revert h4;cases decide (n<0)<;>cases decide (d<0)<;>simp
      simp only[this];simp
     .rw[wQ _ _ O,wN _ h3]
theorem zcm{r:Rt}(h:rOk r=true):rIn r:=by simp[rOk]at h;exact h.1
def rOp(a b:Rt)(n d:Int):Rt×Int:=if(rOk a&&rOk b)=true then xy n d else(⟨0,0⟩,1)
def qhn(a b:Rt):Rt×Int:=rOp a b (a.n*b.d+b.n*a.d) (a.d*b.d)
def qcb(a b:Rt):Rt×Int:=rOp a b (a.n*b.d-b.n*a.d) (a.d*b.d)
def zsv(a b:Rt):Rt×Int:=rOp a b (a.n*b.n) (a.d*b.d)
def qcf(a b:Rt):Rt×Int:=rOp a b (a.n*b.d) (a.d*b.n)
abbrev rto(p:Rt×Int):AV:=.tup [rtv p.1,.int .i64 p.2]
abbrev rbl(a:Rt):Blk:=.cells [.int .i64 a.n,.int .i64 a.d]
theorem zqk{a b:Rt}{n d:Int}(h:rOk a=false):rOp a b n d=(⟨0,0⟩,1):=by simp[rOp,h]
theorem zk9{a b:Rt}{n d:Int}(h:rOk b=false):rOp a b n d=(⟨0,0⟩,1):=by simp[rOp,h]
theorem zbq{a b:Rt}{n d:Int}(h:rOk a=true)(h2:rOk b=true):rOp a b n d=xy n d:=by simp[rOp,h,h2]
theorem ztt{h h':Hp}(a b:Rt):leH h h' [(1000002,rbl a),(1000003,rbl b)] [(1000002,rbl a),(1000003,rbl b)]:=lh1 (bc0 (lc (lr rfl) (lc (lr rfl) ln0))) (lh1 (bc0 (lc (lr rfl) (lc (lr rfl) ln0))) lh0)
theorem zgr{x y:Int}(h1: -1073741824<=x/\x<=1073741824)(h2: -1073741824<=y/\y<=1073741824): -1152921504606846976<=x*y/\x*y<=1152921504606846976:=by
 have e:(x*y).natAbs =x.natAbs*y.natAbs:=Int.natAbs_mul x y;have:x.natAbs*y.natAbs<=1073741824*1073741824:=Nat.mul_le_mul O O;omega
theorem zyz{x y:Int}(h1: -1073741824<=x/\x<=1073741824)(h2: -1073741824<=y/\y<=1073741824):qF.wrap (x*y)=x*y:=wI (by have:=zgr h1 h2;omega)
theorem f113(a b:Rt)(ha:rIn a)(hb:rIn b):Fn 199 [(1000002,rbl a),(1000003,rbl b)] [.ptr 1000002 0,.ptr 1000003 0] (.tup [.int .i64 (a.n*b.d+b.n*a.d),.int .i64 (a.d*b.d)]) [(1000002,rbl a),(1000003,rbl b)]:=by
 refine fnT hT hmx Tryz.func199 rfl rfl (ex:= []) ?_;conv=>whnf
 refine gYd ?_;obtain⟨a1,a2,a3,a4⟩:=ha;obtain⟨b1,b2,b3,b4⟩:=hb;refine⟨lt0 (lc (ai0 ?_) (lc (ai0 ?_) ln0)),lh1 (bc0 (lc (lr rfl) (lc (lr rfl) ln0))) (lh1 (bc0 (lc (lr rfl) (lc (lr rfl) ln0))) lh0)⟩
 .have h1:=zgr (x:=a.n) (y:=b.d) O O;have h2:=zgr (x:=b.n) (y:=a.d) O O;rw[zyz (x:=a.n) O O,zyz (x:=b.n) O O,wI O]
 .rw[zyz O O]
theorem b113(a b:Rt):Fn 198 [(1000002,rbl a),(1000003,rbl b)] [rtv a,rtv b,.fn 199 [.ptr 1000002 0,.ptr 1000003 0]] (rto (rOp a b (a.n*b.d+b.n*a.d) (a.d*b.d))) [(1000002,rbl a),(1000003,rbl b)]:=by
 refine fnT hT hmx Tryz.func198 rfl rfl (ex:= []) ?_;conv=>whnf
 refine gYn (f54 a.n a.d) ?_;refine brI (fun h1=>?_) (fun h1=>?_)
 .conv=>whnf
  rw[zqk (by simpa using h1)];exact⟨lr rfl,ztt a b⟩
 .conv=>whnf
  refine gYn (f54 b.n b.d) ?_;refine brI (fun h2=>?_) (fun h2=>?_)
  .conv=>whnf
   rw[zk9 (by simpa using h2)];exact⟨lr rfl,ztt a b⟩
  .conv=>whnf
   have ha:rOk a=true:=by simpa using h1
   have hb:rOk b=true:=by simpa using h2
   have ia:=zcm ha;have ib:=zcm hb;refine⟨[rbl a,rbl b],_,f113 a b ia ib,?_⟩;conv=>whnf
   obtain⟨a1,a2,a3,a4⟩:=ia;obtain⟨b1,b2,b3,b4⟩:=ib;refine gZn (f144 _ _ ?_ ?_) ?_
   .have h1:=zgr (x:=a.n) (y:=b.d) O O;have h2:=zgr (x:=b.n) (y:=a.d) O O;have h3:=zgr (x:=a.n) (y:=b.n) O O;omega
   .have h1:=zgr (x:=a.d) (y:=b.d) O O;have h2:=zgr (x:=a.d) (y:=b.n) O O;omega
   .conv=>whnf
    rw[zbq ha hb];exact⟨lr rfl,ztt a b⟩
theorem f58(a b:Rt):Fn 151 [] [rtv a,rtv b] (rto (qhn a b)) []:=by
 refine fnT hT hmx Tryz.func151 rfl rfl (ex:= []) ?_;conv=>whnf
 refine⟨[rbl a,rbl b],rto (qhn a b),(b113 a b).sw [(2,1000002),(3,1000003)] rfl,?_⟩;conv=>whnf
 exact⟨lr rfl,lh0⟩
theorem f143(a b:Rt)(ha:rIn a)(hb:rIn b):Fn 200 [(1000002,rbl a),(1000003,rbl b)] [.ptr 1000002 0,.ptr 1000003 0] (.tup [.int .i64 (a.n*b.d-b.n*a.d),.int .i64 (a.d*b.d)]) [(1000002,rbl a),(1000003,rbl b)]:=by
 refine fnT hT hmx Tryz.func200 rfl rfl (ex:= []) ?_;conv=>whnf
 refine gYd ?_;obtain⟨a1,a2,a3,a4⟩:=ha;obtain⟨b1,b2,b3,b4⟩:=hb;refine⟨lt0 (lc (ai0 ?_) (lc (ai0 ?_) ln0)),lh1 (bc0 (lc (lr rfl) (lc (lr rfl) ln0))) (lh1 (bc0 (lc (lr rfl) (lc (lr rfl) ln0))) lh0)⟩
 .have h1:=zgr (x:=a.n) (y:=b.d) O O;have h2:=zgr (x:=b.n) (y:=a.d) O O;rw[zyz (x:=a.n) O O,zyz (x:=b.n) O O,wI O]
 .rw[zyz O O]
theorem b143(a b:Rt):Fn 198 [(1000002,rbl a),(1000003,rbl b)] [rtv a,rtv b,.fn 200 [.ptr 1000002 0,.ptr 1000003 0]] (rto (rOp a b (a.n*b.d-b.n*a.d) (a.d*b.d))) [(1000002,rbl a),(1000003,rbl b)]:=by
 refine fnT hT hmx Tryz.func198 rfl rfl (ex:= []) ?_;conv=>whnf
 refine gYn (f54 a.n a.d) ?_;refine brI (fun h1=>?_) (fun h1=>?_)
 .conv=>whnf
  rw[zqk (by simpa using h1)];exact⟨lr rfl,ztt a b⟩
 .conv=>whnf
  refine gYn (f54 b.n b.d) ?_;refine brI (fun h2=>?_) (fun h2=>?_)
  .conv=>whnf
   rw[zk9 (by simpa using h2)];exact⟨lr rfl,ztt a b⟩
  .conv=>whnf
   have ha:rOk a=true:=by simpa using h1
   have hb:rOk b=true:=by simpa using h2
   have ia:=zcm ha;have ib:=zcm hb;refine⟨[rbl a,rbl b],_,f143 a b ia ib,?_⟩;conv=>whnf
   obtain⟨a1,a2,a3,a4⟩:=ia;obtain⟨b1,b2,b3,b4⟩:=ib;refine gZn (f144 _ _ ?_ ?_) ?_
   .have h1:=zgr (x:=a.n) (y:=b.d) O O;have h2:=zgr (x:=b.n) (y:=a.d) O O;have h3:=zgr (x:=a.n) (y:=b.n) O O;omega
   .have h1:=zgr (x:=a.d) (y:=b.d) O O;have h2:=zgr (x:=a.d) (y:=b.n) O O;omega
   .conv=>whnf
    rw[zbq ha hb];exact⟨lr rfl,ztt a b⟩
theorem f108(a b:Rt):Fn 152 [] [rtv a,rtv b] (rto (qcb a b)) []:=by
 refine fnT hT hmx Tryz.func152 rfl rfl (ex:= []) ?_;conv=>whnf
 refine⟨[rbl a,rbl b],rto (qcb a b),(b143 a b).sw [(2,1000002),(3,1000003)] rfl,?_⟩;conv=>whnf
 exact⟨lr rfl,lh0⟩
theorem f161(a b:Rt)(ha:rIn a)(hb:rIn b):Fn 201 [(1000002,rbl a),(1000003,rbl b)] [.ptr 1000002 0,.ptr 1000003 0] (.tup [.int .i64 (a.n*b.n),.int .i64 (a.d*b.d)]) [(1000002,rbl a),(1000003,rbl b)]:=by
 refine fnT hT hmx Tryz.func201 rfl rfl (ex:= []) ?_;conv=>whnf
 refine gYd ?_;obtain⟨a1,a2,a3,a4⟩:=ha;obtain⟨b1,b2,b3,b4⟩:=hb;refine⟨lt0 (lc (ai0 ?_) (lc (ai0 ?_) ln0)),lh1 (bc0 (lc (lr rfl) (lc (lr rfl) ln0))) (lh1 (bc0 (lc (lr rfl) (lc (lr rfl) ln0))) lh0)⟩
 .rw[zyz O O]
 .rw[zyz O O]
theorem b161(a b:Rt):Fn 198 [(1000002,rbl a),(1000003,rbl b)] [rtv a,rtv b,.fn 201 [.ptr 1000002 0,.ptr 1000003 0]] (rto (rOp a b (a.n*b.n) (a.d*b.d))) [(1000002,rbl a),(1000003,rbl b)]:=by
 refine fnT hT hmx Tryz.func198 rfl rfl (ex:= []) ?_;conv=>whnf
 refine gYn (f54 a.n a.d) ?_;refine brI (fun h1=>?_) (fun h1=>?_)
 .conv=>whnf
  rw[zqk (by simpa using h1)];exact⟨lr rfl,ztt a b⟩
 .conv=>whnf
  refine gYn (f54 b.n b.d) ?_;refine brI (fun h2=>?_) (fun h2=>?_)
  .conv=>whnf
   rw[zk9 (by simpa using h2)];exact⟨lr rfl,ztt a b⟩
  .conv=>whnf
   have ha:rOk a=true:=by simpa using h1
   have hb:rOk b=true:=by simpa using h2
   have ia:=zcm ha;have ib:=zcm hb;refine⟨[rbl a,rbl b],_,f161 a b ia ib,?_⟩;conv=>whnf
   obtain⟨a1,a2,a3,a4⟩:=ia;obtain⟨b1,b2,b3,b4⟩:=ib;refine gZn (f144 _ _ ?_ ?_) ?_
   .have h1:=zgr (x:=a.n) (y:=b.d) O O;have h2:=zgr (x:=b.n) (y:=a.d) O O;have h3:=zgr (x:=a.n) (y:=b.n) O O;omega
   .have h1:=zgr (x:=a.d) (y:=b.d) O O;have h2:=zgr (x:=a.d) (y:=b.n) O O;omega
   .conv=>whnf
    rw[zbq ha hb];exact⟨lr rfl,ztt a b⟩
theorem f142(a b:Rt):Fn 153 [] [rtv a,rtv b] (rto (zsv a b)) []:=by
 refine fnT hT hmx Tryz.func153 rfl rfl (ex:= []) ?_;conv=>whnf
 refine⟨[rbl a,rbl b],rto (zsv a b),(b161 a b).sw [(2,1000002),(3,1000003)] rfl,?_⟩;conv=>whnf
 exact⟨lr rfl,lh0⟩
theorem f112(a b:Rt)(ha:rIn a)(hb:rIn b):Fn 202 [(1000002,rbl a),(1000003,rbl b)] [.ptr 1000002 0,.ptr 1000003 0] (.tup [.int .i64 (a.n*b.d),.int .i64 (a.d*b.n)]) [(1000002,rbl a),(1000003,rbl b)]:=by
 refine fnT hT hmx Tryz.func202 rfl rfl (ex:= []) ?_;conv=>whnf
 refine gYd ?_;obtain⟨a1,a2,a3,a4⟩:=ha;obtain⟨b1,b2,b3,b4⟩:=hb;refine⟨lt0 (lc (ai0 ?_) (lc (ai0 ?_) ln0)),lh1 (bc0 (lc (lr rfl) (lc (lr rfl) ln0))) (lh1 (bc0 (lc (lr rfl) (lc (lr rfl) ln0))) lh0)⟩
 .rw[zyz O O]
 .rw[zyz O O]
theorem b112(a b:Rt):Fn 198 [(1000002,rbl a),(1000003,rbl b)] [rtv a,rtv b,.fn 202 [.ptr 1000002 0,.ptr 1000003 0]] (rto (rOp a b (a.n*b.d) (a.d*b.n))) [(1000002,rbl a),(1000003,rbl b)]:=by
 refine fnT hT hmx Tryz.func198 rfl rfl (ex:= []) ?_;conv=>whnf
 refine gYn (f54 a.n a.d) ?_;refine brI (fun h1=>?_) (fun h1=>?_)
 .conv=>whnf
  rw[zqk (by simpa using h1)];exact⟨lr rfl,ztt a b⟩
 .conv=>whnf
  refine gYn (f54 b.n b.d) ?_;refine brI (fun h2=>?_) (fun h2=>?_)
  .conv=>whnf
   rw[zk9 (by simpa using h2)];exact⟨lr rfl,ztt a b⟩
  .conv=>whnf
   have ha:rOk a=true:=by simpa using h1
   have hb:rOk b=true:=by simpa using h2
   have ia:=zcm ha;have ib:=zcm hb;refine⟨[rbl a,rbl b],_,f112 a b ia ib,?_⟩;conv=>whnf
   obtain⟨a1,a2,a3,a4⟩:=ia;obtain⟨b1,b2,b3,b4⟩:=ib;refine gZn (f144 _ _ ?_ ?_) ?_
   .have h1:=zgr (x:=a.n) (y:=b.d) O O;have h2:=zgr (x:=b.n) (y:=a.d) O O;have h3:=zgr (x:=a.n) (y:=b.n) O O;omega
   .have h1:=zgr (x:=a.d) (y:=b.d) O O;have h2:=zgr (x:=a.d) (y:=b.n) O O;omega
   .conv=>whnf
    rw[zbq ha hb];exact⟨lr rfl,ztt a b⟩
theorem f57(a b:Rt):Fn 154 [] [rtv a,rtv b] (rto (qcf a b)) []:=by
 refine fnT hT hmx Tryz.func154 rfl rfl (ex:= []) ?_;conv=>whnf
 refine⟨[rbl a,rbl b],rto (qcf a b),(b112 a b).sw [(2,1000002),(3,1000003)] rfl,?_⟩;conv=>whnf
 exact⟨lr rfl,lh0⟩
theorem c177(s:ByteArray)(c:Int)(w:World):
 Calls Tryz.prog 248 #[.string s,.int .u8 c] w fun e w'=>e=.returned (.int .i64 (firstIdx s c.toNat.toUInt8))/\w'=w:=by
 go_enter Tryz.func248,Tryz.ntmps248
 go_wp2
 rw[run_callFunc_extern Tryz.func272 Z Z Z (e:=Extern.BytealgIndexByte.indexByte) Z,run_indexByte_string];simp only[Result.andThen];rw[Oper.upon_value]
 go_wp2
 go_ret
 exact⟨rfl,rfl⟩
theorem zi3.pure{P:Program}{f:Nat}{H:Hp}{A:List AV}{r:AV}(hE:Ent P f)
 (h:∀(ρ:Env)(vs:List Value)(w:World),Rs ρ A vs->Calls P f vs.toArray w fun e w'=>(∃v,e=.returned v/\R ρ r v)/\w'=w):zi3 P f H A r H:=by
 refine⟨hE,fun w M pt ow S vs hcore hcont hargs=>?_⟩;refine(h _ vs w hargs).mono ?_;rintro e w' ⟨⟨v,rfl,hr⟩,rfl⟩;exact⟨v,M,pt,ow,S,rfl,hcore,hcont,hr,⟨rfl,rfl,rfl,qD _,fun _ _ _ _=>rfl,fun _ h=>h,fun _ h=>.inl h,fun _ h=>.inl h,fun _ _ h=>.inl h,fun _ _ h=>.inl h⟩⟩
theorem f177(s:zn)(c:Int):Fn 248 [] [.str s,.int .u8 c] (.int .i64 (firstIdx ⟨s.toArray⟩ c.toNat.toUInt8)) []:=by
 refine zi3.pure ⟨_,Tryz.func248,rfl,rfl⟩ fun ρ vs w hv=>?_
 match vs,hv with
 | [a,b],⟨ha,hb,_⟩=>
   obtain rfl:a=.string ⟨s.toArray⟩:=ha;obtain rfl:b=.int .u8 c:=hb;refine(c177 ⟨s.toArray⟩ c w).mono ?_;rintro e w' ⟨rfl,rfl⟩;exact⟨⟨_,rfl,rfl⟩,rfl⟩
theorem f164(s:zn)(c:Int):Fn 206 [] [.str s,.int .u8 c] (.int .i64 (firstIdx ⟨s.toArray⟩ c.toNat.toUInt8)) []:=by
 refine fnT hT hmx Tryz.func206 rfl rfl (ex:= []) ?_;conv=>whnf
 refine gYn (f177 s c) ?_;exact⟨lr rfl,lh0⟩
def syms:zn:= [40,41,91,93,123,125,44,59,58,39,61,43,45,42,47,94]
def cls(c:Int):Int:=
 if c=32\/c=9\/c=13\/c=10 then 1 else if(97<=c/\c<=122)\/(65<=c/\c<=90)then 2 else if 48<=c/\c<=57 then 3
 else if c=95 then 4 else if c=46 then 5 else if 0<=firstIdx ⟨syms.toArray⟩ c.toNat.toUInt8 then 6 else 0
theorem f157(c:Int):Fn 158 [] [.int .u8 c] (.int .i64 (cls c)) []:=by
 refine fnT hT hmx Tryz.func158 rfl rfl (ex:= []) ?_;conv=>whnf
 repeat' first
  |(refine brI (fun h=>?_) (fun h=>?_)<;>(conv=>whnf))
  |refine⟨ai0 ?_,lh0⟩
  |(refine gYn (f164 syms c) ?_)
 all_goals (simp only[Z2,Z3,beq_iff_eq,beq_eq_false_iff_ne,ne_eq]at*;unfold cls;repeat' split)
 all_goals first|rfl|omega
def kws:List zn:= [[115,116,97,116,101],[112,97,114,97,109],[105,110],[109,111,100,101],[119,104,101,110],[114,105,115,101,115],[102,97,108,108,115],[103,111,116,111],[119,105,116,104],[116,105,109,101],[101,120,112],[108,111,103],[115,105,110],[99,111,115],[115,113,114,116]]
def kwB(s:zn):Bool:=kws.any fun k=>s==k
theorem f135(s:zn):Fn 115 [] [.str s] (.bool (kwB s)) []:=by
 refine fnT hT hmx Tryz.func115 rfl rfl (ex:= []) ?_;conv=>whnf
 repeat' first
  |(refine brI (fun h=>?_) (fun h=>?_)<;>(conv=>whnf))
  |refine q2 (ab0 ?_) lh0
 all_goals simp_all[kwB,kws]
def chB(c:UInt8):Bool:=decide (cls c.toNat=2)||decide (cls c.toNat=3)||decide (cls c.toNat=4)
def zsh:zn->Bool
 | []=>false
 |c::s=>decide (cls c.toNat=2)&&s.all chB
theorem f134(s:zn)(hs:s.length<9223372036854775808):Fn 114 [] [.str s] (.bool (zsh s)) []:=by
 refine fnT hT hmx Tryz.func114 rfl rfl (ex:= []) ?_;conv=>whnf
 match s,hs with
 | [],_=>
   conv=>whnf
   exact⟨ab0 rfl,lh0⟩
 |c::s,hs=>
  conv=>whnf
  refine⟨⟨O,OC⟩,fun c' hc'=>?_⟩;obtain rfl:c=c':=by simpa using hc'
  conv=>whnf
  refine gYn (f157 c.toNat) ?_;refine brI (fun h2=>?_) (fun h2=>?_)
  .conv=>whnf
   refine⟨ab0 ?_,lh0⟩;simp only[bne_iff_ne]at h2;simp[zsh,h2]
  .conv=>whnf
   have h2:cls c.toNat=2:=by simpa using h2
   refine⟨Nat,fun i=>i<=(c::s).length /\((c::s).take i).all chB=true,fun i=> [(15,.int .i64 i)],fun _=> [],fun i=>(c::s).length -i,0,⟨OC,OC⟩,?_,fun i hi=>?_⟩
   ·((conv=>whnf);refine⟨?_,lh0⟩;repeat' first|exact ln0|exact la0|exact lr rfl|refine lc ?_ ?_)
   .refine gYe ?_;obtain⟨hi1,hi2⟩:=hi;refine brI (fun h3=>?_) (fun h3=>?_)
    .conv=>whnf
     have h3:i<(c::s).length :=by simp only[Z2]at h3;omega
     refine⟨⟨O,O⟩,fun c' hc'=>?_⟩;have hc':(c::s)[i]? =some c':=by simpa using hc'
     conv=>whnf
     refine gYn (f157 c'.toNat) ?_;have hno:chB c'=false->false=zsh (c::s):=fun h=>by
      have hm:c'∈c::s:=q6 hc';simp only[zsh,h2,decide_true,Bool.true_and];rcases qA.1 hm with rfl|hm
      .simp[chB,h2]at h
      .symm;rw[q9];exact⟨c',hm,by rw[h];simp⟩
     have hyes:chB c'=true->((c::s).take (i+1)).all chB=true:=fun h=>by
      rw[qd,hc'];simp[hi2,h]
     have hnext:chB c'=true->i+1<=(c::s).length /\((c::s).take (i+1)).all chB=true:=fun h=>⟨O,hyes h⟩
     refine brI (fun h4=>?_) (fun h4=>?_)
     .conv=>whnf
      refine brI (fun h5=>?_) (fun h5=>?_)
      .conv=>whnf
       refine brI (fun h6=>?_) (fun h6=>?_)
       .conv=>whnf
        refine⟨ab0 (hno ?_),lh0⟩;simp only[bne_iff_ne]at h4 h5 h6;simp[chB,h4,h5,h6]
       .conv=>whnf
        refine⟨i+1,hnext (by simp at h6;simp[chB,h6]),(by show(c::s).length -(i+1)<(c::s).length -i;omega),?_⟩
        ((conv=>whnf);refine⟨?_,lh0⟩;repeat' first|exact ln0|exact la0|exact lr rfl|refine lc ?_ ?_)
        exact ai0 (by rw[wI O];omega)
      .conv=>whnf
       refine⟨i+1,hnext (by simp at h5;simp[chB,h5]),(by show(c::s).length -(i+1)<(c::s).length -i;omega),?_⟩
       ((conv=>whnf);refine⟨?_,lh0⟩;repeat' first|exact ln0|exact la0|exact lr rfl|refine lc ?_ ?_)
       exact ai0 (by rw[wI O];omega)
     .conv=>whnf
      refine⟨i+1,hnext (by simp at h4;simp[chB,h4]),(by show(c::s).length -(i+1)<(c::s).length -i;omega),?_⟩
      ((conv=>whnf);refine⟨?_,lh0⟩;repeat' first|exact ln0|exact la0|exact lr rfl|refine lc ?_ ?_)
      exact ai0 (by rw[wI O];omega)
    .conv=>whnf
     have h3:¬i<(c::s).length :=by simp only[Z3]at h3;omega
     refine⟨ab0 ?_,lh0⟩;rw[q7 O]at hi2;simp only[qB,Bool.and_eq_true]at hi2;simp[zsh,h2,hi2.2]
def zat(s:zn):Bool:=zsh s&&decide (s.length<=20)&& !kwB s
theorem f89(s:zn)(hs:s.length<9223372036854775808):Fn 70 [] [.str s] (.bool (zat s)) []:=by
 refine fnT hT hmx Tryz.func70 rfl rfl (ex:= []) ?_;conv=>whnf
 refine gYn (f134 s hs) ?_;refine brI (fun h1=>?_) (fun h1=>?_)
 .conv=>whnf
  refine brI (fun h2=>?_) (fun h2=>?_)
  .conv=>whnf
   refine gYn (f135 s) ?_;have h2:s.length<=20:=by simp only[Z2]at h2;omega
   exact⟨ab0 (by simp[zat,h1,h2]),lh0⟩
  .conv=>whnf
   have h2:¬s.length<=20:=by simp only[Z3]at h2;omega
   exact⟨ab0 (by simp[zat,h2]),lh0⟩
 .conv=>whnf
  exact⟨ab0 (by simp[zat,h1]),lh0⟩
theorem cbI{Pc K:List Blk->AV->Prop}(bs:List Blk)(b:Bool)(hc:Pc bs (.bool b))(h1:b=true->K bs (.bool true))(h2:b=false->K bs (.bool false)):∃bs' r,Pc bs' r/\K bs' r:=by
 cases b
 .exact⟨bs,_,hc,h2 rfl⟩
 .exact⟨bs,_,hc,h1 rfl⟩
set_option maxHeartbeats 4000000
def opn(k:Int):Int:=
 if k=3\/k=4\/k=5\/k=6 then 2 else if k=7\/k=8\/k=9\/k=10\/k=11\/k=12\/k=13 then 1 else-1
theorem f147(k:Int):Fn 124 [] [.int .i64 k] (.int .i64 (opn k)) []:=by
 refine fnT hT hmx Tryz.func124 rfl rfl (ex:= []) ?_;conv=>whnf
 repeat' first
  |(refine brI (fun h=>?_) (fun h=>?_)<;>(conv=>whnf))
  |refine q2 (ai0 ?_) lh0
  |fail
 all_goals (simp only[beq_iff_eq,beq_eq_false_iff_ne,ne_eq]at*;unfold opn;repeat' split)
 all_goals first|rfl|omega
def numB(e:Ex):Bool:=rOk e.q&&(e.s== [])&&decide (e.p=0)&&decide (e.l.length=0)
def varB(e:Ex):Bool:=decide (e.q=⟨0,0⟩)&&zat e.s&&decide (e.p=0)&&decide (e.l.length=0)
def powB(e:Ex):Bool:=decide (e.q=⟨0,0⟩)&&(e.s== [])&&decide (0<=e.p)&&decide (e.p<=16)&&decide (e.l.length=1)
def opB(e:Ex):Bool:=decide (e.q=⟨0,0⟩)&&(e.s== [])&&decide (e.p=0)&&decide ((e.l.length:Int)=opn e.k)
def zdy(e:Ex):Bool:=if e.k=1 then numB e else if e.k=2 then varB e else if e.k=8 then powB e else opB e
theorem f118(e:Ex)(hs:e.s.length<9223372036854775808):Fn 88 [] [.agg (exC e)] (.bool (zdy e)) []:=by
 refine fnT hT hmx Tryz.func88 rfl rfl (ex:= []) ?_;conv=>whnf
 repeat' first
  |(refine brI (fun h=>?_) (fun h=>?_)<;>(conv=>whnf))
  |refine q2 (ab0 ?_) lh0
  |(refine gYn (f54 e.q.n e.q.d) ?_)
  |(refine gYn (f89 e.s hs) ?_)
  |(refine gYn (f147 e.k) ?_)
  |(refine q2 Z (q2 Z ?_);conv=>whnf)
  |fail
 all_goals (obtain⟨k,⟨n,d⟩,s,p,l⟩:=e;simp only[Ex.k,Ex.q,Ex.s,Ex.p,Ex.l]at*;simp_all[zdy,numB,varB,powB,opB,Ex.k,Ex.q,Ex.s,Ex.p,Ex.l])
 all_goals first
  |(cases l<;>simp<;>omega)
  |(intro h1;have h2:=Z0 h1;omega)
  |(rw[Bool.eq_iff_iff];simp only[beq_iff_eq];constructor
    .intro h1;exact Z6 O
    .intro h1;have:=Z0 h1;omega)
mutual
def Sm:Ex->Prop
 |.mk _ _ s _ l=>s.length<9223372036854775808/\l.length<9223372036854775808/\SmL l
def SmL:List Ex->Prop
 | []=>True
 |x::l=>Sm x/\SmL l
end
theorem qha{l:List Ex}(h:SmL l){x:Ex}{i:Nat}(hx:l[i]? =some x):Sm x:=by
 induction l generalizing i with
 |nil=>simp at hx
 |cons y l ih=>cases i with
  |zero=>simp at hx;rw[<-hx];exact h.1
  |succ i=>exact ih h.2 (by simpa using hx)
mutual
def zd6:Ex->Nat->Nat->Bool×Nat
 |.mk k q s p l,d,n=>if d<=20/\n+1<=200/\zdy (.mk k q s p l)=true then zgj l (d+1) (n+1)else(false,n+1)
def zgj:List Ex->Nat->Nat->Bool×Nat
 | [],_,n=>(true,n)
 |x::l,d,n=>match zd6 x d n with
  |(true,m)=>zgj l d m
  |(false,m)=>(false,m)
end
def ixL:List Ex->Nat->Nat->Nat->Int
 | [],_,_,_=> -1
 |x::l,d,n,i=>match zd6 x d n with
  |(true,m)=>ixL l d m (i+1)
  |(false,_)=>i
theorem zwt:∀(l:List Ex)(d n i:Nat),0<=ixL l d n i<->(zgj l d n).1=false
 | [],d,n,i=>by simp[ixL,zgj]
 |x::l,d,n,i=>by
  simp only[ixL,zgj]
  cases h:zd6 x d n with
  |mk b m=>cases b with
   |true=>exact zwt l d m (i+1)
   |false=>simp
abbrev cb1(n:Int):Blk:=.cells [.int .i64 n]
abbrev Hc(d n:Nat):Hp:= [(1000004,cb1 d),(1000005,.cells [.ptr 1000002 0]),(1000002,cb1 n)]
abbrev zyt(e:Ex):Prop:=∀d n:Nat,d<=1000->n<=1000->Fn 58 [(1000002,cb1 n)] [.agg (exC e),.int .i64 d,.ptr 1000002 0] (.bool (zd6 e d n).1) [(1000002,cb1 (zd6 e d n).2)]
theorem f119(e:Ex)(h:zyt e)(d n:Nat)(hd:d<1000)(hn:n<=1000):
 Fn 89 (Hc d n) [.agg (exC e),.ptr 1000004 0,.ptr 1000005 0] (.bool (!(zd6 e (d+1) n).1)) (Hc d (zd6 e (d+1) n).2):=by
 refine fnT hT hmx Tryz.func89 rfl rfl (ex:= []) ?_;conv=>whnf
 rw[wI (x:=(d:Int)+1) O];refine⟨[cb1 (zd6 e (d+1) n).2],.bool (zd6 e (d+1) n).1,h (d+1) n O hn,?_⟩;conv=>whnf
 exact⟨lr rfl,lh1 (bc0 (lc (lr rfl) ln0)) (lh1 (bc0 (lc (lr rfl) ln0)) (lh1 (bc0 (lc (lr rfl) ln0)) lh0))⟩
mutual
theorem zx2:∀(e:Ex)(d n:Nat),(zd6 e d n).1=true->(zd6 e d n).2<=200
 |.mk k q s p l,d,n,h=>by
   simp only[zd6]at h⊢;split at h
   .rename_i hc;rw[Z4 hc];exact zx1 l _ _ hc.2.1 h
   .simp at h
theorem zx1:∀(l:List Ex)(d n:Nat),n<=200->(zgj l d n).1=true->(zgj l d n).2<=200
 | [],d,n,hn,_=>hn
 |x::l,d,n,hn,h=>by
  simp only[zgj]at h⊢;have:=zx2 x d n
  cases hx:zd6 x d n with
  |mk b m=>cases b with
   |true=>rw[hx]at h this;exact zx1 l d m (this rfl) h
   |false=>rw[hx]at h;simp at h
end
def AtL(l:List Ex)(d n i m:Nat):Prop:=i<=l.length/\m<=200/\zgj (l.drop i) d m=zgj l d n/\ixL (l.drop i) d m i=ixL l d n 0
theorem qbq{l:List Ex}{d n i m m':Nat}{x:Ex}(h:AtL l d n i m)(hx:l[i]? =some x)(hc:zd6 x d m=(true,m')):AtL l d n (i+1) m':=by
 obtain⟨h1,h2,h3,h4⟩:=h;have hd:l.drop i=x::l.drop (i+1):=by
  obtain⟨hi,hx⟩:=q3.1 hx;rw[<-hx];exact q5 hi
 have hi:i<l.length:=by
  obtain⟨hi,hx⟩:=q3.1 hx;exact hi
 rw[hd]at h3 h4;simp only[zgj,ixL,hc]at h3 h4;have:=zx2 x d m (by rw[hc]);rw[hc]at this;exact⟨O,this,h3,h4⟩
theorem f114c(l:List Ex)(hl:∀x∈l,zyt x)(hlen:l.length<9223372036854775808)(d n:Nat)(hd:d<1000)(hn:n<=200):
 Fn 87 (Hc d n) [.sl .ex l,.fn 89 [.ptr 1000004 0,.ptr 1000005 0]] (.int .i64 (ixL l (d+1) n 0)) (Hc d (zgj l (d+1) n).2):=by
 refine fnT hT hmx Tryz.func87 rfl rfl (ex:= []) ?_;conv=>whnf
 refine⟨Nat×Nat,fun x=>AtL l (d+1) n x.1 x.2,fun x=> [(8,.int .i64 x.1)],fun x=> [(1000002,cb1 x.2)],fun x=>l.length-x.1,(0,n),⟨OC,hn,rfl,rfl⟩,?_,fun x hx=>?_⟩
 ·((conv=>whnf);refine q2 ?_ ?_;repeat' first|exact ln0|exact lh0|exact la0|exact lr rfl|exact li0 rfl|refine lg0 ?_|refine lt0 ?_|exact bf0|exact bd0|refine lc ?_ ?_|refine lh1 ?_ ?_|refine bc0 ?_|fail)
 .refine gYe ?_;obtain⟨i,m⟩:=x;have hx:AtL l (d+1) n i m:=hx;refine brI (fun h1=>?_) (fun h1=>?_)
  .conv=>whnf
   have hi:i<l.length:=by simp only[Z2]at h1;omega
   refine⟨⟨O,OD⟩,fun e he=>?_⟩;have he:l[i]? =some e:=by simpa using he
   conv=>whnf
   refine⟨[cb1 d,.cells [.ptr 1000002 0],cb1 (zd6 e (d+1) m).2],.bool (!(zd6 e (d+1) m).1),f119 e (hl e (q6 he)) d m hd (by have:=hx.2.1;omega),?_⟩;conv=>whnf
   refine brI (fun h2=>?_) (fun h2=>?_)
   .conv=>whnf
    have hd:l.drop i=e::l.drop (i+1):=by
     obtain⟨hi,he⟩:=q3.1 he;rw[<-he];exact q5 hi
    have h2:(zd6 e (d+1) m).1=false:=by simpa using h2
    obtain⟨_,_,h3,h4⟩:=hx;rw[hd]at h3 h4;simp only[zgj,ixL]at h3 h4;rcases hc:zd6 e (d+1) m with ⟨b,m'⟩
    rw[hc]at h3 h4 h2;subst h2;simp only at h3 h4;rw[<-h3,<-h4]
    (refine q2 ?_ ?_;repeat' first|exact ln0|exact lh0|exact la0|exact lr rfl|exact li0 rfl|refine lg0 ?_|refine lt0 ?_|exact bf0|exact bd0|refine lc ?_ ?_|refine lh1 ?_ ?_|refine bc0 ?_|fail)
   .conv=>whnf
    have h2:(zd6 e (d+1) m).1=true:=by simpa using h2
    refine⟨(i+1,(zd6 e (d+1) m).2),qbq hx he (by rw[<-h2]),by show l.length-(i+1)<l.length-i;omega,?_⟩
    ((conv=>whnf);refine q2 ?_ ?_;repeat' first|exact ln0|exact lh0|exact la0|exact lr rfl|exact li0 rfl|refine lg0 ?_|refine lt0 ?_|exact bf0|exact bd0|refine lc ?_ ?_|refine lh1 ?_ ?_|refine bc0 ?_|fail)
    exact ai0 (by rw[wI OD];simp only;omega)
  .conv=>whnf
   have hi:¬i<l.length:=by simp only[Z3]at h1;omega
   obtain⟨_,_,h3,h4⟩:=hx;rw[List.drop_of_length_le O]at h3 h4;simp only[zgj,ixL]at h3 h4;rw[<-h3,<-h4]
   (refine q2 ?_ ?_;repeat' first|exact ln0|exact lh0|exact la0|exact lr rfl|exact li0 rfl|refine lg0 ?_|refine lt0 ?_|exact bf0|exact bd0|refine lc ?_ ?_|refine lh1 ?_ ?_|refine bc0 ?_|fail)
theorem f60c(l:List Ex)(hl:∀x∈l,zyt x)(hlen:l.length<9223372036854775808)(d n:Nat)(hd:d<1000)(hn:n<=200):
 Fn 56 (Hc d n) [.sl .ex l,.fn 89 [.ptr 1000004 0,.ptr 1000005 0]] (.bool (!(zgj l (d+1) n).1)) (Hc d (zgj l (d+1) n).2):=by
 refine fnT hT hmx Tryz.func56 rfl rfl (ex:= []) ?_;conv=>whnf
 refine⟨[cb1 d,.cells [.ptr 1000002 0],cb1 (zgj l (d+1) n).2],_,f114c l hl hlen d n hd hn,?_⟩;conv=>whnf
 (refine q2 ?_ ?_;repeat' first|exact ln0|exact lh0|exact la0|exact lr rfl|exact li0 rfl|refine lg0 ?_|refine lt0 ?_|exact bf0|exact bd0|refine lc ?_ ?_|refine lh1 ?_ ?_|refine bc0 ?_|fail)
 exact ab0 (by have:=zwt l (d+1) n 0;cases hc:(zgj l (d+1) n).1<;>simp_all)
mutual
theorem ztf{P:Ex->Prop}(h:∀k q s p l,(∀x∈l,P x)->P (.mk k q s p l)):∀e,P e
 |.mk k q s p l=>h k q s p l (qc7 h l)
theorem qc7{P:Ex->Prop}(h:∀k q s p l,(∀x∈l,P x)->P (.mk k q s p l)):∀(l:List Ex),∀x∈l,P x
 | []=>fun x hx=>by simp at hx
 |y::l=>fun x hx=>by
  rcases qA.1 hx with e|hx
  .rw[e];exact ztf h y
  .exact qc7 h l x hx
end
theorem zpn{l:List Ex}(h:SmL l):∀x∈l,Sm x:=fun x hx=>by
 obtain⟨i,hi⟩:=List.mem_iff_getElem?.1 hx;exact qha h hi
theorem leH1{h h':Hp}{n m:Int}(e:n=m):leH h h' [(1000002,cb1 n)] [(1000002,cb1 m)]:=by
 subst e;exact lh1 (bc0 (lc (lr rfl) ln0)) lh0
theorem f65:∀(e:Ex),Sm e->zyt e:=by
 refine ztf fun k q s p l ih hs=>?_
 simp only[Sm]at hs;have hl:∀x∈l,zyt x:=fun x hx=>ih x hx (zpn hs.2.2 x hx)
 intro d n hd hn;have hnode:Fn 88 [] [.agg (exC (.mk k q s p l))] (.bool (zdy (.mk k q s p l))) []:=f118 _ hs.1;have hcon:=f60c l hl hs.2.1;have hno:¬(d<=20/\n+1<=200/\zdy (.mk k q s p l)=true)->zd6 (.mk k q s p l) d n=(false,n+1):=fun h=>by simp only[zd6];rw[Z5 h]
 refine fnT hT hmx Tryz.func58 rfl rfl (ex:= []) ?_;conv=>whnf
 have hw:qF.wrap ((n:Int)+1)=((n+1:Nat):Int):=by rw[wI O];rfl
 refine brI (fun h1=>?_) (fun h1=>?_)
 .conv=>whnf
  simp only[Z2]at h1;rw[hno O];exact⟨lr rfl,leH1 hw⟩
 .conv=>whnf
  simp only[Z3]at h1;refine brI (fun h2=>?_) (fun h2=>?_)
  .conv=>whnf
   simp only[Z2]at h2;rw[hw]at h2;rw[hno O];exact⟨lr rfl,leH1 hw⟩
  .conv=>whnf
   simp only[Z3]at h2;rw[hw]at h2;refine gYn hnode ?_;refine brI (fun h3=>?_) (fun h3=>?_)
   .conv=>whnf
    have h3:zdy (.mk k q s p l)=false:=by simpa using h3
    rw[hno (by rw[h3];simp)];exact⟨lr rfl,leH1 hw⟩
   .conv=>whnf
    have h3:zdy (.mk k q s p l)=true:=by simpa using h3
    have hyes:zd6 (.mk k q s p l) d n=zgj l (d+1) (n+1):=by simp only[zd6];rw[Z4 ⟨O,O,h3⟩]
    rw[hyes,hw];refine⟨[cb1 d,.cells [.ptr 1000002 0],cb1 (zgj l (d+1) (n+1)).2],.bool (!(zgj l (d+1) (n+1)).1),(hcon d (n+1) O O).sw [(4,1000004),(5,1000005)] rfl,?_⟩;conv=>whnf
    exact⟨ab0 OC,leH1 rfl⟩
def okT(e:Ex):Bool:=(zd6 e 1 0).1
theorem f17(e:Ex)(hs:Sm e):Fn 23 [] [.agg (exC e)] (.bool (okT e)) []:=by
 refine fnT hT hmx Tryz.func23 rfl rfl (ex:= []) ?_;conv=>whnf
 refine⟨[cb1 (zd6 e 1 0).2],.bool (okT e),(f65 e hs 1 0 O O).sw [(3,1000002)] rfl,?_⟩;conv=>whnf
 exact⟨lr rfl,lh0⟩
set_option maxHeartbeats 8000000
theorem wv{α:Type}{l:List α}{i:Nat}{x:α}(h:l[i]? =some x):l.drop i=x::l.drop (i+1):=by
 obtain⟨hi,hx⟩:=q3.1 h;rw[<-hx];exact q5 hi
def ixP{α:Type}(p:α->Bool):List α->Nat->Int
 | [],_=> -1
 |x::l,i=>if p x then i else ixP p l (i+1)
theorem zws{α:Type}(p:α->Bool):∀(l:List α)(i:Nat),0<=ixP p l i<->l.any p=true
 | [],i=>by simp[ixP]
 |x::l,i=>by
  have ih:=zws p l (i+1);by_cases h:p x=true
  .simp[ixP,h]
  .simp only[ixP,Z5 h,ih,List.any_cons];simp[h]
def ud(n:Int):Ex:=.mk 1 ⟨n,1⟩ [] 0 []
def xq(r:Rt):Ex:=.mk 1 r [] 0 []
def opE(k n:Int)(l:List Ex):Ex:=.mk k ⟨0,0⟩ [] n l
def isB(e:Ex)(n:Int):Bool:=(e.k==1)&&((e.q.n==n)&&(e.q.d==1))
theorem f74(n:Int):Fn 52 [] [.int .i64 n] (.agg (exC (ud n))) []:=by
 refine fnT hT hmx Tryz.func52 rfl rfl (ex:= []) ?_;conv=>whnf
 (refine q2 ?_ ?_;repeat' first|exact ln0|exact lh0|exact la0|exact lr rfl|exact li0 rfl|refine lg0 ?_|refine lt0 ?_|exact bf0|exact bd0|refine lc ?_ ?_|refine lh1 ?_ ?_|refine bc0 ?_|fail)
theorem f59(n:Int):Fn 17 [] [.int .i64 n] (.agg (exC (ud n))) []:=by
 refine fnT hT hmx Tryz.func17 rfl rfl (ex:= []) ?_;conv=>whnf
 (refine q2 ?_ ?_;repeat' first|exact ln0|exact lh0|exact la0|exact lr rfl|exact li0 rfl|refine lg0 ?_|refine lt0 ?_|exact bf0|exact bd0|refine lc ?_ ?_|refine lh1 ?_ ?_|refine bc0 ?_|fail)
theorem zfh(e:Ex)(n:Int):Fn 108 [] [.agg (exC e),.int .i64 n] (.bool (isB e n)) []:=by
 refine fnT hT hmx Tryz.func108 rfl rfl (ex:= []) ?_;conv=>whnf
 repeat' first
  |(refine brI (fun h=>?_) (fun h=>?_)<;>(conv=>whnf))
  |refine q2 (ab0 ?_) lh0
  |(refine q2 Z (q2 Z ?_);conv=>whnf)
  |fail
 all_goals simp_all[isB]
def okN(p:Rt×Int):Option Rt:=if p.2=0 then some p.1 else none
def zsy(a:Rt):Nat->Rt->Option Rt
 |0,r=>some r
 |n+1,r=>match okN (zsv r a)with
  |some s=>zsy a n s
  |none=>none
def q0(l:List Ex):Rt:=match l with
 |a::_=>a.q
 | []=>⟨0,0⟩
def q1(l:List Ex):Rt:=match l with
 | _::b::_=>b.q
 | _=>⟨0,0⟩
def jy(k n:Int)(l:List Ex):Option Rt:=
 if l.all (fun x=>x.k==1)then
  if k=3 then okN (qhn (q0 l) (q1 l))else if k=4 then okN (qcb (q0 l) (q1 l))else if k=5 then okN (zsv (q0 l) (q1 l))else if k=6 then okN (qcf (q0 l) (q1 l))
  else if k=7 then okN (qcb ⟨0,1⟩ (q0 l))else if k=8 then zsy (q0 l) n.toNat ⟨1,1⟩else none
 else none
def zw3(o:Option Rt):AV:=match o with
 |some r=>.tup [rtv r,.bool true]
 |none=>.tup [rtv ⟨0,0⟩,.bool false]
theorem zbl{f:Nat->Nat}(o:Option Rt):(zw3 o).mapI f=zw3 o:=by cases o<;>rfl
theorem zvf{n d:Int}(h:(xy n d).2≠0):(xy n d).1=⟨0,0⟩:=by
 unfold xy at*;split at h
 .rename_i e;rw[Z4 e]
 .rename_i e;rw[Z5 e];split at h
  .rfl
  .simp at h
theorem zfm(a b:Rt)(n d:Int)(h:(rOp a b n d).2≠0):(rOp a b n d).1=⟨0,0⟩:=by
 unfold rOp at*;split at h
 .rename_i e;rw[Z4 e];exact zvf h
 .rename_i e;rw[Z5 e]
theorem zev{h h':Hp}(p:Rt×Int)(hp:p.2≠0->p.1=⟨0,0⟩):leA h h' (.tup [rtv p.1,.bool (p.2==0)]) (zw3 (okN p)):=by
 obtain⟨r,e⟩:=p;unfold okN;by_cases he:e=0
 .subst he;exact lr rfl
 .have:(e==0)=false:=by simpa using he
  have hr:r=⟨0,0⟩:=hp he;subst hr;simp only[he,if_false,this,zw3];exact lr rfl
abbrev exV(k:Int)(q:Rt)(s:zn)(n:Int)(l:List Ex):AV:=.agg [.int .i64 k,.int .i64 q.n,.int .i64 q.d,.str s,.int .i64 n,.sl .ex l]
theorem zw8(k n:Int)(q:Rt)(s:zn)(l:List Ex)(hn:n<=1000)(h1:l≠ [])(h2:(k=3\/k=4\/k=5\/k=6)->2<=l.length)(hl:l.length<9223372036854775808):
 Fn 107 [] [exV k q s n l] (zw3 (jy k n l)) []:=by
 refine fnT hT hmx Tryz.func107 rfl rfl (ex:= []) ?_;conv=>whnf
 refine⟨Nat,fun i=>i<=l.length/\(l.take i).all (fun x=>x.k==1)=true,fun i=> [(12,.int .i64 i)],fun _=> [],fun i=>l.length-i,0,⟨OC,OC⟩,?_,fun i hi=>?_⟩
 ·((conv=>whnf);refine q2 ?_ ?_;repeat' first|exact ln0|exact lh0|exact la0|exact lr rfl|exact li0 rfl|refine lg0 ?_|refine lt0 ?_|exact bf0|exact bd0|refine lc ?_ ?_|refine lh1 ?_ ?_|refine bc0 ?_|fail)
 .refine gYe ?_;obtain⟨hi1,hi2⟩:=hi;refine brI (fun h3=>?_) (fun h3=>?_)
  .conv=>whnf
   have h3:i<l.length:=by simp only[Z2]at h3;omega
   refine⟨⟨O,O⟩,fun x hx=>?_⟩;have hx:l[i]? =some x:=by simpa using hx
   conv=>whnf
   refine brI (fun h4=>?_) (fun h4=>?_)
   .conv=>whnf
    have hno:jy k n l=none:=by
     have:l.all (fun x=>x.k==1)=false:=by
      rw[q9];exact⟨x,q6 hx,by simpa using h4⟩
     unfold jy;rw[this];rfl
    rw[hno]
    (refine q2 ?_ ?_;repeat' first|exact ln0|exact lh0|exact la0|exact lr rfl|exact li0 rfl|refine lg0 ?_|refine lt0 ?_|exact bf0|exact bd0|refine lc ?_ ?_|refine lh1 ?_ ?_|refine bc0 ?_|fail)
   .conv=>whnf
    refine⟨i+1,⟨O,by rw[qd,hx];simp only[Option.toList_some,List.all_append,hi2,qB,List.all_nil];simpa using h4⟩,by show l.length-(i+1)<l.length-i;omega,?_⟩
    ((conv=>whnf);refine q2 ?_ ?_;repeat' first|exact ln0|exact lh0|exact la0|exact lr rfl|exact li0 rfl|refine lg0 ?_|refine lt0 ?_|exact bf0|exact bd0|refine lc ?_ ?_|refine lh1 ?_ ?_|refine bc0 ?_|fail)
    exact ai0 (by rw[wI O];omega)
  .conv=>whnf
   have h3:¬i<l.length:=by simp only[Z3]at h3;omega
   rw[q7 O]at hi2;have hpos:0<l.length:=List.length_pos_iff.2 h1;have hQ0:∀a,l[0]? =some a->q0 l=a.q:=fun a ha=>by cases l with
    |nil=>simp at ha
    |cons x l=>simp at ha;rw[<-ha];rfl
   have hQ1:∀b,l[1]? =some b->q1 l=b.q:=fun b hb=>by
    rcases l with _ |⟨x,_ |⟨y,l⟩⟩
    .simp at hb
    .simp at hb
    .simp at hb;rw[<-hb];rfl
   refine⟨⟨O,O⟩,fun a ha=>?_⟩;have hq0:q0 l=a.q:=hQ0 a (by simpa using ha);conv=>whnf
   unfold jy;rw[hi2,Z4 rfl,hq0];refine brI (fun h4=>?_) (fun h4=>?_)
   .conv=>whnf
    have h4:k=3:=by simpa using h4
    rw[Z4 h4];refine⟨⟨O,by have:=h2 O;omega⟩,fun b hb=>?_⟩;have hq1:q1 l=b.q:=hQ1 b (by simpa using hb);conv=>whnf
    refine gYn (f58 a.q b.q) ?_;refine gYd ?_;conv=>whnf
    rw[hq1,zbl];exact⟨zev _ (zfm _ _ _ _),lh0⟩
   .conv=>whnf
    have h4:k≠3:=by simpa using h4
    rw[Z5 h4];refine brI (fun h4=>?_) (fun h4=>?_)
    .conv=>whnf
     have h4:k=4:=by simpa using h4
     rw[Z4 h4];refine⟨⟨O,by have:=h2 O;omega⟩,fun b hb=>?_⟩;have hq1:q1 l=b.q:=hQ1 b (by simpa using hb);conv=>whnf
     refine gYn (f108 a.q b.q) ?_;refine gYd ?_;conv=>whnf
     rw[hq1,zbl];exact⟨zev _ (zfm _ _ _ _),lh0⟩
    .conv=>whnf
     have h4:k≠4:=by simpa using h4
     rw[Z5 h4];refine brI (fun h4=>?_) (fun h4=>?_)
     .conv=>whnf
      have h4:k=5:=by simpa using h4
      rw[Z4 h4];refine⟨⟨O,by have:=h2 O;omega⟩,fun b hb=>?_⟩;have hq1:q1 l=b.q:=hQ1 b (by simpa using hb);conv=>whnf
      refine gYn (f142 a.q b.q) ?_;refine gYd ?_;conv=>whnf
      rw[hq1,zbl];exact⟨zev _ (zfm _ _ _ _),lh0⟩
     .conv=>whnf
      have h4:k≠5:=by simpa using h4
      rw[Z5 h4];refine brI (fun h4=>?_) (fun h4=>?_)
      .conv=>whnf
       have h4:k=6:=by simpa using h4
       rw[Z4 h4];refine⟨⟨O,by have:=h2 O;omega⟩,fun b hb=>?_⟩;have hq1:q1 l=b.q:=hQ1 b (by simpa using hb);conv=>whnf
       refine gYn (f57 a.q b.q) ?_;refine gYd ?_;conv=>whnf
       rw[hq1,zbl];exact⟨zev _ (zfm _ _ _ _),lh0⟩
      .conv=>whnf
       have h4:k≠6:=by simpa using h4
       rw[Z5 h4];refine brI (fun h4=>?_) (fun h4=>?_)
       .conv=>whnf
        have h4:k=7:=by simpa using h4
        rw[Z4 h4];refine gYn (f108 ⟨0,1⟩ a.q) ?_;rw[zbl];exact⟨zev _ (zfm _ _ _ _),lh0⟩
       .conv=>whnf
        have h4:k≠7:=by simpa using h4
        rw[Z5 h4];refine brI (fun h5=>?_) (fun h5=>?_)
        .conv=>whnf
         have h5:k=8:=by simpa using h5
         rw[Z4 h5];refine⟨Nat×Rt,fun x=>x.1<=n.toNat/\zsy a.q n.toNat ⟨1,1⟩=zsy a.q (n.toNat-x.1) x.2,fun x=> [(90,.int .i64 x.1),(8,.int .i64 0)],fun x=> [(7,rbl x.2)],fun x=>n.toNat-x.1,(0,⟨1,1⟩),⟨OC,rfl⟩,?_,fun x hx=>?_⟩
         ·((conv=>whnf);refine q2 ?_ ?_;repeat' first|exact ln0|exact lh0|exact la0|exact lr rfl|exact li0 rfl|refine lg0 ?_|refine lt0 ?_|exact bf0|exact bd0|refine lc ?_ ?_|refine lh1 ?_ ?_|refine bc0 ?_|fail)
         .refine gYe ?_;obtain⟨j,r⟩:=x;obtain⟨hj1,hj2⟩:=hx;refine brI (fun h6=>?_) (fun h6=>?_)
          .conv=>whnf
           have h6:j<n.toNat:=by simp only[Z2]at h6;omega
           refine gYn (f142 r a.q) ?_;have hstep:zsy a.q (n.toNat-j) r=match okN (zsv r a.q)with
            |some s=>zsy a.q (n.toNat-(j+1)) s
            |none=>none:=by
            rw[(O:n.toNat-j=(n.toNat-(j+1))+1)];rfl
           refine brI (fun h7=>?_) (fun h7=>?_)
           .conv=>whnf
            have h7:(zsv r a.q).2≠0:=by simpa using h7
            have hno:okN (zsv r a.q)=none:=by simp[okN,h7]
            rw[hj2,show n.toNat-(j,r).1=n.toNat-j from rfl,hstep,hno,zbl];have hz:(zsv r a.q).1=⟨0,0⟩:=zfm _ _ _ _ h7
            (refine q2 ?_ ?_;repeat' first|exact ln0|exact lh0|exact la0|exact lr rfl|exact li0 rfl|refine lg0 ?_|refine lt0 ?_|exact bf0|exact bd0|refine lc ?_ ?_|refine lh1 ?_ ?_|refine bc0 ?_|fail)
            .exact ai0 (congrArg Rt.n hz)
            .exact ai0 (congrArg Rt.d hz)
            .exact ab0 (by simpa using h7)
           .conv=>whnf
            have h7:(zsv r a.q).2=0:=by simpa using h7
            refine⟨(j+1,(zsv r a.q).1),⟨OD,by rw[hj2];show zsy a.q (n.toNat-j) r=_;rw[hstep];simp[okN,h7]⟩,by show n.toNat-(j+1)<n.toNat-j;omega,?_⟩
            ((conv=>whnf);refine q2 ?_ ?_;repeat' first|exact ln0|exact lh0|exact la0|exact lr rfl|exact li0 rfl|refine lg0 ?_|refine lt0 ?_|exact bf0|exact bd0|refine lc ?_ ?_|refine lh1 ?_ ?_|refine bc0 ?_|fail)
            .exact ai0 h7
            .exact ai0 (by rw[wI OD];simp only;omega)
          .conv=>whnf
           have h6:¬j<n.toNat:=by simp only[Z3]at h6;omega
           rw[hj2,show n.toNat-(j,r).1=0 by simp only;omega]
           (refine q2 ?_ ?_;repeat' first|exact ln0|exact lh0|exact la0|exact lr rfl|exact li0 rfl|refine lg0 ?_|refine lt0 ?_|exact bf0|exact bd0|refine lc ?_ ?_|refine lh1 ?_ ?_|refine bc0 ?_|fail)
        .conv=>whnf
         have h5:k≠8:=by simpa using h5
         rw[Z5 h5]
         (refine q2 ?_ ?_;repeat' first|exact ln0|exact lh0|exact la0|exact lr rfl|exact li0 rfl|refine lg0 ?_|refine lt0 ?_|exact bf0|exact bd0|refine lc ?_ ?_|refine lh1 ?_ ?_|refine bc0 ?_|fail)
def qj1(b:Ex):Ex:=match jy 7 0 [b]with
 |some r=>xq r
 |none=>if b.k=7 then(match b.l with|x::_=>x| []=>opE 7 0 [b])else opE 7 0 [b]
def yd(k n:Int)(a:Ex):Ex:=
 if k=7 then(if a.k=7 then(match a.l with|x::_=>x| []=>opE 7 n [a])else opE 7 n [a])
 else if k=8 then(if n=0 then ud 1 else if n=1 then a else opE 8 n [a])
 else if k=9\/k=12 then(if isB a 0 then ud 1 else opE k n [a])
 else if k=10 then(if isB a 1 then ud 0 else opE k n [a])
 else if k=11 then(if isB a 0 then ud 0 else opE k n [a])
 else if k=13 then(if isB a 1 then ud 1 else opE k n [a])
 else opE k n [a]
def zb0(k:Int)(a b:Ex):Ex:=
 if k=3 then(if isB a 0 then b else if isB b 0 then a else opE 3 0 [a,b])
 else if k=4 then(if isB b 0 then a else if isB a 0 then qj1 b else opE 4 0 [a,b])
 else if k=5 then(if isB a 0||isB b 0 then ud 0 else if isB a 1 then b else if isB b 1 then a else opE 5 0 [a,b])
 else(if isB a 0&& !isB b 0 then ud 0 else if isB b 1 then a else opE k 0 [a,b])
def op1(k n:Int)(a:Ex):Ex:=match jy k n [a]with
 |some r=>xq r
 |none=>yd k n a
def op2(k:Int)(a b:Ex):Ex:=match jy k 0 [a,b]with
 |some r=>xq r
 |none=>zb0 k a b
theorem qc0(n:Int)(a:Ex)(hn:n<=1000):Fn 62 [] [exV 8 ⟨0,0⟩ [] n [a]] (.agg (exC (op1 8 n a))) []:=by
 have h145:=zw8 8 n ⟨0,0⟩ [] [a] hn OC O OC;cases hf:jy 8 n [a]with
 |some r=>
  rw[hf]at h145;simp only[op1,hf];refine fnT hT hmx Tryz.func62 rfl rfl (ex:= []) ?_;conv=>whnf
  refine gYn h145 ?_
  (refine q2 ?_ ?_;repeat' first|exact ln0|exact lh0|exact la0|exact lr rfl|exact li0 rfl|refine lg0 ?_|refine lt0 ?_|exact bf0|exact bd0|refine lc ?_ ?_|refine lh1 ?_ ?_|refine bc0 ?_|fail)
 |none=>
  rw[hf]at h145;simp only[op1,hf];have hw1:qF.wrap (([a].length :Int)-1)=0:=by rw[wI OC];simp
  refine fnT hT hmx Tryz.func62 rfl rfl (ex:= []) ?_;conv=>whnf
  refine gYn h145 ?_;refine⟨⟨O,OC⟩,fun x hx=>?_⟩;obtain rfl:a=x:=by simpa using hx
  conv=>whnf
  rw[hw1];refine⟨⟨O,OC⟩,fun x hx=>?_⟩;obtain rfl:a=x:=by simpa using hx
  conv=>whnf
  repeat' first
   |(refine brI (fun h=>?_) (fun h=>?_)<;>(conv=>whnf))
   |refine q2 ?_ lh0
   |(refine gYn (zfh a 0) ?_)
   |(refine gYn (zfh a 1) ?_)
   |(refine gYn (f74 0) ?_)
   |(refine gYn (f74 1) ?_)
   |fail
  all_goals first
   |(have e:yd 8 n a=opE 8 n [a]:=by simp_all[yd]
     rw[e];exact lr rfl)
   |(have e:yd 8 n a=ud 1:=by simp_all[yd]
     rw[e];exact zo rfl)
   |(have e:yd 8 n a=ud 0:=by simp_all[yd]
     rw[e];exact zo rfl)
   |(have e:yd 8 n a=a:=by simp_all[yd]
     rw[e];exact zo rfl)
   |fail
theorem qcz(n:Int)(a:Ex)(hn:n<=1000):Fn 62 [] [exV 9 ⟨0,0⟩ [] n [a]] (.agg (exC (op1 9 n a))) []:=by
 have h145:=zw8 9 n ⟨0,0⟩ [] [a] hn OC O OC;have hf:jy 9 n [a]=none:=by simp[jy]
 rw[hf]at h145;simp only[op1,hf];have hw1:qF.wrap (([a].length :Int)-1)=0:=by rw[wI OC];simp
 refine fnT hT hmx Tryz.func62 rfl rfl (ex:= []) ?_;conv=>whnf
 refine gYn h145 ?_;refine⟨⟨O,OC⟩,fun x hx=>?_⟩;obtain rfl:a=x:=by simpa using hx
 conv=>whnf
 rw[hw1];refine⟨⟨O,OC⟩,fun x hx=>?_⟩;obtain rfl:a=x:=by simpa using hx
 conv=>whnf
 repeat' first
  |(refine brI (fun h=>?_) (fun h=>?_)<;>(conv=>whnf))
  |refine q2 ?_ lh0
  |(refine gYn (zfh a 0) ?_)
  |(refine gYn (zfh a 1) ?_)
  |(refine gYn (f74 0) ?_)
  |(refine gYn (f74 1) ?_)
  |fail
 all_goals first
  |(have e:yd 9 n a=opE 9 n [a]:=by simp_all[yd]
    rw[e];exact lr rfl)
  |(have e:yd 9 n a=ud 1:=by simp_all[yd]
    rw[e];exact zo rfl)
  |(have e:yd 9 n a=ud 0:=by simp_all[yd]
    rw[e];exact zo rfl)
  |(have e:yd 9 n a=a:=by simp_all[yd]
    rw[e];exact zo rfl)
  |fail
theorem zxc(n:Int)(a:Ex)(hn:n<=1000):Fn 62 [] [exV 10 ⟨0,0⟩ [] n [a]] (.agg (exC (op1 10 n a))) []:=by
 have h145:=zw8 10 n ⟨0,0⟩ [] [a] hn OC O OC;have hf:jy 10 n [a]=none:=by simp[jy]
 rw[hf]at h145;simp only[op1,hf];have hw1:qF.wrap (([a].length :Int)-1)=0:=by rw[wI OC];simp
 refine fnT hT hmx Tryz.func62 rfl rfl (ex:= []) ?_;conv=>whnf
 refine gYn h145 ?_;refine⟨⟨O,OC⟩,fun x hx=>?_⟩;obtain rfl:a=x:=by simpa using hx
 conv=>whnf
 rw[hw1];refine⟨⟨O,OC⟩,fun x hx=>?_⟩;obtain rfl:a=x:=by simpa using hx
 conv=>whnf
 repeat' first
  |(refine brI (fun h=>?_) (fun h=>?_)<;>(conv=>whnf))
  |refine q2 ?_ lh0
  |(refine gYn (zfh a 0) ?_)
  |(refine gYn (zfh a 1) ?_)
  |(refine gYn (f74 0) ?_)
  |(refine gYn (f74 1) ?_)
  |fail
 all_goals first
  |(have e:yd 10 n a=opE 10 n [a]:=by simp_all[yd]
    rw[e];exact lr rfl)
  |(have e:yd 10 n a=ud 1:=by simp_all[yd]
    rw[e];exact zo rfl)
  |(have e:yd 10 n a=ud 0:=by simp_all[yd]
    rw[e];exact zo rfl)
  |(have e:yd 10 n a=a:=by simp_all[yd]
    rw[e];exact zo rfl)
  |fail
theorem zxb(n:Int)(a:Ex)(hn:n<=1000):Fn 62 [] [exV 11 ⟨0,0⟩ [] n [a]] (.agg (exC (op1 11 n a))) []:=by
 have h145:=zw8 11 n ⟨0,0⟩ [] [a] hn OC O OC;have hf:jy 11 n [a]=none:=by simp[jy]
 rw[hf]at h145;simp only[op1,hf];have hw1:qF.wrap (([a].length :Int)-1)=0:=by rw[wI OC];simp
 refine fnT hT hmx Tryz.func62 rfl rfl (ex:= []) ?_;conv=>whnf
 refine gYn h145 ?_;refine⟨⟨O,OC⟩,fun x hx=>?_⟩;obtain rfl:a=x:=by simpa using hx
 conv=>whnf
 rw[hw1];refine⟨⟨O,OC⟩,fun x hx=>?_⟩;obtain rfl:a=x:=by simpa using hx
 conv=>whnf
 repeat' first
  |(refine brI (fun h=>?_) (fun h=>?_)<;>(conv=>whnf))
  |refine q2 ?_ lh0
  |(refine gYn (zfh a 0) ?_)
  |(refine gYn (zfh a 1) ?_)
  |(refine gYn (f74 0) ?_)
  |(refine gYn (f74 1) ?_)
  |fail
 all_goals first
  |(have e:yd 11 n a=opE 11 n [a]:=by simp_all[yd]
    rw[e];exact lr rfl)
  |(have e:yd 11 n a=ud 1:=by simp_all[yd]
    rw[e];exact zo rfl)
  |(have e:yd 11 n a=ud 0:=by simp_all[yd]
    rw[e];exact zo rfl)
  |(have e:yd 11 n a=a:=by simp_all[yd]
    rw[e];exact zo rfl)
  |fail
theorem zxa(n:Int)(a:Ex)(hn:n<=1000):Fn 62 [] [exV 12 ⟨0,0⟩ [] n [a]] (.agg (exC (op1 12 n a))) []:=by
 have h145:=zw8 12 n ⟨0,0⟩ [] [a] hn OC O OC;have hf:jy 12 n [a]=none:=by simp[jy]
 rw[hf]at h145;simp only[op1,hf];have hw1:qF.wrap (([a].length :Int)-1)=0:=by rw[wI OC];simp
 refine fnT hT hmx Tryz.func62 rfl rfl (ex:= []) ?_;conv=>whnf
 refine gYn h145 ?_;refine⟨⟨O,OC⟩,fun x hx=>?_⟩;obtain rfl:a=x:=by simpa using hx
 conv=>whnf
 rw[hw1];refine⟨⟨O,OC⟩,fun x hx=>?_⟩;obtain rfl:a=x:=by simpa using hx
 conv=>whnf
 repeat' first
  |(refine brI (fun h=>?_) (fun h=>?_)<;>(conv=>whnf))
  |refine q2 ?_ lh0
  |(refine gYn (zfh a 0) ?_)
  |(refine gYn (zfh a 1) ?_)
  |(refine gYn (f74 0) ?_)
  |(refine gYn (f74 1) ?_)
  |fail
 all_goals first
  |(have e:yd 12 n a=opE 12 n [a]:=by simp_all[yd]
    rw[e];exact lr rfl)
  |(have e:yd 12 n a=ud 1:=by simp_all[yd]
    rw[e];exact zo rfl)
  |(have e:yd 12 n a=ud 0:=by simp_all[yd]
    rw[e];exact zo rfl)
  |(have e:yd 12 n a=a:=by simp_all[yd]
    rw[e];exact zo rfl)
  |fail
theorem zw9(n:Int)(a:Ex)(hn:n<=1000):Fn 62 [] [exV 13 ⟨0,0⟩ [] n [a]] (.agg (exC (op1 13 n a))) []:=by
 have h145:=zw8 13 n ⟨0,0⟩ [] [a] hn OC O OC;have hf:jy 13 n [a]=none:=by simp[jy]
 rw[hf]at h145;simp only[op1,hf];have hw1:qF.wrap (([a].length :Int)-1)=0:=by rw[wI OC];simp
 refine fnT hT hmx Tryz.func62 rfl rfl (ex:= []) ?_;conv=>whnf
 refine gYn h145 ?_;refine⟨⟨O,OC⟩,fun x hx=>?_⟩;obtain rfl:a=x:=by simpa using hx
 conv=>whnf
 rw[hw1];refine⟨⟨O,OC⟩,fun x hx=>?_⟩;obtain rfl:a=x:=by simpa using hx
 conv=>whnf
 repeat' first
  |(refine brI (fun h=>?_) (fun h=>?_)<;>(conv=>whnf))
  |refine q2 ?_ lh0
  |(refine gYn (zfh a 0) ?_)
  |(refine gYn (zfh a 1) ?_)
  |(refine gYn (f74 0) ?_)
  |(refine gYn (f74 1) ?_)
  |fail
 all_goals first
  |(have e:yd 13 n a=opE 13 n [a]:=by simp_all[yd]
    rw[e];exact lr rfl)
  |(have e:yd 13 n a=ud 1:=by simp_all[yd]
    rw[e];exact zo rfl)
  |(have e:yd 13 n a=ud 0:=by simp_all[yd]
    rw[e];exact zo rfl)
  |(have e:yd 13 n a=a:=by simp_all[yd]
    rw[e];exact zo rfl)
  |fail
theorem qc1(n:Int)(a:Ex)(hn:n<=1000)(ha:a.k=7->a.l≠ []):Fn 62 [] [exV 7 ⟨0,0⟩ [] n [a]] (.agg (exC (op1 7 n a))) []:=by
 have h145:=zw8 7 n ⟨0,0⟩ [] [a] hn OC O OC;cases hf:jy 7 n [a]with
 |some r=>
  rw[hf]at h145;simp only[op1,hf];refine fnT hT hmx Tryz.func62 rfl rfl (ex:= []) ?_;conv=>whnf
  refine gYn h145 ?_
  (refine q2 ?_ ?_;repeat' first|exact ln0|exact lh0|exact la0|exact lr rfl|exact li0 rfl|refine lg0 ?_|refine lt0 ?_|exact bf0|exact bd0|refine lc ?_ ?_|refine lh1 ?_ ?_|refine bc0 ?_|fail)
 |none=>
  rw[hf]at h145;simp only[op1,hf];have hw1:qF.wrap (([a].length :Int)-1)=0:=by rw[wI OC];simp
  refine fnT hT hmx Tryz.func62 rfl rfl (ex:= []) ?_;conv=>whnf
  refine gYn h145 ?_;refine⟨⟨O,OC⟩,fun x hx=>?_⟩;obtain rfl:a=x:=by simpa using hx
  conv=>whnf
  rw[hw1];refine⟨⟨O,OC⟩,fun x hx=>?_⟩;obtain rfl:a=x:=by simpa using hx
  conv=>whnf
  refine brI (fun h=>?_) (fun h=>?_)
  .conv=>whnf
   have h:a.k=7:=by simpa using h
   obtain⟨y,r,hr⟩:∃y r,a.l=y::r:=by
    cases e:a.l with
    |nil=>exact absurd e (ha h)
    |cons y r=>exact⟨y,r,rfl⟩
   refine⟨⟨O,by rw[hr];simp⟩,fun x hx=>?_⟩;obtain rfl:y=x:=by rw[hr]at hx;simpa using hx
   conv=>whnf
   have e:yd 7 n a=y:=by simp[yd,h,hr]
   rw[e];exact⟨zo rfl,lh0⟩
  .conv=>whnf
   have h:a.k≠7:=by simpa using h
   have e:yd 7 n a=opE 7 n [a]:=by simp[yd,h]
   rw[e];exact⟨lr rfl,lh0⟩
theorem qc6(a:Ex)(ha:a.k=7->a.l≠ []):Fn 85 [] [.int .i64 7,.agg (exC a)] (.agg (exC (op1 7 0 a))) []:=by
 refine fnT hT hmx Tryz.func85 rfl rfl (ex:= []) ?_;conv=>whnf
 rw[Ex.eta2];refine gYn (qc1 0 a O ha) ?_;exact⟨zo rfl,lh0⟩
theorem zfr(b:Ex):qj1 b=op1 7 0 b:=by
 unfold qj1 op1 yd;simp
theorem ix0{P:Ex->Prop}{a:Ex}{l:List Ex}(h:P a):((0:Int)<=0/\(0:Int)<((a::l).length :Int))/\∀x,(a::l)[(0:Int).toNat]? =some x->P x:=
 ⟨⟨O,by simp only[qn];omega⟩,fun x hx=>(show a=x by simpa using hx)▸h⟩
theorem ix1{P:Ex->Prop}{a b:Ex}{l:List Ex}(h:P b):((0:Int)<=1/\(1:Int)<((a::b::l).length :Int))/\∀x,(a::b::l)[(1:Int).toNat]? =some x->P x:=
 ⟨⟨O,by simp only[qn];omega⟩,fun x hx=>(show b=x by simpa using hx)▸h⟩
end Go.Proofs.YthbgbmdmimejiaaGreatDoor

namespace Go.Sx
open Go
theorem zi3.arg{P:Program}{f:Nat}{H:Hp}{A A':List AV}{r:AV}{H':Hp}(h:zi3 P f H A r H')(ha:∀(ρ:Env)(vs:List Value),Rs ρ A' vs->Rs ρ A vs):zi3 P f H A' r H':=
 ⟨h.1,fun w M pt ow S vs hc hk hv=>h.2 w M pt ow S vs hc hk (ha _ _ hv)⟩
end Go.Sx
namespace Go.Proofs.YthbgbmdmimejiaaGreatDoor
open Go Go.Sx
theorem R_nil{ρ:Env}{k:Elt}{v:Value}(h:R ρ .nilsl v):R ρ (.sl k []) v:=by
 obtain rfl:v=.slice none 0 0:=h;exact .sl k [] none 0 0 0 0 rfl (qD _) OA (fun h=>absurd rfl h) (fun i x h=>by simp at h)
abbrev nilV(k:Int)(q:Rt)(s:zn)(p:Int):AV:=.agg [.int .i64 k,.int .i64 q.n,.int .i64 q.d,.str s,.int .i64 p,.nilsl]
theorem qmc{ρ:Env}{k:Int}{q:Rt}{s:zn}{p:Int}{v:Value}(h:R ρ (nilV k q s p) v):R ρ (.agg (exC (.mk k q s p []))) v:=by
 obtain⟨vs,hv,h⟩:=h;refine⟨vs,hv,?_⟩
 match vs.toList,h with
 | [a,b,c,d,e,f],⟨h1,h2,h3,h4,h5,h6,_⟩=>exact⟨h1,h2,h3,h4,h5,R_nil h6,trivial⟩
theorem nil1{P:Program}{f:Nat}{H:Hp}{k:Int}{q:Rt}{s:zn}{p:Int}{A:List AV}{r:AV}{H':Hp}(h:zi3 P f H (.agg (exC (.mk k q s p []))::A) r H'):zi3 P f H (nilV k q s p::A) r H':=
 h.arg fun ρ vs hv=>match vs,hv with
  | _::_,⟨h1,h2⟩=>⟨qmc h1,h2⟩
