/- The seat's type table; how a contract is proved. -/
import Derived.Test.YtlbmkjbgfkgcmaaGreatDoorTZz
import Derived.Test.YtlbmkjbgfkgcmaaGreatDoorChecked
import Derived.Laws.Externs
import Derived.Tactics
set_option linter.all false
open Nat renaming pos_of_ne_zero->q0,gcd->q1,gcd_comm->q2,mod_lt->q3,gcd_zero_right->q4,gcd_rec->qA
namespace Go.Proofs.YtlbmkjbgfkgcmaaGreatDoor
open Go Go.Sx
def Ty:List (Nat×TI):= [
 (3,⟨1,1,[],0,0,0,some .int,.i64,[.int .i64 0],8,false⟩),
 (46,⟨2,3,[(0,1,false),(1,1,false),(2,1,false)],0,0,0,some .dy,.i64,[.bool false,.nilsl,.int .i64 0],40,false⟩),
 (48,⟨2,7,[(0,3,true),(3,3,true),(6,1,false)],0,0,0,some .iv,.i64,[.bool false,.nilsl,.int .i64 0,.bool false,.nilsl,.int .i64 0,.bool false],88,false⟩),
 (44,⟨3,1,[],101,1,0,some .ls,.i64,[.nilsl],24,false⟩),
 (101,⟨1,1,[],0,0,0,some .u32,.u32,[.int .u32 0],4,false⟩),
 (4,⟨6,1,[],0,0,0,some .bool,.i64,[.bool false],1,false⟩),
 (182,⟨2,2,[(0,1,false),(1,1,false)],0,0,0,none,.i64,[.bool false,.nilsl],32,false⟩),
 (104,⟨1,1,[],0,0,0,none,.u64,[.int .u64 0],8,false⟩),
 (26,⟨3,1,[],48,7,0,some .vs,.i64,[.nilsl],24,false⟩),
 (63,⟨2,6,[(0,1,false),(1,1,false),(2,1,false),(3,1,false),(4,2,true)],0,0,0,some .op,.i64,[.int .i64 0,.int .i64 0,.int .i64 0,.int .i64 0,.int .i64 0,.int .i64 0],48,true⟩),
 (25,⟨2,3,[(0,1,false),(1,1,false),(2,1,false)],0,0,0,none,.i64,[.int .i64 0,.nilsl,.nilsl],56,false⟩),
 (92,⟨2,42,[(0,6,true),(6,7,true),(13,7,true),(20,7,true),(27,7,true),(34,7,true),(41,1,false)],0,0,0,none,.i64,[.int .i64 0,.int .i64 0,.int .i64 0,.int .i64 0,.int .i64 0,.int .i64 0,.bool false,.nilsl,.int .i64 0,.bool false,.nilsl,.int .i64 0,.bool false,.bool false,.nilsl,.int .i64 0,.bool false,.nilsl,.int .i64 0,.bool false,.bool false,.nilsl,.int .i64 0,.bool false,.nilsl,.int .i64 0,.bool false,.bool false,.nilsl,.int .i64 0,.bool false,.nilsl,.int .i64 0,.bool false,.bool false,.nilsl,.int .i64 0,.bool false,.nilsl,.int .i64 0,.bool false,.int .i64 0],496,false⟩),
 (23,⟨3,1,[],3,1,0,none,.i64,[.nilsl],24,false⟩),
 (22,⟨3,1,[],63,6,0,none,.i64,[.nilsl],24,false⟩),
 (164,⟨2,1,[(0,1,false)],0,0,0,none,.i64,[.int .i64 0],8,true⟩),
 (61,⟨2,2,[(0,1,false),(1,1,false)],0,0,0,some .rat,.i64,[.int .i64 0,.int .i64 0],16,true⟩),
 (39,⟨2,5,[(0,3,true),(3,1,false),(4,1,false)],0,0,0,none,.i64,[.int .i64 0,.nilsl,.nilsl,.int .i64 0,.nilsl],88,false⟩),
 (153,⟨2,3,[(0,1,false),(1,1,false),(2,1,false)],0,0,0,none,.i64,[.nilsl,.int .i64 0,.bool false],40,false⟩),
 (51,⟨1,1,[],0,0,0,none,.i64,[.int .i64 0],8,false⟩),
 (81,⟨8,1,[],0,0,0,none,.i64,[.nilf],8,false⟩),
 (30,⟨3,1,[],26,1,0,none,.i64,[.nilsl],24,false⟩),
 (132,⟨4,6,[],46,3,2,some .dd,.i64,[.bool false,.nilsl,.int .i64 0,.bool false,.nilsl,.int .i64 0],80,false⟩),
 (195,⟨3,1,[],44,1,0,none,.i64,[.nilsl],24,false⟩),
 (5,⟨1,1,[],0,0,0,some .u8,.u8,[.int .u8 0],1,false⟩),
 (144,⟨3,1,[],132,6,0,none,.i64,[.nilsl],24,false⟩),
 (176,⟨3,1,[],46,3,0,none,.i64,[.nilsl],24,false⟩),
 (133,⟨4,24,[],132,6,4,none,.i64,[.bool false,.nilsl,.int .i64 0,.bool false,.nilsl,.int .i64 0,.bool false,.nilsl,.int .i64 0,.bool false,.nilsl,.int .i64 0,.bool false,.nilsl,.int .i64 0,.bool false,.nilsl,.int .i64 0,.bool false,.nilsl,.int .i64 0,.bool false,.nilsl,.int .i64 0],320,false⟩),
 (66,⟨8,1,[],0,0,0,none,.i64,[.nilf],8,false⟩),
 (105,⟨1,1,[],0,0,0,none,.u64,[.int .u64 0],8,false⟩),
 (199,⟨4,32,[],5,1,32,none,.i64,[.int .u8 0,.int .u8 0,.int .u8 0,.int .u8 0,.int .u8 0,.int .u8 0,.int .u8 0,.int .u8 0,.int .u8 0,.int .u8 0,.int .u8 0,.int .u8 0,.int .u8 0,.int .u8 0,.int .u8 0,.int .u8 0,.int .u8 0,.int .u8 0,.int .u8 0,.int .u8 0,.int .u8 0,.int .u8 0,.int .u8 0,.int .u8 0,.int .u8 0,.int .u8 0,.int .u8 0,.int .u8 0,.int .u8 0,.int .u8 0,.int .u8 0,.int .u8 0],32,false⟩),
 (40,⟨3,1,[],5,1,0,none,.i64,[.nilsl],24,false⟩),
 (9,⟨5,1,[],0,0,0,some .str,.i64,[.str []],16,false⟩),
 (93,⟨8,1,[],0,0,0,some .fk,.i64,[.nilf],8,false⟩)]
def T:Tab:= {ty:=Ty,of:= [],nb:= []}
theorem hmx:Tryz.prog.follows .mixedOrders =true:=Z
theorem hT:TabOK Tryz.prog T:=zfd Z Z
abbrev Fn(f:Nat)(H:Hp)(A:List AV)(r:AV)(H':Hp):Prop:=zh8 Tryz.prog f H A r H'
set_option maxRecDepth 100000
set_option maxHeartbeats 1000000
theorem f105(n:Int)(h: -9223372036854775808<=n/\n<=9223372036854775807):Fn 178 [] [.int .i64 n] (.int .u64 (n.natAbs:Int)) []:=by
 refine fnT hT hmx Tryz.func178 rfl rfl (ex:= []) ?_;conv=>whnf
 refine brI (fun hb=>?_) (fun hb=>?_)
 .conv=>whnf
  simp at hb;refine⟨ai0 ?_,lh0⟩;rcases Decidable.em (n= -9223372036854775808)with e|e
  .subst e;rfl
  .rw[wI O,wU O];omega
 .conv=>whnf
  simp at hb;refine⟨ai0 ?_,lh0⟩;rw[wU O];omega
theorem f104(a b:Nat)(ha:a<18446744073709551616)(hb:b<18446744073709551616):Fn 177 [] [.int .u64 a,.int .u64 b] (.int .u64 (q1 a b:Int)) []:=by
 refine fnT hT hmx Tryz.func177 rfl rfl (ex:= []) ?_;conv=>whnf
 refine⟨Nat×Nat,fun x=>q1 x.1 x.2=q1 a b/\x.1<18446744073709551616/\x.2<18446744073709551616,fun x=> [(0,.int .u64 x.1),(1,.int .u64 x.2)],fun _=> [],fun x=>x.2,(a,b),⟨rfl,ha,hb⟩,?_,fun x hx=>?_⟩
 ·((conv=>whnf);refine⟨?_,lh0⟩;repeat' first|exact ln0|exact la0|exact lr rfl|refine lc ?_ ?_)
 .obtain⟨hg,h1,h2⟩:=hx;refine gYe ?_;refine brI (fun hb=>?_) (fun hb=>?_)
  .conv=>whnf
   simp at hb;refine⟨O,?_⟩;conv=>whnf
   refine gYd ?_;refine⟨(x.2,x.1 % x.2),⟨?_,h2,?_⟩,?_,?_⟩
   .rw[<-hg];show q1 x.2 (x.1 % x.2)=_;rw[q2 x.1 x.2,q2 x.2 (x.1 % x.2)];exact(qA _ _).symm
   .have:=q3 x.1 (q0 hb);omega
   .exact q3 x.1 (q0 hb)
   ·((conv=>whnf);refine⟨?_,lh0⟩;repeat' first|exact ln0|exact la0|exact lr rfl|refine lc ?_ ?_)
  .conv=>whnf
   simp at hb;refine⟨ai0 ?_,lh0⟩;rw[<-hg,hb,q4]
theorem f155(a b:Nat)(ha:a<18446744073709551616)(hb:b<18446744073709551616):Fn 152 [] [.int .u64 a,.int .u64 b] (.int .u64 (q1 a b:Int)) []:=by
 refine fnT hT hmx Tryz.func152 rfl rfl (ex:= []) ?_;conv=>whnf
 refine⟨Nat×Nat,fun x=>q1 x.1 x.2=q1 a b/\x.1<18446744073709551616/\x.2<18446744073709551616,fun x=> [(0,.int .u64 x.1),(1,.int .u64 x.2)],fun _=> [],fun x=>x.2,(a,b),⟨rfl,ha,hb⟩,?_,fun x hx=>?_⟩
 ·((conv=>whnf);refine⟨?_,lh0⟩;repeat' first|exact ln0|exact la0|exact lr rfl|refine lc ?_ ?_)
 .obtain⟨hg,h1,h2⟩:=hx;refine gYe ?_;refine brI (fun hb=>?_) (fun hb=>?_)
  .conv=>whnf
   simp at hb;refine⟨O,?_⟩;conv=>whnf
   refine gYd ?_;refine⟨(x.2,x.1 % x.2),⟨?_,h2,?_⟩,?_,?_⟩
   .rw[<-hg];show q1 x.2 (x.1 % x.2)=_;rw[q2 x.1 x.2,q2 x.2 (x.1 % x.2)];exact(qA _ _).symm
   .have:=q3 x.1 (q0 hb);omega
   .exact q3 x.1 (q0 hb)
   ·((conv=>whnf);refine⟨?_,lh0⟩;repeat' first|exact ln0|exact la0|exact lr rfl|refine lc ?_ ?_)
  .conv=>whnf
   simp at hb;refine⟨ai0 ?_,lh0⟩;rw[<-hg,hb,q4]
theorem f156(n:Int)(h: -9223372036854775808<=n/\n<=9223372036854775807):Fn 140 [] [.int .i64 n] (.int .u64 (n.natAbs:Int)) []:=by
 refine fnT hT hmx Tryz.func140 rfl rfl (ex:= []) ?_;conv=>whnf
 refine brI (fun hb=>?_) (fun hb=>?_)
 .conv=>whnf
  simp at hb;refine⟨ai0 ?_,lh0⟩;rw[wI (x:=n+1) O,wI O,wU (x:=0-(n+1)) O,wU O];omega
 .conv=>whnf
  simp at hb;refine⟨ai0 ?_,lh0⟩;rw[wU O];omega
def rIn(r:Rt):Prop:=1<=r.d/\r.d<=1073741824/\ -1073741824<=r.n/\r.n<=1073741824
instance (r:Rt):Decidable (rIn r):=by unfold rIn;infer_instance
def rOk(r:Rt):Bool:=decide (rIn r)&&(q1 r.n.natAbs r.d.natAbs==1)
theorem zfg{r:Rt}(h:¬rIn r):false=rOk r:=by simp[rOk,h]
theorem f54(n d:Int):Fn 110 [] [.agg [.int .i64 n,.int .i64 d]] (.bool (rOk ⟨n,d⟩)) []:=by
 refine fnT hT hmx Tryz.func110 rfl rfl (ex:= []) ?_;conv=>whnf
 refine brI (fun h1=>?_) (fun h1=>?_)
 .conv=>whnf
  refine brI (fun h2=>?_) (fun h2=>?_)
  .conv=>whnf
   refine brI (fun h3=>?_) (fun h3=>?_)
   .conv=>whnf
    refine brI (fun h4=>?_) (fun h4=>?_)
    .conv=>whnf
     simp only[Z4]at h1 h2 h3 h4;refine gYn (f105 n O) ?_;refine gYn (f105 d O) ?_;refine gYn (f104 n.natAbs d.natAbs O O) ?_;refine gYd ?_;refine⟨ab0 ?_,lh0⟩;have:rIn ⟨n,d⟩:=⟨h1,h2,h3,h4⟩;simp only[rOk,this,decide_true,Bool.true_and];rw[Bool.eq_iff_iff];simp;omega
    .conv=>whnf
     refine gYd ?_;exact⟨ab0 (zfg fun h=>by simp[rIn]at h h4;omega),lh0⟩
   .conv=>whnf
    refine gYd ?_;exact⟨ab0 (zfg fun h=>by simp[rIn]at h h3;omega),lh0⟩
  .conv=>whnf
   refine gYd ?_;exact⟨ab0 (zfg fun h=>by simp[rIn]at h h2;omega),lh0⟩
 .conv=>whnf
  refine gYd ?_;exact⟨ab0 (zfg fun h=>by simp[rIn]at h h1;omega),lh0⟩
theorem zok{r:Rt}(h:rOk r=true):rIn r:=by simp[rOk]at h;exact h.1
theorem f155'(a:Nat)(d:Int)(ha:a<18446744073709551616)(hb:0<=d/\d<18446744073709551616):Fn 152 [] [.int .u64 a,.int .u64 (IntKind.u64.wrap d)] (.int .u64 (q1 a d.natAbs:Int)) []:=by
 have h:=f155 a d.natAbs ha O
 rwa [show((d.natAbs:Nat):Int)=IntKind.u64.wrap d by rw[wU O];omega]at h
theorem f131(n d:Int):Fn 79 [] [.agg [.int .i64 n,.int .i64 d]] (.bool (rOk ⟨n,d⟩)) []:=by
 refine fnT hT hmx Tryz.func79 rfl rfl (ex:= []) ?_;conv=>whnf
 refine brI (fun h1=>?_) (fun h1=>?_)
 .conv=>whnf
  refine brI (fun h2=>?_) (fun h2=>?_)
  .conv=>whnf
   refine brI (fun h3=>?_) (fun h3=>?_)
   .conv=>whnf
    refine brI (fun h4=>?_) (fun h4=>?_)
    .conv=>whnf
     simp only[Z4]at h1 h2 h3 h4;refine gYn (f156 n O) ?_;refine gYn (f155' n.natAbs d O O) ?_;refine gYd ?_;refine⟨ab0 ?_,lh0⟩;have:rIn ⟨n,d⟩:=⟨h1,h2,h3,h4⟩;simp only[rOk,this,decide_true,Bool.true_and];rw[Bool.eq_iff_iff];simp;omega
    .conv=>whnf
     refine gYd ?_;exact⟨ab0 (zfg fun h=>by simp[rIn]at h h4;omega),lh0⟩
   .conv=>whnf
    refine gYd ?_;exact⟨ab0 (zfg fun h=>by simp[rIn]at h h3;omega),lh0⟩
  .conv=>whnf
   refine gYd ?_;exact⟨ab0 (zfg fun h=>by simp[rIn]at h h2;omega),lh0⟩
 .conv=>whnf
  refine gYd ?_;exact⟨ab0 (zfg fun h=>by simp[rIn]at h h1;omega),lh0⟩
set_option maxHeartbeats 4000000
set_option maxHeartbeats 8000000
theorem qh{α:Type}{l:List α}{i:Nat}{x:α}(h:l[i]? =some x):l.drop i=x::l.drop (i+1):=by
 obtain⟨hi,hx⟩:=List.getElem?_eq_some_iff.1 h;rw[<-hx];exact List.drop_eq_getElem_cons hi
def ixP{α:Type}(p:α->Bool):List α->Nat->Int
 | [],_=> -1
 |x::l,i=>if p x then i else ixP p l (i+1)
theorem zgt{α:Type}(p:α->Bool):∀(l:List α)(i:Nat),0<=ixP p l i<->l.any p=true
 | [],i=>by simp[ixP]
 |x::l,i=>by
  have ih:=zgt p l (i+1);by_cases h:p x=true
  .simp[ixP,h]
  .simp only[ixP,Z7 h,ih,List.any_cons];simp[h]
theorem cbI{Pc K:List Blk->AV->Prop}(bs:List Blk)(b:Bool)(hc:Pc bs (.bool b))(h1:b=true->K bs (.bool true))(h2:b=false->K bs (.bool false)):∃bs' r,Pc bs' r/\K bs' r:=by
 cases b
 .exact⟨bs,_,hc,h2 rfl⟩
 .exact⟨bs,_,hc,h1 rfl⟩
end Go.Proofs.YtlbmkjbgfkgcmaaGreatDoor

namespace Go.Sx
open Go
theorem zh8.arg{P:Program}{f:Nat}{H:Hp}{A A':List AV}{r:AV}{H':Hp}(h:zh8 P f H A r H')(ha:∀(ρ:Env)(vs:List Value),Rs ρ A' vs->Rs ρ A vs):zh8 P f H A' r H':=
 ⟨h.1,fun w M pt ow S vs hc hk hv=>h.2 w M pt ow S vs hc hk (ha _ _ hv)⟩
end Go.Sx
namespace Go.Proofs.YtlbmkjbgfkgcmaaGreatDoor
open Go Go.Sx
theorem qge{ρ:Env}{k:Elt}{v:Value}(h:R ρ .nilsl v):R ρ (.sl k []) v:=by
 obtain rfl:v=.slice none 0 0:=h;exact .sl k [] none 0 0 0 0 rfl (Nat.le_refl _) OA (fun h=>absurd rfl h) (fun i x h=>by simp at h)
