/- The seat's type table; how a contract is proved. -/
import Derived.Test.YtbolipecnhlnnaaGreatDoorLZz
import Derived.Test.YtbolipecnhlnnaaGreatDoorChecked
import Derived.Laws.Externs
import Derived.Tactics
set_option linter.all false
namespace Go.Proofs.YtbolipecnhlnnaaGreatDoor
open Go Go.Sx
def Ty:List (Nat×TI):= [
 (3,⟨1,1,[],0,0,0,some .int,.i64,[.int .i64 0],8,false⟩),
 (26,⟨2,3,[(0,1,false),(1,1,false),(2,1,false)],0,0,0,some .dy,.i64,[.bool false,.nilsl,.int .i64 0],40,false⟩),
 (28,⟨2,7,[(0,3,true),(3,3,true),(6,1,false)],0,0,0,some .iv,.i64,[.bool false,.nilsl,.int .i64 0,.bool false,.nilsl,.int .i64 0,.bool false],88,false⟩),
 (24,⟨3,1,[],108,1,0,some .ls,.i64,[.nilsl],24,false⟩),
 (4,⟨6,1,[],0,0,0,some .bool,.i64,[.bool false],1,false⟩),
 (23,⟨3,1,[],28,7,0,some .vs,.i64,[.nilsl],24,false⟩),
 (108,⟨1,1,[],0,0,0,some .u32,.u32,[.int .u32 0],4,false⟩),
 (143,⟨1,1,[],0,0,0,none,.u64,[.int .u64 0],8,false⟩),
 (215,⟨2,2,[(0,1,false),(1,1,false)],0,0,0,none,.i64,[.bool false,.nilsl],32,false⟩),
 (63,⟨2,6,[(0,1,false),(1,2,true),(3,1,false),(4,1,false),(5,1,false)],0,0,0,some .ex,.i64,[.int .i64 0,.int .i64 0,.int .i64 0,.str [],.int .i64 0,.nilsl],72,false⟩),
 (22,⟨3,1,[],23,1,0,none,.i64,[.nilsl],24,false⟩),
 (9,⟨5,1,[],0,0,0,some .str,.i64,[.str []],16,false⟩),
 (60,⟨2,2,[(0,1,false),(1,1,false)],0,0,0,some .rat,.i64,[.int .i64 0,.int .i64 0],16,true⟩),
 (64,⟨3,1,[],9,1,0,none,.i64,[.nilsl],24,false⟩),
 (61,⟨3,1,[],63,6,0,none,.i64,[.nilsl],24,false⟩),
 (160,⟨2,1,[(0,1,false)],0,0,0,none,.i64,[.int .i64 0],8,true⟩),
 (88,⟨2,2,[(0,1,false),(1,1,false)],0,0,0,none,.i64,[.nilsl,.nilsl],48,false⟩),
 (32,⟨1,1,[],0,0,0,none,.i64,[.int .i64 0],8,false⟩),
 (5,⟨1,1,[],0,0,0,none,.u8,[.int .u8 0],1,false⟩),
 (209,⟨2,3,[(0,1,false),(1,1,false),(2,1,false)],0,0,0,none,.i64,[.nilsl,.int .i64 0,.bool false],40,false⟩),
 (163,⟨4,6,[],26,3,2,some .dd,.i64,[.bool false,.nilsl,.int .i64 0,.bool false,.nilsl,.int .i64 0],80,false⟩),
 (273,⟨1,1,[],0,0,0,none,.u64,[.int .u64 0],8,false⟩),
 (42,⟨3,1,[],26,3,0,none,.i64,[.nilsl],24,false⟩),
 (231,⟨4,4,[],60,2,2,none,.i64,[.int .i64 0,.int .i64 0,.int .i64 0,.int .i64 0],32,false⟩),
 (37,⟨1,1,[],0,0,0,none,.u64,[.int .u64 0],8,false⟩),
 (281,⟨3,1,[],24,1,0,none,.i64,[.nilsl],24,false⟩),
 (29,⟨1,1,[],0,0,0,none,.u16,[.int .u16 0],2,false⟩),
 (250,⟨3,1,[],163,6,0,none,.i64,[.nilsl],24,false⟩),
 (68,⟨8,1,[],0,0,0,none,.i64,[.nilf],8,false⟩),
 (118,⟨3,1,[],60,2,0,none,.i64,[.nilsl],24,false⟩),
 (164,⟨4,24,[],163,6,4,none,.i64,[.bool false,.nilsl,.int .i64 0,.bool false,.nilsl,.int .i64 0,.bool false,.nilsl,.int .i64 0,.bool false,.nilsl,.int .i64 0,.bool false,.nilsl,.int .i64 0,.bool false,.nilsl,.int .i64 0,.bool false,.nilsl,.int .i64 0,.bool false,.nilsl,.int .i64 0],320,false⟩),
 (171,⟨9,1,[],9,0,60,none,.i64,[.nilm],8,false⟩),
 (67,⟨8,1,[],0,0,0,none,.i64,[.nilf],8,false⟩),
 (119,⟨9,1,[],9,0,28,none,.i64,[.nilm],8,false⟩),
 (180,⟨4,14,[],28,7,2,none,.i64,[.bool false,.nilsl,.int .i64 0,.bool false,.nilsl,.int .i64 0,.bool false,.bool false,.nilsl,.int .i64 0,.bool false,.nilsl,.int .i64 0,.bool false],176,false⟩),
 (179,⟨7,1,[],3,0,0,none,.i64,[.nilp],8,false⟩),
 (284,⟨4,32,[],5,1,32,none,.i64,[.int .u8 0,.int .u8 0,.int .u8 0,.int .u8 0,.int .u8 0,.int .u8 0,.int .u8 0,.int .u8 0,.int .u8 0,.int .u8 0,.int .u8 0,.int .u8 0,.int .u8 0,.int .u8 0,.int .u8 0,.int .u8 0,.int .u8 0,.int .u8 0,.int .u8 0,.int .u8 0,.int .u8 0,.int .u8 0,.int .u8 0,.int .u8 0,.int .u8 0,.int .u8 0,.int .u8 0,.int .u8 0,.int .u8 0,.int .u8 0,.int .u8 0,.int .u8 0],32,false⟩),
 (129,⟨9,1,[],9,0,63,none,.i64,[.nilm],8,false⟩),
 (238,⟨1,1,[],0,0,0,none,.i64,[.int .i64 0],8,false⟩),
 (48,⟨8,1,[],0,0,0,none,.i64,[.nilf],8,false⟩)]
def T:Tab:= {ty:=Ty,of:= [111,112],nb:= [(110,1),(170,1),(112,1),(187,1)]}
theorem hmx:Tryz.prog.follows .mixedOrders =true:=Z
theorem hT:TabOK Tryz.prog T:=zfz Z Z
abbrev Fn(f:Nat)(H:Hp)(A:List AV)(r:AV)(H':Hp):Prop:=znk Tryz.prog f H A r H'
set_option maxRecDepth 100000
set_option maxHeartbeats 1000000
theorem cbI{Pc K:List Blk->AV->Prop}(bs:List Blk)(b:Bool)(hc:Pc bs (.bool b))(h1:b=true->K bs (.bool true))(h2:b=false->K bs (.bool false)):∃bs' r,Pc bs' r/\K bs' r:=by
 cases b
 .exact⟨bs,_,hc,h2 rfl⟩
 .exact⟨bs,_,hc,h1 rfl⟩
set_option maxHeartbeats 4000000
set_option maxHeartbeats 8000000
theorem zu{α:Type}{l:List α}{i:Nat}{x:α}(h:l[i]? =some x):l.drop i=x::l.drop (i+1):=by
 obtain⟨hi,hx⟩:=List.getElem?_eq_some_iff.1 h;rw[<-hx];exact List.drop_eq_getElem_cons hi
def ixP{α:Type}(p:α->Bool):List α->Nat->Int
 | [],_=> -1
 |x::l,i=>if p x then i else ixP p l (i+1)
theorem zb9{α:Type}(p:α->Bool):∀(l:List α)(i:Nat),0<=ixP p l i<->l.any p=true
 | [],i=>by simp[ixP]
 |x::l,i=>by
  have ih:=zb9 p l (i+1);by_cases h:p x=true
  .simp[ixP,h]
  .simp only[ixP,Z5 h,ih,List.any_cons];simp[h]
