/-
  The seat's type table; how a contract is proved.
-/
import Derived.Test.YtgehdbenidimlaaGreatDoorQZz
import Derived.Test.YtgehdbenidimlaaGreatDoorChecked
set_option linter.unusedVariables false
set_option linter.unusedSimpArgs false
namespace Go.Proofs.YtgehdbenidimlaaGreatDoor
open Go Go.Sx
def Ty:List (Nat×TI):= [
 (3,⟨1,1,[],0,0,0,some .int,.i64,[.int .i64 0],8,false⟩),
 (26,⟨2,3,[(0,1,false),(1,1,false),(2,1,false)],0,0,0,some .dy,.i64,[.bool false,.nilsl,.int .i64 0],40,false⟩),
 (28,⟨2,7,[(0,3,true),(3,3,true),(6,1,false)],0,0,0,some .iv,.i64,[.bool false,.nilsl,.int .i64 0,.bool false,.nilsl,.int .i64 0,.bool false],88,false⟩),
 (24,⟨3,1,[],104,1,0,some .ls,.i64,[.nilsl],24,false⟩),
 (23,⟨3,1,[],28,7,0,some .vs,.i64,[.nilsl],24,false⟩),
 (104,⟨1,1,[],0,0,0,some .u32,.u32,[.int .u32 0],4,false⟩),
 (22,⟨3,1,[],23,1,0,none,.i64,[.nilsl],24,false⟩),
 (4,⟨6,1,[],0,0,0,some .bool,.i64,[.bool false],1,false⟩),
 (107,⟨1,1,[],0,0,0,none,.u64,[.int .u64 0],8,false⟩),
 (67,⟨2,2,[(0,1,false),(1,1,false)],0,0,0,none,.i64,[.nilsl,.nilsl],48,false⟩),
 (36,⟨1,1,[],0,0,0,none,.i64,[.int .i64 0],8,false⟩),
 (143,⟨2,3,[(0,1,false),(1,1,false),(2,1,false)],0,0,0,none,.i64,[.nilsl,.int .i64 0,.bool false],40,false⟩),
 (118,⟨4,6,[],26,3,2,none,.i64,[.bool false,.nilsl,.int .i64 0,.bool false,.nilsl,.int .i64 0],80,false⟩),
 (29,⟨8,1,[],0,0,0,none,.i64,[.nilf],8,false⟩),
 (42,⟨1,1,[],0,0,0,none,.u16,[.int .u16 0],2,false⟩),
 (148,⟨3,1,[],118,6,0,none,.i64,[.nilsl],24,false⟩),
 (164,⟨3,1,[],24,1,0,none,.i64,[.nilsl],24,false⟩),
 (51,⟨1,1,[],0,0,0,none,.i8,[.int .i8 0],1,false⟩),
 (154,⟨3,1,[],26,3,0,none,.i64,[.nilsl],24,false⟩),
 (5,⟨1,1,[],0,0,0,none,.u8,[.int .u8 0],1,false⟩),
 (119,⟨4,24,[],118,6,4,none,.i64,[.bool false,.nilsl,.int .i64 0,.bool false,.nilsl,.int .i64 0,.bool false,.nilsl,.int .i64 0,.bool false,.nilsl,.int .i64 0,.bool false,.nilsl,.int .i64 0,.bool false,.nilsl,.int .i64 0,.bool false,.nilsl,.int .i64 0,.bool false,.nilsl,.int .i64 0],320,false⟩),
 (46,⟨1,1,[],0,0,0,none,.u64,[.int .u64 0],8,false⟩),
 (163,⟨4,32,[],5,1,32,none,.i64,[.int .u8 0,.int .u8 0,.int .u8 0,.int .u8 0,.int .u8 0,.int .u8 0,.int .u8 0,.int .u8 0,.int .u8 0,.int .u8 0,.int .u8 0,.int .u8 0,.int .u8 0,.int .u8 0,.int .u8 0,.int .u8 0,.int .u8 0,.int .u8 0,.int .u8 0,.int .u8 0,.int .u8 0,.int .u8 0,.int .u8 0,.int .u8 0,.int .u8 0,.int .u8 0,.int .u8 0,.int .u8 0,.int .u8 0,.int .u8 0,.int .u8 0,.int .u8 0],32,false⟩),
 (54,⟨8,1,[],0,0,0,none,.i64,[.nilf],8,false⟩),
 (9,⟨5,1,[],0,0,0,some .str,.i64,[.str []],16,false⟩)]
def T:Tab:= {ty:=Ty,of:= [],nb:= []}
theorem hmx:Tryz.prog.follows .mixedOrders =true:=by kernel_rfl
theorem hT:TabOK Tryz.prog T:=zf5 (by kernel_rfl) (by kernel_rfl)
abbrev Fn (f:Nat) (H:Hp) (A:List AV) (r:AV) (H':Hp):Prop:=zme Tryz.prog f H A r H'
set_option maxRecDepth 100000
set_option maxHeartbeats 1000000
end Go.Proofs.YtgehdbenidimlaaGreatDoor
