/-
  The symbolic execution: operations, regions, code. The contracts of callees stand behind a letter (C).
-/
import Derived.Test.YtgehdbenidimlaaGreatDoorQSxA
set_option linter.unusedVariables false
set_option linter.unusedSimpArgs false
namespace Go.Sx
open Go
abbrev Hp:=List (Nat×Blk)
abbrev CT:=Hp->List AV->AV->Hp->Prop
structure Con where
 fn:Nat->CT
 cb:Nat->CT
abbrev zx:Nat:=1999999
def zs6:List AV->Nat->Bool
 | [],0=>true
 | _::l,n+1=>zs6 l n
 | _,_=>false
def eqZ:List AV->List AV->List AV->(Bool->Prop)->Prop
 | [],[],[],k=>k true
 | .int .i64 _::z,.int .i64 a::l,.int .i64 b::m,k=>eqZ z l m fun r=>k (a==b&&r)
 | .str _::z,.str a::l,.str b::m,k=>eqZ z l m fun r=>k (a==b&&r)
 | .bool _::z,.bool a::l,.bool b::m,k=>eqZ z l m fun r=>k (a==b&&r)
 | _,_,_,_=>False
def qa4 (o:BinOp) (k:IntKind) (a b:Int) (E:AV->Prop):Prop:=
 match o with
 | .add =>E (.int k (k.wrap (a+b)))
 | .sub =>E (.int k (k.wrap (a-b)))
 | .mul =>E (.int k (k.wrap (a*b)))
 | .quo =>b≠0/\E (.int k (k.wrap (a.tdiv b)))
 | .rem =>b≠0/\E (.int k (a.tmod b))
 | .and =>E (.int k (k.wrap (BitVec.ofInt k.bits a&&& BitVec.ofInt k.bits b).toNat))
 | .or =>E (.int k (k.wrap (BitVec.ofInt k.bits a|||BitVec.ofInt k.bits b).toNat))
 | .xor =>E (.int k (k.wrap (BitVec.ofInt k.bits a^^^BitVec.ofInt k.bits b).toNat))
 | .andNot =>E (.int k (k.wrap (BitVec.ofInt k.bits a&&& ~~~BitVec.ofInt k.bits b).toNat))
 | .eql =>E (.bool (a==b))
 | .neq =>E (.bool (a != b))
 | .lss =>E (.bool (a<b))
 | .leq =>E (.bool (a<=b))
 | .gtr =>E (.bool (a>b))
 | .geq =>E (.bool (a≥b))
 | .shl =>0<=b/\E (.int k (k.wrap (a*2^min b.toNat k.bits)))
 | .shr =>0<=b/\E (.int k (a.fdiv (2^min b.toNat k.bits)))
def strB (o:BinOp) (a b:zd1) (E:AV->Prop):Prop:=
 match o with
 | .add =>a.length+b.length<=140737488355328/\E (.str (a++b))
 | .eql =>E (.bool (a==b))
 | .neq =>E (.bool !(a==b))
 | .lss =>E (.bool (Op.bytesLess a b))
 | .leq =>E (.bool (Op.bytesLess a b||a==b))
 | .gtr =>E (.bool !(Op.bytesLess a b||a==b))
 | .geq =>E (.bool !Op.bytesLess a b)
 | _=>False
def znf:IntKind->IntKind->Bool
 | .i8,.i8 =>true| .i16,.i16 =>true| .i32,.i32 =>true| .i64,.i64 =>true
 | .u8,.u8 =>true| .u16,.u16 =>true| .u32,.u32 =>true| .u64,.u64 =>true
 | _,_=>false
def qbw (i:TI) (o:BinOp) (x y:AV) (E:AV->Prop):Prop:=
 match x,y with
 | .int k a,.int k' b=>match o with
   | .shl =>qa4 .shl k a b E
   | .shr =>qa4 .shr k a b E
   |o=>match znf k k' with
    |true=>qa4 o k a b E
    |false=>False
 | .str a,.str b=>strB o a b E
 | .bool a,.bool b=>match Nat.beq i.cls 6,o with
   |true,.eql =>E (.bool (a==b))
   |true,.neq =>E (.bool !(a==b))
   | _,_=>False
 | .sl _ xs,.nilsl =>match Nat.beq i.cls 3,o with
   |true,.eql =>E (.ub (xs= []) True)
   |true,.neq =>E (.ub True (xs= []))
   | _,_=>False
 | .agg l,.agg m=>match i.eq with
   |true=>match o with
    | .eql =>eqZ i.z l m fun r=>E (.bool r)
    | .neq =>eqZ i.z l m fun r=>E (.bool !r)
    | _=>False
   |false=>False
 | _,_=>False
def cut:List AV->Nat->Nat->(List AV->Prop)->Prop
 | _,0,0,k=>k []
 |a::l,0,n+1,k=>cut l 0 n fun r=>k (a::r)
 | [],0,_+1,_=>False
 | _::l,off+1,n,k=>cut l off n k
 | [],_+1,_,_=>False
def lay:List AV->Nat->List AV->(List AV->Prop)->Prop
 |l,0,[],k=>k l
 | _::l,0,b::m,k=>lay l 0 m fun r=>k (b::r)
 | [],0,_::_,_=>False
 |a::l,off+1,m,k=>lay l off m fun r=>k (a::r)
 | [],_+1,_,_=>False
def ldK (i:TI) (l:List AV) (off:Nat) (E:AV->Prop):Prop:=
 match i.agg with
 |true=>cut l off i.sz fun r=>E (.agg r)
 |false=>cut l off 1 fun r=>match r with
  | [a]=>E a
  | _=>False
def zb5:List (Nat×Nat×Bool)->Nat->(Nat->Nat->Bool->Prop)->Prop
 |(o,s,a)::_,0,k=>k o s a
 | _::r,f+1,k=>zb5 r f k
 | [],_,_=>False
def zp4 (l:List AV) (o s:Nat) (a:Bool) (E:AV->Prop):Prop:=
 match a with
 |true=>cut l o s fun r=>E (.agg r)
 |false=>cut l o 1 fun r=>match r with
  | [x]=>E x
  | _=>False
def zlr (fs:List (Nat×Nat×Bool)):List (Nat×AV)->List AV->(List AV->Prop)->Prop
 | [],z,k=>k z
 |(f,v)::r,z,k=>zb5 fs f fun o s _=>match zs6 v.cs s,zd9 v.cs with
  |true,true=>lay z o v.cs fun z=>zlr fs r z k
  | _,_=>False
def zlt (s:Nat):List (Nat×AV)->List AV->(List AV->Prop)->Prop
 | [],z,k=>k z
 |(f,v)::r,z,k=>match zs6 v.cs s,zd9 v.cs with
  |true,true=>lay z (f*s) v.cs fun z=>zlt s r z k
  | _,_=>False
def zjq:Nat->List (Nat×Operand)->Bool
 | _,[]=>true
 |n,(i,_)::r=>match Nat.beq n i with
  |true=>zjq (n+1) r
  |false=>false
def kEq:Elt->Elt->Bool
 | .ex,.ex =>true| .str,.str =>true| .int,.int =>true| .rat,.rat =>true| .op,.op =>true| .eqn,.eqn =>true| .ex2,.ex2 =>true| .bool,.bool =>true| .u32,.u32 =>true| .ls,.ls =>true| .dy,.dy =>true| .iv,.iv =>true| .ki,.ki =>true| .vs,.vs =>true
 | _,_=>false
def alt (id dst:Nat):Nat:=match Nat.beq id dst with
 |true=>dst+100000
 |false=>match Nat.ble id 999999 with
  |true=>dst
  |false=>dst+1500000
def yn (ρ:Operand->AV):List Operand->List AV
 | []=> []
 |x::r=>ρ x::yn ρ r
def zqn (ρ:Operand->AV):List (Nat×Operand)->List (Nat×AV)
 | []=> []
 |(i,x)::r=>(i,ρ x)::zqn ρ r
def zmf (ρ:Operand->AV):List (Nat×Operand)->List AV
 | []=> []
 |(_,x)::r=>ρ x::zmf ρ r
def vw:List Nat->List Blk->Hp
 |i::is,b::bs=>(i,b)::vw is bs
 | _,_=> []
def zbx:List Nat->List Blk->Bool
 | [],[]=>true
 | _::is,_::bs=>zbx is bs
 | _,_=>false
def pid:AV->List Nat
 | .ptr id _=> [id]
 | .opt id _ _ _=> [id]
 | _=> []
def mid:AV->List Nat
 | .mp id=> [id]
 | _=> []
def zm:Nat->Nat->List Nat
 |0,_=> []
 |n+1,d=>d::zm n (d+100000)
def qg (h:Hp):List Nat->List Blk
 | []=> []
 |i::is=>hget h i::qg h is
def zqa:List Blk->List Nat
 | []=> []
 |b::r=>match b with
  | .cells l=>jv l++zqa r
  | _=>zqa r
def zaz (h:Hp) (l:List Nat):List Nat:=nub (l++zqa (qg h l))
def glL (T:Tab) (g:Nat) (l:List Nat):List Nat:=match ze2 g T.gl with
 |true=>zx::l
 |false=>l
theorem qas {T:Tab} {g:Nat} {l:List Nat} {i:Nat} (h:i∈l):i∈glL T g l:=by
 unfold glL;split
 ·exact List.mem_cons_of_mem _ h
 ·exact h
def qev (T:Tab):Option Operand->Bool
 |some (.tmp q)=>ze2 q T.wn
 | _=>false
def yx (T:Tab) (op:Op) (dst:Nat) (ρ:Operand->AV) (hp:Hp):List Nat:=
 match op with
 | .alloc _=> [dst]
 | .box _ _=> [dst]
 | .load _ p=>pid (ρ p)
 | .store _ p _=>pid (ρ p)
 | .indexAddr _ x _=>match ρ x with
   | .own id=> [id]
   | _=> []
 | .buildSlice _ 0 _=> [dst]
 | .makeSlice _ _ _=> [dst]
 | .makeMap _ _=> [dst]
 | .slice _ x _ hi _=>match qev T hi with
   |true=>match ρ x with
    | .own id=> [id]
    | _=> []
   |false=> []
 | .lookup _ x _ _=>mid (ρ x)
 | .mapUpdate _ x _ _=>mid (ρ x)
 | .insert _ x _ _=>mid (ρ x)
 | .call c=>match c.callee with
   | .builtin .len =>match c.args.toList with
     | [x]=>match ρ x with
       | .own id=> [id]
       | .mp id=> [id]
       | _=> []
     | _=> []
   | .builtin .append =>match c.args.toList with
     | [x,_]=>match ρ x with
       | .own id=> [id,alt id dst]
       | _=> [dst]
     | _=> []
   | .value f=>match ρ f with
     | .fn g caps=>match qch T g with
       |0=>zaz hp (zaz hp (nub (glL T g (jv (yn ρ c.args.toList)++jv caps))))
       |n+1=>dst::(zm n (dst+100000)++zaz hp (zaz hp (nub (glL T g (jv (yn ρ c.args.toList)++jv caps)))))
     | .cb _=>nub (zx::wb (yn ρ c.args.toList))
     | _=> []
   | _=> []
 | _=> []
def wr:Op->Bool
 | .alloc _=>true
 | .box _ _=>true
 | .store _ _ _=>true
 | .buildSlice _ 0 _=>true
 | .makeSlice _ _ _=>true
 | .makeMap _ _=>true
 | .mapUpdate _ _ _ _=>true
 | .insert _ _ _ _=>true
 | .call c=>match c.callee with
   | .builtin .append =>true
   | .value _=>true
   | _=>false
 | _=>false
def uq:List Blk->Bool
 | []=>true
 | .free ::_=>false
 | _::l=>uq l
def ltB:List Nat->Bool
 | []=>true
 |i::l=>match Nat.blt i 2000000 with
  |true=>ltB l
  |false=>false
def app (c:CT) (A:List AV) (ids:List Nat) (bs:List Blk) (E:AV->List Blk->Prop):Prop:=
 ∃(bs':List Blk) (r:AV),c (vw ids bs) A r (vw ids bs')/\
  (match zbx ids bs',zvc r.ids ids,zvc (zd3 (vw ids bs')) ids,uq bs',ltB ids with
   |true,true,true,true,true=>E r bs'
   | _,_,_,_,_=>False)
def zlz:Nat->List Blk->(List Blk->Prop)->Prop
 |0,bs,K=>K bs
 |n+1,.free ::bs,K=>zlz n bs K
 | _,_,_=>False
def ze8:Nat->List Nat->List Nat
 |0,l=>l
 |n+1,_::l=>ze8 n l
 | _+1,[]=> []
def zbq:Nat->Nat->List Nat
 |0,_=> []
 |n+1,j=>j::zbq n (j+1)
def zl6:Hp->Hp->Hp
 | [],h=>h
 |x::r,h=>x::zl6 r h
def catB:List Blk->List Blk->List Blk
 | [],h=>h
 |x::r,h=>x::catB r h
def qfn:List Nat->List Nat->List Nat
 | [],h=>h
 |x::r,h=>x::qfn r h
def mvI (d:Nat) (i:Nat):Nat:=match Nat.ble 2000000 i with
 |true=>d+100000*(i-2000000)
 |false=>i
def zv5:List Nat->Bool
 | []=>true
 |i::l=>match Nat.ble i 999999 with
  |true=>zv5 l
  |false=>false
def appN (c:CT) (n dst:Nat) (A:List AV) (ids:List Nat) (bs:List Blk) (E:AV->List Blk->Prop):Prop:=
 zlz n bs fun bs=> ∃(bs' nbs:List Blk) (r:AV),c (vw (ze8 n ids) bs) A r (zl6 (vw (ze8 n ids) bs') (vw (zbq n 2000000) nbs))/\
  (match zbx (ze8 n ids) bs',zbx (zbq n 2000000) nbs,zvc r.ids (qfn (ze8 n ids) (zbq n 2000000)),zvc (zd3 (zl6 (vw (ze8 n ids) bs') (vw (zbq n 2000000) nbs))) (qfn (ze8 n ids) (zbq n 2000000)),uq bs',uq nbs,
    zd4 (zm n dst) (ze8 n ids),ltB (ze8 n ids),Nat.ble n 9,zv5 (ze8 n ids)with
   |true,true,true,true,true,true,true,true,true,true=>E (r.mapI (mvI dst)) (catB (qeb (mvI dst) nbs) (qeb (mvI dst) bs'))
   | _,_,_,_,_,_,_,_,_,_=>False)
def zk8 (i:TI) (x:AV) (bs:List Blk) (E:AV->List Blk->Prop):Prop:=
 match x with
 | .str s=>match Nat.beq i.cls 5 with
   |true=>E (.int .i64 s.length) []
   |false=>False
 | .sl _ xs=>match Nat.beq i.cls 3 with
   |true=>E (.int .i64 xs.length) []
   |false=>False
 | .nilsl =>match Nat.beq i.cls 3 with
   |true=>E (.int .i64 0) []
   |false=>False
 | .ow _ _ _ n=>match Nat.beq i.cls 3 with
   |true=>E (.int .i64 n) []
   |false=>False
 | .own _=>match Nat.beq i.cls 3,bs with
   |true,[.buf _ _ xs]=>E (.int .i64 xs.length) []
   | _,_=>False
 | _=>False
def isMp:AV->Bool
 | .mp _=>true
 | _=>false
def zp7 (bs:List Blk) (E:AV->List Blk->Prop):Prop:=match bs with
 | [.map _ _ es]=>E (.int .i64 es.length) []
 | _=>False
def zxi (T:Tab) (i:TI) (dst:Nat) (s x:AV) (bs:List Blk) (E:AV->List Blk->Prop):Prop:=
 match i with
 |⟨3,_,_,e,esz,_,_,_,_,_,_⟩=>tgK T e fun j=>match j with
  |⟨_,sz,_,_,_,_,some k,_,_,bytes,_⟩=>match Nat.beq esz k.size,Nat.beq sz k.size,Nat.ble 1 bytes with
   |true,true,true=>match s,bs with
    | .nilsl,[.free]=>zz3 k x fun ys=>ys.length*bytes<=140737488355328/\E (.own dst) [.buf e k ys]
    | .own id,[.buf e' k' xs,.free]=>match Nat.beq e e',kEq k k',Nat.ble id 1999998 with
      |true,true,true=>zz3 k' x fun ys=>(xs.length+ys.length)*bytes<=140737488355328/\E (.own (alt id dst)) [.dead,.buf e' k' (xs++ys)]
      | _,_,_=>False
    | _,_=>False
   | _,_,_=>False
  | _=>False
 | _=>False
def vOk (v:TI) (vk:Elt):Bool:=match Nat.beq v.sz vk.size,v.agg,Nat.beq vk.size 1 with
 |true,true,false=>true
 |true,false,true=>true
 | _,_,_=>false
def aggA:AV->Bool
 | .agg _=>true
 | _=>false
def qcr (x:AV) (k:Elt):Bool:=match aggA x,Nat.beq k.size 1 with
 |true,false=>true
 |false,true=>true
 | _,_=>false
def zhm (T:Tab) (t:Nat) (K:Elt->Elt->TI->Prop):Prop:=
 tgK T t fun i=>match i with
 |⟨9,_,_,kt,_,vt,_,_,_,_,_⟩=>tgK T kt fun j=>match j with
  |⟨_,_,_,_,_,_,some kk,_,_,_,_⟩=>tgK T vt fun v=>match v.k with
   |some vk=>match vOk v vk with
    |true=>K kk vk v
    |false=>False
   |none=>False
  | _=>False
 | _=>False
def lkOp (T:Tab) (t:Nat) (x i:AV) (ok:Bool) (bs:List Blk) (E:AV->List Blk->Prop):Prop:=
 zhm T t fun kk vk v=>match x,bs with
 | .mp _,[.map kk' vk' es]=>match kEq kk kk',kEq vk vk',qcr i kk' with
   |true,true,true=>qu kk' i.cs fun key=>qu vk' v.z fun z=>ldK v (vk'.cells (qck kk' key z es)) 0 fun u=>match ok with
    |true=>E (.tup [u,.bool (qcj kk' key es)]) []
    |false=>E u []
   | _,_,_=>False
 | _,_=>False
def qd8 (T:Tab) (t:Nat) (m x y:AV) (bs:List Blk) (E:AV->List Blk->Prop):Prop:=
 zhm T t fun kk vk _=>match m,bs with
 | .mp _,[.map kk' vk' es]=>match kEq kk kk',kEq vk vk',qcr x kk',qcr y vk' with
   |true,true,true,true=>qu kk' x.cs fun key=>qu vk' y.cs fun u=>E .any [.map kk' vk' (qci kk' key u es)]
   | _,_,_,_=>False
 | _,_=>False
def resA:Option AV->Bool
 |none=>true
 |some (.int _ _)=>true
 | _=>false
def zbl (x:Option AV) (d:Int) (K:Int->Prop):Prop:=match x with
 |none=>K d
 |some (.int _ n)=>K n
 | _=>False
def qcb (i:TI) (x:AV) (lo hi mx:Option AV) (E:AV->List Blk->Prop):Prop:=
 match mx with
 |some y=>match x,y,hi with
  | .sl k xs,.int _ m,some (.int _ h)=>match Nat.beq i.cls 3,Nat.beq i.esz k.size with
    |true,true=>zbl lo 0 fun l=>(0<=l/\l<=h/\h<=m/\m<=xs.length)/\E (.sl k ((xs.take h.toNat).drop l.toNat)) []
    | _,_=>False
  | _,_,_=>False
 |none=>match x with
  | .sl k xs=>match Nat.beq i.cls 3,Nat.beq i.esz k.size with
    |true,true=>zbl lo 0 fun l=>zbl hi xs.length fun h=>(0<=l/\l<=h/\h<=xs.length)/\E (.sl k ((xs.take h.toNat).drop l.toNat)) []
    | _,_=>False
  | .str s=>match Nat.beq i.cls 5 with
    |true=>zbl lo 0 fun l=>zbl hi s.length fun h=>(0<=l/\l<=h/\h<=s.length)/\E (.str ((s.take h.toNat).drop l.toNat)) []
    | _=>False
  | .nilsl =>match Nat.beq i.cls 3 with
    |true=>zbl lo 0 fun l=>zbl hi 0 fun h=>(l=0/\h=0)/\E .nilsl []
    | _=>False
  | _=>False
def qk (T:Tab) (C:Con) (op:Op) (dst:Nat) (ρ:Operand->AV) (ids:List Nat) (bs:List Blk) (E:AV->List Blk->Prop):Prop:=
 match op with
 | .move x=>E (ρ x) []
 | .assign x=>E (ρ x) []
 | .pick c a b=>match ρ c with
   | .bool t=> @Bool.rec (fun _=>Prop) (E (ρ b) []) (E (ρ a) []) t
   | _=>False
 | .alloc t=>match bs with
   | [.free]=>tgK T t fun i=>match i with
     |⟨_,_,_,_,_,_,_,_,z,_,_⟩=>E (.ptr dst 0) [.cells z]
   | _=>False
 | .box _ x=>match bs,zd9 (ρ x).cs with
   | [.free],true=>E (.ptr dst 0) [.cells (ρ x).cs]
   | _,_=>False
 | .build t parts=>tgK T t fun i=>match i with
   |⟨2,_,fs,_,_,_,_,_,z,_,_⟩=>zlr fs (zqn ρ parts.toList) z fun l=>E (.agg l) []
   |⟨4,_,_,_,esz,_,_,_,z,_,_⟩=>zlt esz (zqn ρ parts.toList) z fun l=>E (.agg l) []
   | _=>False
 | .buildSlice t n parts=>tgK T t fun i=>match i with
   |⟨3,_,_,e,esz,_,_,_,_,_,_⟩=>tgK T e fun j=>match j with
    |⟨_,sz,_,_,_,_,some k,_,_,_,_⟩=>match Nat.beq esz k.size,Nat.beq sz k.size with
     |true,true=>match n with
      |0=>match bs,parts.toList with
       | [.free],[]=>E (.own dst) [.buf e k []]
       | _,_=>False
      |n+1=>match zjq 0 parts.toList,Nat.beq parts.toList.length (n+1),Nat.ble ((n+1)*k.size) 1000 with
       |true,true,true=>zes k (zmf ρ parts.toList) fun xs=>E (.sl k xs) []
       | _,_,_=>False
     | _,_=>False
    | _=>False
   | _=>False
 | .makeSlice t l c=>tgK T t fun i=>match i with
   |⟨3,_,_,e,esz,_,_,_,_,_,_⟩=>tgK T e fun j=>match j with
    |⟨_,sz,_,_,_,_,some k,_,z,bytes,_⟩=>match Nat.beq esz k.size,Nat.beq sz k.size,Nat.ble 1 bytes,ρ l,ρ c,bs with
     |true,true,true,.int _ n,.int _ m,[.free]=>qu k z fun x=>(0<=n/\n<=m/\m*bytes<=140737488355328)/\E (.own dst) [.buf e k (List.replicate n.toNat x)]
     | _,_,_,_,_,_=>False
    | _=>False
   | _=>False
 | .load t p=>match ρ p with
   | .ptr _ off=>match bs with
     | [.cells l]=>tgK T t fun i=>ldK i l off fun v=>E v []
     | _=>False
   | .rp k x off=>tgK T t fun i=>ldK i (k.cells x) off fun v=>E v []
   | .opt _ sz j off=>match bs with
     | [.buf _ k xs]=>match Nat.beq sz k.size with
       |true=>j<xs.length/\ ∀x,xs[j]? =some x->tgK T t fun i=>ldK i (k.cells x) off fun v=>E v []
       |false=>False
     | _=>False
   | _=>False
 | .store t p v=>tgK T t fun i=>match zs6 (ρ v).cs i.sz,zd9 (ρ v).cs with
   |true,true=>match ρ p with
    | .ptr _ off=>match bs with
      | [.cells l]=>lay l off (ρ v).cs fun l=>E .any [.cells l]
      | _=>False
    | .opt _ sz j 0=>match bs with
      | [.buf e k xs]=>match Nat.beq sz k.size,Nat.beq i.sz k.size with
        |true,true=>qu k (ρ v).cs fun y=>j<xs.length/\E .any [.buf e k (xs.set j y)]
        | _,_=>False
      | _=>False
    | _=>False
   | _,_=>False
 | .nilCheck x=>match ρ x with
   | .ptr i o=>E (.ptr i o) []
   | .rp k y o=>E (.rp k y o) []
   | .opt i s j o=>E (.opt i s j o) []
   | _=>False
 | .binOp o t x y _=>tgK T t fun i=>qbw i o (ρ x) (ρ y) fun v=>E v []
 | .unOp o _ x=>match o,ρ x with
   | .not,.bool b=>E (.bool !b) []
   | .neg,.int k n=>E (.int k (k.wrap (0-n))) []
   | _,_=>False
 | .convert s d x=>tgK T s fun j=>tgK T d fun i=>match ρ x with
   | .int _ n=>match j,i with
     |⟨1,_,_,_,_,_,_,_,_,_,_⟩,⟨1,_,_,_,_,_,_,ik,_,_,_⟩=>E (.int ik (ik.wrap n)) []
     | _,_=>False
   | .str b=>match Nat.beq j.cls 5,Nat.beq i.cls 5 with
     |true,true=>E (.str b) []
     | _,_=>False
   | _=>False
 | .makeFunc f first caps=>match f,first.toList with
   | .func f,[]=>E (.fn f (yn ρ caps.toList)) []
   | _,_=>False
 | .fieldAddr t x f=>tgK T t fun i=>match i with
   |⟨2,_,fs,_,_,_,_,_,_,_,_⟩=>zb5 fs f fun o _ _=>match ρ x with
    | .ptr i off=>E (.ptr i (off+o)) []
    | .rp k y off=>E (.rp k y (off+o)) []
    | .opt i s j off=>E (.opt i s j (off+o)) []
    | _=>False
   | _=>False
 | .field t x f=>tgK T t fun i=>match i,ρ x with
   |⟨2,_,fs,_,_,_,_,_,_,_,_⟩,.agg l=>zb5 fs f fun o s a=>zp4 l o s a fun v=>E v []
   | _,_=>False
 | .indexAddr t x i=>tgK T t fun ti=>match ρ i with
   | .int _ n=>match ti with
     |⟨3,_,_,_,esz,_,_,_,_,_,_⟩=>match ρ x with
      | .sl k xs=>match Nat.beq esz k.size with
        |true=>(0<=n/\n<xs.length)/\ ∀x,xs[n.toNat]? =some x->E (.rp k x 0) []
        |false=>False
      | .own id=>match bs with
        | [.buf _ k xs]=>match Nat.beq esz k.size with
          |true=>(0<=n/\n<xs.length)/\E (.opt id esz n.toNat 0) []
          |false=>False
        | _=>False
      | .ow id sz j m=>match Nat.beq esz sz with
        |true=>(0<=n/\n<m)/\E (.opt id esz (j+n.toNat) 0) []
        |false=>False
      | _=>False
     |⟨4,_,_,_,esz,len,_,_,_,_,_⟩=>match ρ x with
      | .ptr j off=>(0<=n/\n<len)/\E (.ptr j (off+n.toNat*esz)) []
      | .rp k y off=>(0<=n/\n<len)/\E (.rp k y (off+n.toNat*esz)) []
      | _=>False
     | _=>False
   | _=>False
 | .index t x i=>tgK T t fun ti=>match Nat.beq ti.cls 5,ρ x,ρ i with
   |true,.str s,.int _ n=>(0<=n/\n<s.length)/\ ∀c,s[n.toNat]? =some c->E (.int .u8 c.toNat) []
   |false,.agg l,.int _ n=>match Nat.beq ti.cls 4 with
    |true=>tgK T ti.e fun tj=>(0<=n/\n<ti.len)/\zp4 l (n.toNat*ti.esz) tj.sz tj.agg fun v=>E v []
    |false=>False
   | _,_,_=>False
 | .extract x n=>match ρ x with
   | .tup l=>cut l n 1 fun r=>match r with
     | [a]=>E a []
     | _=>False
   | _=>False
 | .call c=>match c.callee with
   | .builtin .len =>match c.args.toList,c.argTypes.toList with
     | [x],[t]=>match isMp (ρ x)with
       |true=>zhm T t fun _ _ _=>zp7 bs E
       |false=>tgK T t fun i=>zk8 i (ρ x) bs E
     | _,_=>False
   | .builtin .append =>match c.args.toList,c.argTypes.toList with
     | [s,x],[t,t']=>match Nat.beq t t' with
       |true=>tgK T t fun i=>zxi T i dst (ρ s) (ρ x) bs E
       |false=>False
     | _,_=>False
   | .builtin .max =>match yn ρ c.args.toList with
     | [.int k a,.int _ b]=>E (.int k (if b>a then b else a)) []
     | [.int k a,.int _ b,.int _ d]=>E (.int k (if d>(if b>a then b else a)then d else if b>a then b else a)) []
     | _=>False
   | .builtin .min =>match yn ρ c.args.toList with
     | [.int k a,.int _ b]=>E (.int k (if b<a then b else a)) []
     | _=>False
   | .value f=>match ρ f with
     | .fn g caps=>match qch T g with
       |0=>zig (yn ρ c.args.toList++caps) fun A=>app (C.fn g) A ids bs E
       |n+1=>zig (yn ρ c.args.toList++caps) fun A=>appN (C.fn g) (n+1) dst A ids bs E
     | .cb l=>zig (yn ρ c.args.toList) fun A=>app (C.cb l) A ids bs E
     | _=>False
   | _=>False
 | .makeMap t r=>zhm T t fun kk vk _=>match bs,resA (r.map ρ)with
   | [.free],true=>E (.mp dst) [.map kk vk []]
   | _,_=>False
 | .lookup t x i ok=>lkOp T t (ρ x) (ρ i) ok bs E
 | .mapUpdate t m k v=>qd8 T t (ρ m) (ρ k) (ρ v) bs E
 | .insert t m k v=>qd8 T t (ρ m) (ρ k) (ρ v) bs E
 | .slice t x lo hi mx=>tgK T t fun i=>match qev T hi with
   |true=>match ρ x,lo.map ρ,hi.map ρ,mx,bs with
    | .own id,some (.int _ l),some (.int _ h),none,[.buf _ k xs]=>match Nat.beq i.cls 3,Nat.beq i.esz k.size with
      |true,true=>(0<=l/\l<h/\h<=xs.length)/\E (.ow id k.size l.toNat (h.toNat-l.toNat)) []
      | _,_=>False
    | _,_,_,_,_=>False
   |false=>qcb i (ρ x) (lo.map ρ) (hi.map ρ) (mx.map ρ) E
 | _=>False
def qah (σ:St) (dst:Option Nat) (v:AV) (K:St->Prop):Prop:=match σ with
 |⟨sl,hp⟩=>match dst with
  |some d=>zx0 sl d v fun l=>K ⟨l,hp⟩
  |none=>K ⟨sl,hp⟩
def zwx (h:Hp) (l:List Nat) (K:List Nat->Prop):Prop:=
 zew (zqa (qg h l)) fun m=>zew (l++m) fun n=>zew (nub n) K
def zv4 (T:Tab) (op:Op) (dst:Nat) (ρ:Operand->AV) (hp:Hp) (K:List Nat->Prop):Prop:=
 match op with
 | .call c=>match c.callee with
   | .value f=>match ρ f with
     | .fn g caps=>zew (glL T g (jv (yn ρ c.args.toList)++jv caps)) fun l=>zew (nub l) fun l=>zwx hp l fun l=>zwx hp l fun l=>match qch T g with
       |0=>K l
       |n+1=>zew (dst::(zm n (dst+100000)++l)) K
     | _=>zew (yx T op dst ρ hp) K
   | _=>zew (yx T op dst ρ hp) K
 | _=>zew (yx T op dst ρ hp) K
def qy (o:Oper):Nat:=match o.dst with
 |some d=>d
 |none=>0
def dstK (o:Oper) (K:Nat->Prop):Prop:=match o.dst with
 |some d=>K d
 |none=>K 0
def znn (T:Tab) (C:Con) (o:Oper) (σ:St) (K:St->Prop):Prop:=match σ with
 |⟨sl,hp⟩=>dstK o fun dst=>match Nat.ble dst 99999 with
  |true=>zv4 T o.op dst (zj sl) hp fun ids=>zts (qg hp ids) fun bs=>qk T C o.op dst (zj sl) ids bs fun v bs=>
   frc v fun v=>qah ⟨sl,hp⟩ o.dst v fun σ'=>match wr o.op with
    |true=>match σ' with
     |⟨sl',hp'⟩=>zts bs fun bs=>zav hp' ids bs fun h=>K ⟨sl',h⟩
    |false=>K σ'
  |false=>False
mutual
def AV.fz (id:Nat) (k:Elt) (xs:List k.T):AV->AV
 | .own i=>match Nat.beq i id with
   |true=> .sl k xs
   |false=> .own i
 | .opt i s j o=>match Nat.beq i id with
   |true=> .any
   |false=> .opt i s j o
 | .ow i s j n=>match Nat.beq i id with
   |true=> .any
   |false=> .ow i s j n
 | .agg l=> .agg (fzL id k xs l)
 | .tup l=> .tup (fzL id k xs l)
 | .fn f l=> .fn f (fzL id k xs l)
 | .any => .any
 | .bool b=> .bool b
 | .int t n=> .int t n
 | .str s=> .str s
 | .nilp => .nilp
 | .ptr i o=> .ptr i o
 | .rp t x o=> .rp t x o
 | .nilsl => .nilsl
 | .sl t ys=> .sl t ys
 | .nilf => .nilf
 | .mp i=> .mp i
 | .nilm => .nilm
 | .ub p q=> .ub p q
 | .cb l=> .cb l
 | .val x=> .val x
def fzL (id:Nat) (k:Elt) (xs:List k.T):List AV->List AV
 | []=> []
 |a::l=>a.fz id k xs::fzL id k xs l
end
def fzH (id:Nat) (k:Elt) (xs:List k.T):Hp->Hp
 | []=> []
 |(i,b)::r=>(match Nat.beq i id with
  |true=>(i,.dead)
  |false=>(i,match b with| .cells l=> .cells (fzL id k xs l)|b=>b))::fzH id k xs r
def zqo:Hp->(Hp->Prop)->Prop
 | [],k=>k []
 |(i,b)::r,k=>qe3 b fun b=>zqo r fun r=>k ((i,b)::r)
def zgx:List Nat->St->(St->Prop)->Prop
 | [],σ,K=>K σ
 |id::is,σ,K=>match hget σ.hp id,Nat.ble id 999999 with
  | .buf _ k xs,true=>zig (fzL id k xs σ.sl) fun sl=>zqo (fzH id k xs σ.hp) fun hp=>zgx is ⟨sl,hp⟩ K
  | _,_=>False
def thaw (T:Tab) (op:Op) (ρ:Operand->AV):List Nat:=
 match op with
 | .buildSlice _ _ parts=>zda (zmf ρ parts.toList)
 | .mapUpdate _ _ k v=>zda [ρ k,ρ v]
 | .insert _ _ k v=>zda [ρ k,ρ v]
 | .slice _ x _ hi _=>match qev T hi with
   |true=> []
   |false=>zda [ρ x]
 | .store _ p v=>match ρ p with
   | .opt _ _ _ _=>(ρ v).owns
   | _=> []
 | .call c=>match c.callee with
   | .builtin .append =>match c.args.toList with
     | [_,x]=>(ρ x).owns
     | _=> []
   | .value f=>match ρ f with
     | .fn g caps=>match ze2 g T.of with
       |true=> []
       |false=>nub (zda (yn ρ c.args.toList)++zda caps)
     | .cb _=>nub (zda (yn ρ c.args.toList))
     | _=> []
   | _=> []
 | _=> []
def runK (T:Tab) (C:Con) (o:Oper) (σ:St) (K:St->Prop):Prop:=
 match thaw T o.op (zj σ.sl)with
 | []=>znn T C o σ K
 |ids=>zgx ids σ fun σ=>znn T C o σ K
def xq (ops:List Oper) (o:Oper) (σ:St) (run:St->Prop) (skip:St->Prop):Prop:=
 match o.guard with
 |none=>run σ
 |some (j,want)=>match ops[j]? with
  |none=>False
  |some oj=>match oj.dst with
   |none=>False
   |some d=>match σ.sl.getD d .any with
    | .bool b=> @Bool.rec (fun _=>Prop)
       (qah σ (some d) (.bool false) fun σ=> @Bool.rec (fun _=>Prop) (run σ) (skip σ) want)
       (qah σ (some d) (.bool true) fun σ=> @Bool.rec (fun _=>Prop) (skip σ) (run σ) want) b
    | .tup []=>skip σ
    | _=>False
def opK1 (T:Tab) (C:Con) (ops:List Oper) (o:Oper) (σ:St) (K:St->Prop):Prop:=
 xq ops o σ (fun σ=>runK T C o σ K) (fun σ=>qah σ o.dst (.tup []) K)
def zyg (T:Tab) (C:Con) (ops:List Oper):List Oper->St->(St->Prop)->Prop
 | [],σ,K=>K σ
 |o::rest,σ,K=>opK1 T C ops o σ fun σ=>zyg T C ops rest σ K
abbrev FP:=List Nat×Bool
def opD1 (T:Tab) (C:Con) (ops:List Oper) (o:Oper) (σ:St) (K:FP->St->Prop):Prop:=
 xq ops o σ
  (fun σ=>match thaw T o.op (zj σ.sl)with
    | []=>zv4 T o.op (qy o) (zj σ.sl) σ.hp fun ids=>znn T C o σ fun σ'=>K (ids,wr o.op) σ'
    | _=>False)
  (fun σ=>qah σ o.dst (.tup []) fun σ'=>K ([],false) σ')
def qal (T:Tab) (C:Con) (ops:List Oper):List Oper->St->(List FP->St->Prop)->Prop
 | [],σ,K=>K [] σ
 |o::rest,σ,K=>opD1 T C ops o σ fun fp σ'=>qal T C ops rest σ' fun fps σ''=>K (fp::fps) σ''
def zhq (a b:FP):Bool:=match a.2||b.2 with
 |true=> !zd4 a.1 b.1
 |false=>false
def zhe (bs:List Nat) (o:Oper):Bool:=o.after.toList.any fun e=>Region.binds .any e&&ze2 e.on bs
def znk (bs:List Nat) (m:Nat) (f:FP):List Oper->List FP->Bool
 |o::os,g::gs=>match zhe bs o with
  |true=>znk (m::bs) (m+1) f os gs
  |false=> !zhq f g&&znk bs (m+1) f os gs
 | [],[]=>true
 | _,_=>false
def zw2:Nat->List Oper->List FP->Bool
 |i,_::os,f::fs=>znk [i] (i+1) f os fs&&zw2 (i+1) os fs
 | _,[],[]=>true
 | _,_,_=>false
mutual
def AV.rn (d:Nat):AV->AV
 | .own i=>match Nat.beq i d with
   |true=> .any
   |false=>match Nat.beq i (d+100000)with
    |true=> .own d
    |false=> .own i
 | .opt i s j o=>match Nat.beq i d with
   |true=> .any
   |false=>match Nat.beq i (d+100000)with
    |true=> .opt d s j o
    |false=> .opt i s j o
 | .ow i s j n=>match Nat.beq i d with
   |true=> .any
   |false=>match Nat.beq i (d+100000)with
    |true=> .ow d s j n
    |false=> .ow i s j n
 | .ptr i o=>match Nat.beq i d with
   |true=> .any
   |false=>match Nat.beq i (d+100000)with
    |true=> .any
    |false=> .ptr i o
 | .agg l=> .agg (rnL d l)
 | .tup l=> .tup (rnL d l)
 | .fn f l=> .fn f (rnL d l)
 | .any => .any
 | .bool b=> .bool b
 | .int t n=> .int t n
 | .str s=> .str s
 | .nilp => .nilp
 | .rp t x o=> .rp t x o
 | .nilsl => .nilsl
 | .sl t ys=> .sl t ys
 | .nilf => .nilf
 | .mp i=>match Nat.beq i d with
   |true=> .any
   |false=>match Nat.beq i (d+100000)with
    |true=> .any
    |false=> .mp i
 | .nilm => .nilm
 | .ub p q=> .ub p q
 | .cb l=> .cb l
 | .val x=> .val x
def rnL (d:Nat):List AV->List AV
 | []=> []
 |a::l=>a.rn d::rnL d l
end
def rnH (d:Nat) (nb:Blk):Hp->Hp
 | []=> []
 |(i,b)::r=>(match Nat.beq i d with
  |true=>(i,nb)
  |false=>match Nat.beq i (d+100000)with
   |true=>(i,.free)
   |false=>(i,match b with| .cells l=> .cells (rnL d l)|b=>b))::rnH d nb r
def zu4:List Oper->List Nat
 | []=> []
 |o::r=>match o.op with
  | .call c=>match c.callee,o.dst with
    | .builtin .append,some d=>d::zu4 r
    | _,_=>zu4 r
  | _=>zu4 r
def yq:List Nat->St->(St->Prop)->Prop
 | [],σ,K=>K σ
 |d::ds,σ,K=>match hget σ.hp (d+100000),hget σ.hp d,ze2 d (σ.hp.map (·.1)),Nat.ble d 99999 with
  | .buf e k xs,.dead,true,true=>zig (rnL d σ.sl) fun sl=>zqo (rnH d (.buf e k xs) σ.hp) fun hp=>yq ds ⟨sl,hp⟩ K
  | _,_,_,_=>yq ds σ K
def qam (T:Tab) (o:Oper):List Nat:=match o.dst with
 |none=> []
 |some d=>match o.op with
  | .alloc _=> [d]
  | .box _ _=> [d]
  | .buildSlice _ 0 _=> [d]
  | .makeSlice _ _ _=> [d]
  | .makeMap _ _=> [d]
  | .call c=>match c.callee with
    | .builtin .append => [d,d+100000,d+1500000]
    | .value (.func g)=>zm (qch T g) d
    | _=> []
  | _=> []
def zok (T:Tab):List Oper->List Nat
 | []=> []
 |o::r=>qam T o++zok T r
def zsl:List Oper->List Nat
 | []=> []
 |o::r=>match o.dst with
  |some d=>d::zsl r
  |none=>zsl r
def zc (T:Tab):Code->List Nat
 | .region _ ops _=>zok T ops.toList
 | .seq a b=>zc T a++zc T b
 | .cond _ a b=>zc T a++zc T b
 | .block _ c=>zc T c
 | .loop c=>zc T c
 | .scope c=>zc T c
 | _=> []
def wv:Code->List Nat
 | .region _ ops _=>zsl ops.toList
 | .seq a b=>wv a++wv b
 | .cond _ a b=>wv a++wv b
 | .block _ c=>wv c
 | .loop c=>wv c
 | .scope c=>wv c
 | _=> []
mutual
def leA (h h':Hp):AV->AV->Prop
 | _,.any =>True
 | .bool a,.bool b=>a=b
 | .int k a,.int k' b=>match znf k k' with
   |true=>a=b
   |false=>False
 | .str a,.str b=>a=b
 | .nilp,.nilp =>True
 | .ptr i o,.ptr j p=>match Nat.beq i j with
   |true=>o=p
   |false=>False
 | .rp k x o,.rp k' x' o'=>AV.rp k x o=AV.rp k' x' o'
 | .nilsl,.nilsl =>True
 | .nilsl,.sl k xs=>AV.sl k []=AV.sl k xs
 | .sl k xs,.sl k' xs'=>AV.sl k xs=AV.sl k' xs'
 | .nilsl,.own j=>match hget h j,hget h' j with
   | .free,.buf _ _ _=>True
   | .dead,.buf _ _ _=>True
   | _,_=>False
 | .own i,.own j=>match Nat.beq i j,hget h i with
   |true,.buf _ _ _=>True
   | _,_=>False
 | .ow i s j n,.ow i' s' j' n'=>match Nat.beq i i',hget h i with
   |true,.buf _ _ _=>s=s'/\j=j'/\n=n'
   | _,_=>False
 | .agg l,.agg m=>leL h h' l m
 | .tup l,.tup m=>leL h h' l m
 | .fn f l,.fn g m=>match Nat.beq f g with
   |true=>leL h h' l m
   |false=>False
 | .nilf,.nilf =>True
 | .mp i,.mp j=>match Nat.beq i j with
   |true=>True
   |false=>False
 | .nilm,.nilm =>True
 | .cb i,.cb j=>i=j
 | .val x,.val y=>x=y
 | _,_=>False
def leL (h h':Hp):List AV->List AV->Prop
 | [],[]=>True
 |a::l,b::m=>leA h h' a b/\leL h h' l m
 | _,_=>False
end
def leB (h h':Hp) (i:Nat):Blk->Blk->Prop
 | _,.free =>True
 | _,.dead =>True
 | .cells l,.cells m=>leL h h' l m
 | .buf e k xs,.buf e' k' xs'=>match Nat.beq e e' with
   |true=>AV.sl k xs=AV.sl k' xs'
   |false=>False
 | .free,.buf _ k xs=>Nat.ble i 999999=true/\AV.sl k []=AV.sl k xs
 | .dead,.buf _ k xs=>Nat.ble i 999999=true/\AV.sl k []=AV.sl k xs
 | .map a b es,.map a' b' es'=>Blk.map a b es=Blk.map a' b' es'
 | .gst J,.gst J'=>J=J'
 | _,_=>False
def leH (h h':Hp):Hp->Hp->Prop
 | [],[]=>True
 |(i,b)::r,(j,c)::s=>match Nat.beq i j with
  |true=>leB h h' i b c/\leH h h' r s
  |false=>False
 | _,_=>False
def leS (σ τ:St):Prop:=leL σ.hp τ.hp σ.sl τ.sl/\leH σ.hp τ.hp σ.hp τ.hp
def qey (ws:List Nat):Nat->List AV->(List AV->Prop)->Prop
 | _,[],k=>k []
 |i,a::l,k=>match ze2 i ws with
  |true=>qey ws (i+1) l fun l=>k (.any ::l)
  |false=>qey ws (i+1) l fun l=>k (a::l)
def qez (ds:List Nat):Hp->(Hp->Prop)->Prop
 | [],k=>k []
 |(i,b)::r,k=>match ze2 i ds with
  |true=>qez ds r fun r=>k ((i,.free)::r)
  |false=>qez ds r fun r=>k ((i,b)::r)
def upsK:List (Nat×AV)->List AV->(List AV->Prop)->Prop
 | [],l,k=>k l
 |(i,a)::us,l,k=>frc a fun a=>zx0 l i a fun l=>upsK us l k
def uphK:List (Nat×Blk)->Hp->(Hp->Prop)->Prop
 | [],h,k=>k h
 |(i,b)::us,h,k=>qe3 b fun b=>zqb h i b fun h=>uphK us h k
def zo2 (ws ds:List Nat) (us:List (Nat×AV)) (hu:List (Nat×Blk)) (σ:St) (K:St->Prop):Prop:=
 qey ws 0 σ.sl fun l=>upsK us l fun l=>qez ds σ.hp fun h=>uphK hu h fun h=>K ⟨l,h⟩
def zeg:Hp->List Nat
 | []=> []
 |(i,b)::r=>match b with
  | .free =>i::zeg r
  | _=>zeg r
abbrev GJ:=(Nat->Prop)->(Nat->Obj->Prop)->World->Prop
def zfj (i:Nat):Nat:=i+1000000
def zer:List Nat->List Nat
 | []=> []
 |i::l=>zfj i::zer l
mutual
def AV.mvl (is:List Nat):AV->AV
 | .ptr i o=>match ze2 i is with
   |true=> .ptr (zfj i) o
   |false=> .any
 | .mp i=>match ze2 i is with
   |true=> .mp (zfj i)
   |false=> .any
 | .opt _ _ _ _=> .any
 | .ow _ _ _ _=> .any
 | .own _=> .any
 | .agg l=> .agg (zkb is l)
 | .tup l=> .tup (zkb is l)
 | .fn g l=> .fn g (zkb is l)
 | .any => .any
 | .bool b=> .bool b
 | .int t n=> .int t n
 | .str s=> .str s
 | .nilp => .nilp
 | .rp t x o=> .rp t x o
 | .nilsl => .nilsl
 | .sl t ys=> .sl t ys
 | .nilf => .nilf
 | .nilm => .nilm
 | .ub p q=> .ub p q
 | .cb l=> .cb l
 | .val x=> .val x
def zkb (is:List Nat):List AV->List AV
 | []=> []
 |a::l=>a.mvl is::zkb is l
end
def qao:List Nat->Bool
 | []=>true
 | _=>false
def zan:List Blk->Bool
 | []=>true
 | .cells l::r=>qao (wb l)&&zan r
 | .map _ _ _::r=>zan r
 | _=>false
def qcm:List Nat->Bool
 | []=>true
 |i::l=>Nat.ble i 999998&&qcm l
def zdb:List Nat->Bool
 | []=>true
 |i::l=> !ze2 i l&&zdb l
def zmt:List Nat->List AV->List AV->(List AV->Prop)->Prop
 |p::ps,v::vs,sl,K=>frc v fun v=>zx0 sl p v fun sl=>zmt ps vs sl K
 | [],[],sl,K=>K sl
 | _,_,_,_=>False
def rfOk (T:Tab) (hp:Hp) (g:Nat) (is:List Nat) (caps:List AV) (ib:List Blk):Bool:=
 Nat.beq (qch T g) 0&&qcm is&&zdb is&&zd4 is (wb caps)&&uq (qg hp (nub (wb caps)))&&zbx (nub (wb caps)) ib&&uq ib&&zvc (zd3 (vw (nub (wb caps)) ib)) (nub (wb caps))&&zvc (zd3 (vw (nub (wb caps)) (qg hp (nub (wb caps))))) (nub (wb caps))&&qao (zda caps)&&zd4 [zx] (nub (wb caps))&&ltB (nub (wb caps))
def zm0 (h:Hp):Hp->Hp
 | []=> []
 |(i,_)::r=>(i,hget h i)::zm0 h r
def zqd (is:List Nat) (bs:List Blk) (τ:St):Prop:=match τ with
 |⟨_,hp⟩=>leH hp (vw (zer is) bs) (zm0 hp (vw (zer is) bs)) (vw (zer is) bs)
def zhj:Hp->Hp->Hp
 | [],h=>h
 |x::r,h=>x::zhj r h
def vz:List Nat->Hp
 | []=> []
 |i::l=>(i,.free)::vz l
def wq (T:Tab) (C:Con) (top:Bool):Code->St->(Exit->St->Prop)->Prop
 | .skip,σ,Q=>Q .normal σ
 | .region _ ops draw,σ,Q=> @Bool.rec (fun _=>Prop)
    (zyg T C ops.toList ops.toList σ fun σ=>yq (zu4 ops.toList) σ fun σ=>Q .normal σ)
    (qal T C ops.toList ops.toList σ fun fps σ=>zw2 0 ops.toList fps=true/\Region.lexB .any ops=true/\yq (zu4 ops.toList) σ fun σ=>Q .normal σ) draw
 | .seq a b,σ,Q=>wq T C top a σ fun e σ=>match e with
   | .normal =>wq T C top b σ Q
   | .exit i=>Q (.exit i) σ
   | .ret =>Q .ret σ
   | _=>False
 | .cond c a b,σ,Q=>match zj σ.sl c with
   | .bool t=> @Bool.rec (fun _=>Prop) (wq T C top b σ Q) (wq T C top a σ Q) t
   | .ub p q=>(p->wq T C top a σ Q)/\(q->wq T C top b σ Q)
   | _=>False
 | .block id c,σ,Q=>wq T C top c σ fun e σ=>match e with
   | .normal =>Q .normal σ
   | .exit i=>match Nat.beq i id with
     |true=>Q .normal σ
     |false=>Q (.exit i) σ
   | .ret =>Q .ret σ
   | _=>False
 | .loop c,σ,Q=> ∃(X:Type) (I:X->Prop) (us:X->List (Nat×AV)) (hu:X->List (Nat×Blk)) (μ:X->Nat) (x₀:X),
    I x₀/\zo2 (wv c) (zc T c) (us x₀) (hu x₀) σ (fun τ=>leS σ τ)/\
    ∀x,I x->zo2 (wv c) (zc T c) (us x) (hu x) σ fun τ=>zd4 (zeg τ.hp) τ.ids=true/\
     wq T C top c τ fun e σ'=>match e with
      | .normal => ∃x',I x'/\μ x'<μ x/\zo2 (wv c) (zc T c) (us x') (hu x') σ fun τ'=>leS σ' τ'
      | .exit i=>Q (.exit i) σ'
      | .ret =>Q .ret σ'
      | _=>False
 | .rangeFunc f ps asg body,σ,Q=>match top,zj σ.sl f with
   |true,.fn g caps=> ∃(is:List Nat) (X Y:Type) (hb:X->List Blk) (live:X->Bool) (pend:X->Code) (args:Y->List AV) (next:X->Y->X) (x₀ xE:X) (r:AV) (ib:List Blk),
     qg σ.hp is=hb x₀/\live x₀=true/\rfOk T σ.hp g is caps ib=true/\zd4 (zc T asg++zc T body) (zer is)=true/\(∀x,zan (hb x)=true/\zbx is (hb x)=true)/\(∀y,qao (wb (args y))=true)/\
     (∀(l:Nat) (J:X->GJ),(∀x y,live x=true->C.cb l [(zx,.gst (J x))] (args y) (.bool (live (next x y))) [(zx,.gst (J (next x y)))])->
       C.fn g ((zx,.gst (J x₀))::vw (nub (wb caps)) (qg σ.hp (nub (wb caps)))) (.cb l::caps) r ((zx,.gst (J xE))::vw (nub (wb caps)) ib))/\
     (∀x y,live x=true->zmt ps.toList (args y) (zkb is σ.sl) fun sl=>
       wq T C false asg ⟨sl,zhj (vz (zc T asg++zc T body)) (vw (zer is) (hb x))⟩ fun e τ=>match e with
       | .normal =>wq T C false body τ fun e τ=>match e with
         | .normal =>live (next x y)=true/\zqd is (hb (next x y)) τ
         | .exit id=>live (next x y)=false/\pend (next x y)= .exit id/\zqd is (hb (next x y)) τ
         | .ret =>live (next x y)=false/\pend (next x y)= .ret /\zqd is (hb (next x y)) τ
         | _=>False
       | _=>False)/\
     (match σ with
       |⟨sl,hp⟩=>zav hp is (hb xE) fun hp=>zav hp (nub (wb caps)) ib fun hp=> @Bool.rec (fun _=>Prop)
         (match pend xE with
           | .exit id=>Q (.exit id) ⟨sl,hp⟩
           | .ret =>Q .ret ⟨sl,hp⟩
           | _=>False)
         (Q .normal ⟨sl,hp⟩) (live xE))
   | _,_=>False
 | .exit id,σ,Q=>Q (.exit id) σ
 | .ret,σ,Q=>Q .ret σ
 | _,_,_=>False
def um:Nat->List AV
 |0=> []
 |n+1=> .any ::um n
def qae (T:Tab):List ResultVar->St->(List AV->Prop)->Prop
 | [],_,k=>k []
 | .tmp t::r,σ,k=>frc (σ.sl.getD t .any) fun a=>qae T r σ fun l=>k (a::l)
 | .cell a t::r,σ,k=>match σ.sl.getD a .any with
   | .ptr id off=>match hget σ.hp id with
     | .cells l=>tgK T t fun i=>ldK i l off fun v=>qae T r σ fun m=>k (v::m)
     | _=>False
   | _=>False
def zkx:List AV->AV
 | [a]=>a
 |l=> .tup l
def exI (ex:List Nat) (i:Nat):Nat:=match Nat.ble 2000000 i with
 |true=>ex.getD (i-2000000) 0
 |false=>i
def qai:Hp->List Nat
 | []=> []
 |(_,.cells l)::r=>zda l++qai r
 | _::r=>qai r
def zsw:List Nat->List Nat->List Nat
 | [],_=> []
 |i::l,m=>match ze2 i m with
  |true=>zsw l m
  |false=>i::zsw l m
def zhp (T:Tab) (res:List ResultVar) (ex:List Nat) (r:AV) (H':Hp) (σ:St):Prop:=
 qae T res σ fun l=>zgx (zsw (nub (zda l++qai (zm0 σ.hp (zfo (exI ex) H')))) ex) σ fun σ=>qae T res σ fun l=>match σ with
  |⟨_,hp⟩=>leA hp (zfo (exI ex) H') (zkx l) (r.mapI (exI ex))/\leH hp (zfo (exI ex) H') (zm0 hp (zfo (exI ex) H')) (zfo (exI ex) H')
def far (n:Nat):List Nat->Bool
 | []=>true
 |i::l=>match Nat.ble 1000000 i,Nat.blt i (2000000+n),(Nat.blt i 1500000||Nat.ble 1999999 i)with
  |true,true,true=>far n l
  | _,_,_=>false
def keys:Hp->List Nat
 | []=> []
 |(i,_)::r=>i::keys r
def zqh:Hp->List Blk
 | []=> []
 |(_,b)::r=>b::zqh r
end Go.Sx
