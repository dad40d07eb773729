/- The symbolic execution: operations, regions, code. The contracts of callees stand behind a letter (C). -/
import Derived.Test.YtbolipecnhlnnaaGreatDoorTSxA
set_option linter.unusedVariables false
set_option linter.unusedSimpArgs false
open BitVec renaming ofInt->q2
open Nat renaming beq->q0,ble->q1,blt->q3
open Go.Op renaming bytesLess->q4
namespace Go.Sx
open Go
abbrev Hp:=List (Nat×Blk)
abbrev CT:=Hp->List AV->AV->Hp->Prop
structure Con where
 fn:Nat->CT
 cb:Nat->CT
abbrev zy:Nat:=1999999
def zts:List AV->Nat->Bool
 | [],0=>true
 | _::l,n+1=>zts l n
 | _,_=>false
def eqZ:List AV->List AV->List AV->(Bool->Prop)->Prop
 | [],[],[],k=>k true
 | .int .i64 _::z,.int .i64 a::l,.int .i64 b::m,k=>eqZ z l m fun r=>k (a==b&&r)
 | .str _::z,.str a::l,.str b::m,k=>eqZ z l m fun r=>k (a==b&&r)
 | .bool _::z,.bool a::l,.bool b::m,k=>eqZ z l m fun r=>k (a==b&&r)
 | _,_,_,_=>False
def qck (o:BinOp) (k:IntKind) (a b:Int) (E:AV->Prop):Prop:=
 match o with
 | .add =>E (.int k (k.wrap (a+b)))
 | .sub =>E (.int k (k.wrap (a-b)))
 | .mul =>E (.int k (k.wrap (a*b)))
 | .quo =>b≠0/\E (.int k (k.wrap (a.tdiv b)))
 | .rem =>b≠0/\E (.int k (a.tmod b))
 | .and =>E (.int k (k.wrap (q2 k.bits a&&& q2 k.bits b).toNat))
 | .or =>E (.int k (k.wrap (q2 k.bits a|||q2 k.bits b).toNat))
 | .xor =>E (.int k (k.wrap (q2 k.bits a^^^q2 k.bits b).toNat))
 | .andNot =>E (.int k (k.wrap (q2 k.bits a&&& ~~~q2 k.bits b).toNat))
 | .eql =>E (.bool (a==b))
 | .neq =>E (.bool (a != b))
 | .lss =>E (.bool (a<b))
 | .leq =>E (.bool (a<=b))
 | .gtr =>E (.bool (a>b))
 | .geq =>E (.bool (a≥b))
 | .shl =>0<=b/\E (.int k (k.wrap (a*2^min b.toNat k.bits)))
 | .shr =>0<=b/\E (.int k (a.fdiv (2^min b.toNat k.bits)))
def strB (o:BinOp) (a b:zeb) (E:AV->Prop):Prop:=
 match o with
 | .add =>a.length+b.length<=140737488355328/\E (.str (a++b))
 | .eql =>E (.bool (a==b))
 | .neq =>E (.bool !(a==b))
 | .lss =>E (.bool (q4 a b))
 | .leq =>E (.bool (q4 a b||a==b))
 | .gtr =>E (.bool !(q4 a b||a==b))
 | .geq =>E (.bool !q4 a b)
 | _=>False
def znt:IntKind->IntKind->Bool
 | .i8,.i8 =>true| .i16,.i16 =>true| .i32,.i32 =>true| .i64,.i64 =>true
 | .u8,.u8 =>true| .u16,.u16 =>true| .u32,.u32 =>true| .u64,.u64 =>true
 | _,_=>false
def qdf (i:TI) (o:BinOp) (x y:AV) (E:AV->Prop):Prop:=
 match x,y with
 | .int k a,.int k' b=>match o with
   | .shl =>qck .shl k a b E
   | .shr =>qck .shr k a b E
   |o=>match znt k k' with
    |true=>qck o k a b E
    |false=>False
 | .str a,.str b=>strB o a b E
 | .bool a,.bool b=>match q0 i.cls 6,o with
   |true,.eql =>E (.bool (a==b))
   |true,.neq =>E (.bool !(a==b))
   | _,_=>False
 | .sl _ xs,.nilsl =>match q0 i.cls 3,o with
   |true,.eql =>E (.ub (xs= []) True)
   |true,.neq =>E (.ub True (xs= []))
   | _,_=>False
 | .agg l,.agg m=>match i.eq with
   |true=>match o with
    | .eql =>eqZ i.z l m fun r=>E (.bool r)
    | .neq =>eqZ i.z l m fun r=>E (.bool !r)
    | _=>False
   |false=>False
 | _,_=>False
def cut:List AV->Nat->Nat->(List AV->Prop)->Prop
 | _,0,0,k=>k []
 |a::l,0,n+1,k=>cut l 0 n fun r=>k (a::r)
 | [],0,_+1,_=>False
 | _::l,off+1,n,k=>cut l off n k
 | [],_+1,_,_=>False
def lay:List AV->Nat->List AV->(List AV->Prop)->Prop
 |l,0,[],k=>k l
 | _::l,0,b::m,k=>lay l 0 m fun r=>k (b::r)
 | [],0,_::_,_=>False
 |a::l,off+1,m,k=>lay l off m fun r=>k (a::r)
 | [],_+1,_,_=>False
def ldK (i:TI) (l:List AV) (off:Nat) (E:AV->Prop):Prop:=
 match i.agg with
 |true=>cut l off i.sz fun r=>E (.agg r)
 |false=>cut l off 1 fun r=>match r with
  | [a]=>E a
  | _=>False
def zcg:List (Nat×Nat×Bool)->Nat->(Nat->Nat->Bool->Prop)->Prop
 |(o,s,a)::_,0,k=>k o s a
 | _::r,f+1,k=>zcg r f k
 | [],_,_=>False
def zqn (l:List AV) (o s:Nat) (a:Bool) (E:AV->Prop):Prop:=
 match a with
 |true=>cut l o s fun r=>E (.agg r)
 |false=>cut l o 1 fun r=>match r with
  | [x]=>E x
  | _=>False
def zl5 (fs:List (Nat×Nat×Bool)):List (Nat×AV)->List AV->(List AV->Prop)->Prop
 | [],z,k=>k z
 |(f,v)::r,z,k=>zcg fs f fun o s _=>match zts v.cs s,zek v.cs with
  |true,true=>lay z o v.cs fun z=>zl5 fs r z k
  | _,_=>False
def zl7 (s:Nat):List (Nat×AV)->List AV->(List AV->Prop)->Prop
 | [],z,k=>k z
 |(f,v)::r,z,k=>match zts v.cs s,zek v.cs with
  |true,true=>lay z (f*s) v.cs fun z=>zl7 s r z k
  | _,_=>False
def zj8:Nat->List (Nat×Operand)->Bool
 | _,[]=>true
 |n,(i,_)::r=>match q0 n i with
  |true=>zj8 (n+1) r
  |false=>false
def kEq:Elt->Elt->Bool
 | .ex,.ex =>true| .str,.str =>true| .int,.int =>true| .rat,.rat =>true| .op,.op =>true| .eqn,.eqn =>true| .ex2,.ex2 =>true| .bool,.bool =>true| .u32,.u32 =>true| .ls,.ls =>true| .dy,.dy =>true| .iv,.iv =>true| .ki,.ki =>true| .vs,.vs =>true
 | _,_=>false
def alt (id dst:Nat):Nat:=match q0 id dst with
 |true=>dst+100000
 |false=>match q1 id 999999 with
  |true=>dst
  |false=>dst+1500000
def xd (ρ:Operand->AV):List Operand->List AV
 | []=> []
 |x::r=>ρ x::xd ρ r
def zrb (ρ:Operand->AV):List (Nat×Operand)->List (Nat×AV)
 | []=> []
 |(i,x)::r=>(i,ρ x)::zrb ρ r
def zmn (ρ:Operand->AV):List (Nat×Operand)->List AV
 | []=> []
 |(_,x)::r=>ρ x::zmn ρ r
def wb:List Nat->List Blk->Hp
 |i::is,b::bs=>(i,b)::wb is bs
 | _,_=> []
def zca:List Nat->List Blk->Bool
 | [],[]=>true
 | _::is,_::bs=>zca is bs
 | _,_=>false
def pid:AV->List Nat
 | .ptr id _=> [id]
 | .opt id _ _ _=> [id]
 | _=> []
def mid:AV->List Nat
 | .mp id=> [id]
 | _=> []
def zm:Nat->Nat->List Nat
 |0,_=> []
 |n+1,d=>d::zm n (d+100000)
def qi (h:Hp):List Nat->List Blk
 | []=> []
 |i::is=>hget h i::qi h is
def zqv:List Blk->List Nat
 | []=> []
 |b::r=>match b with
  | .cells l=>ko l++zqv r
  | _=>zqv r
def zbg (h:Hp) (l:List Nat):List Nat:=nub (l++zqv (qi h l))
def glL (T:Tab) (g:Nat) (l:List Nat):List Nat:=match zfd g T.gl with
 |true=>zy::l
 |false=>l
theorem qb5 {T:Tab} {g:Nat} {l:List Nat} {i:Nat} (h:i∈l):i∈glL T g l:=by
 unfold glL;split
 .exact List.mem_cons_of_mem _ h
 .exact h
def qgt (T:Tab):Option Operand->Bool
 |some (.tmp q)=>zfd q T.wn
 | _=>false
def xn (T:Tab) (op:Op) (dst:Nat) (ρ:Operand->AV) (hp:Hp):List Nat:=
 match op with
 | .alloc _=> [dst]
 | .box _ _=> [dst]
 | .load _ p=>pid (ρ p)
 | .store _ p _=>pid (ρ p)
 | .indexAddr _ x _=>match ρ x with
   | .own id=> [id]
   | _=> []
 | .buildSlice _ 0 _=> [dst]
 | .makeSlice _ _ _=> [dst]
 | .makeMap _ _=> [dst]
 | .slice _ x _ hi _=>match qgt T hi with
   |true=>match ρ x with
    | .own id=> [id]
    | _=> []
   |false=> []
 | .lookup _ x _ _=>mid (ρ x)
 | .mapUpdate _ x _ _=>mid (ρ x)
 | .insert _ x _ _=>mid (ρ x)
 | .call c=>match c.callee with
   | .builtin .len =>match c.args.toList with
     | [x]=>match ρ x with
       | .own id=> [id]
       | .mp id=> [id]
       | _=> []
     | _=> []
   | .builtin .append =>match c.args.toList with
     | [x,_]=>match ρ x with
       | .own id=> [id,alt id dst]
       | _=> [dst]
     | _=> []
   | .value f=>match ρ f with
     | .fn g caps=>match qd3 T g with
       |0=>zbg hp (zbg hp (nub (glL T g (ko (xd ρ c.args.toList)++ko caps))))
       |n+1=>dst::(zm n (dst+100000)++zbg hp (zbg hp (nub (glL T g (ko (xd ρ c.args.toList)++ko caps)))))
     | .cb _=>nub (zy::wg (xd ρ c.args.toList))
     | _=> []
   | _=> []
 | _=> []
def wr:Op->Bool
 | .alloc _=>true
 | .box _ _=>true
 | .store _ _ _=>true
 | .buildSlice _ 0 _=>true
 | .makeSlice _ _ _=>true
 | .makeMap _ _=>true
 | .mapUpdate _ _ _ _=>true
 | .insert _ _ _ _=>true
 | .call c=>match c.callee with
   | .builtin .append =>true
   | .value _=>true
   | _=>false
 | _=>false
def yi:List Blk->Bool
 | []=>true
 | .free ::_=>false
 | _::l=>yi l
def ltB:List Nat->Bool
 | []=>true
 |i::l=>match q3 i 2000000 with
  |true=>ltB l
  |false=>false
def app (c:CT) (A:List AV) (ids:List Nat) (bs:List Blk) (E:AV->List Blk->Prop):Prop:=
 ∃(bs':List Blk) (r:AV),c (wb ids bs) A r (wb ids bs')/\
  (match zca ids bs',zv2 r.ids ids,zv2 (zee (wb ids bs')) ids,yi bs',ltB ids with
   |true,true,true,true,true=>E r bs'
   | _,_,_,_,_=>False)
def zmc:Nat->List Blk->(List Blk->Prop)->Prop
 |0,bs,K=>K bs
 |n+1,.free ::bs,K=>zmc n bs K
 | _,_,_=>False
def zfh:Nat->List Nat->List Nat
 |0,l=>l
 |n+1,_::l=>zfh n l
 | _+1,[]=> []
def zb3:Nat->Nat->List Nat
 |0,_=> []
 |n+1,j=>j::zb3 n (j+1)
def zmj:Hp->Hp->Hp
 | [],h=>h
 |x::r,h=>x::zmj r h
def catB:List Blk->List Blk->List Blk
 | [],h=>h
 |x::r,h=>x::catB r h
def qhn:List Nat->List Nat->List Nat
 | [],h=>h
 |x::r,h=>x::qhn r h
def mvI (d:Nat) (i:Nat):Nat:=match q1 2000000 i with
 |true=>d+100000*(i-2000000)
 |false=>i
def zwx:List Nat->Bool
 | []=>true
 |i::l=>match q1 i 999999 with
  |true=>zwx l
  |false=>false
def appN (c:CT) (n dst:Nat) (A:List AV) (ids:List Nat) (bs:List Blk) (E:AV->List Blk->Prop):Prop:=
 zmc n bs fun bs=> ∃(bs' nbs:List Blk) (r:AV),c (wb (zfh n ids) bs) A r (zmj (wb (zfh n ids) bs') (wb (zb3 n 2000000) nbs))/\
  (match zca (zfh n ids) bs',zca (zb3 n 2000000) nbs,zv2 r.ids (qhn (zfh n ids) (zb3 n 2000000)),zv2 (zee (zmj (wb (zfh n ids) bs') (wb (zb3 n 2000000) nbs))) (qhn (zfh n ids) (zb3 n 2000000)),yi bs',yi nbs,
    zef (zm n dst) (zfh n ids),ltB (zfh n ids),q1 n 9,zwx (zfh n ids)with
   |true,true,true,true,true,true,true,true,true,true=>E (r.mapI (mvI dst)) (catB (qf9 (mvI dst) nbs) (qf9 (mvI dst) bs'))
   | _,_,_,_,_,_,_,_,_,_=>False)
def zlr (i:TI) (x:AV) (bs:List Blk) (E:AV->List Blk->Prop):Prop:=
 match x with
 | .str s=>match q0 i.cls 5 with
   |true=>E (.int .i64 s.length) []
   |false=>False
 | .sl _ xs=>match q0 i.cls 3 with
   |true=>E (.int .i64 xs.length) []
   |false=>False
 | .nilsl =>match q0 i.cls 3 with
   |true=>E (.int .i64 0) []
   |false=>False
 | .ow _ _ _ n=>match q0 i.cls 3 with
   |true=>E (.int .i64 n) []
   |false=>False
 | .own _=>match q0 i.cls 3,bs with
   |true,[.buf _ _ xs]=>E (.int .i64 xs.length) []
   | _,_=>False
 | _=>False
def isMp:AV->Bool
 | .mp _=>true
 | _=>false
def zqr (bs:List Blk) (E:AV->List Blk->Prop):Prop:=match bs with
 | [.map _ _ es]=>E (.int .i64 es.length) []
 | _=>False
def zyb (T:Tab) (i:TI) (dst:Nat) (s x:AV) (bs:List Blk) (E:AV->List Blk->Prop):Prop:=
 match i with
 |⟨3,_,_,e,esz,_,_,_,_,_,_⟩=>tgK T e fun j=>match j with
  |⟨_,sz,_,_,_,_,some k,_,_,bytes,_⟩=>match q0 esz k.size,q0 sz k.size,q1 1 bytes with
   |true,true,true=>match s,bs with
    | .nilsl,[.free]=>qba k x fun ys=>ys.length*bytes<=140737488355328/\E (.own dst) [.buf e k ys]
    | .own id,[.buf e' k' xs,.free]=>match q0 e e',kEq k k',q1 id 1999998 with
      |true,true,true=>qba k' x fun ys=>(xs.length+ys.length)*bytes<=140737488355328/\E (.own (alt id dst)) [.dead,.buf e' k' (xs++ys)]
      | _,_,_=>False
    | _,_=>False
   | _,_,_=>False
  | _=>False
 | _=>False
def vOk (v:TI) (vk:Elt):Bool:=match q0 v.sz vk.size,v.agg,q0 vk.size 1 with
 |true,true,false=>true
 |true,false,true=>true
 | _,_,_=>false
def aggA:AV->Bool
 | .agg _=>true
 | _=>false
def qed (x:AV) (k:Elt):Bool:=match aggA x,q0 k.size 1 with
 |true,false=>true
 |false,true=>true
 | _,_=>false
def zh1 (T:Tab) (t:Nat) (K:Elt->Elt->TI->Prop):Prop:=
 tgK T t fun i=>match i with
 |⟨9,_,_,kt,_,vt,_,_,_,_,_⟩=>tgK T kt fun j=>match j with
  |⟨_,_,_,_,_,_,some kk,_,_,_,_⟩=>tgK T vt fun v=>match v.k with
   |some vk=>match vOk v vk with
    |true=>K kk vk v
    |false=>False
   |none=>False
  | _=>False
 | _=>False
def lkOp (T:Tab) (t:Nat) (x i:AV) (ok:Bool) (bs:List Blk) (E:AV->List Blk->Prop):Prop:=
 zh1 T t fun kk vk v=>match x,bs with
 | .mp _,[.map kk' vk' es]=>match kEq kk kk',kEq vk vk',qed i kk' with
   |true,true,true=>qw kk' i.cs fun key=>qw vk' v.z fun z=>ldK v (vk'.cells (qd6 kk' key z es)) 0 fun u=>match ok with
    |true=>E (.tup [u,.bool (qd5 kk' key es)]) []
    |false=>E u []
   | _,_,_=>False
 | _,_=>False
def qf5 (T:Tab) (t:Nat) (m x y:AV) (bs:List Blk) (E:AV->List Blk->Prop):Prop:=
 zh1 T t fun kk vk _=>match m,bs with
 | .mp _,[.map kk' vk' es]=>match kEq kk kk',kEq vk vk',qed x kk',qed y vk' with
   |true,true,true,true=>qw kk' x.cs fun key=>qw vk' y.cs fun u=>E .any [.map kk' vk' (qd4 kk' key u es)]
   | _,_,_,_=>False
 | _,_=>False
def resA:Option AV->Bool
 |none=>true
 |some (.int _ _)=>true
 | _=>false
def zby (x:Option AV) (d:Int) (K:Int->Prop):Prop:=match x with
 |none=>K d
 |some (.int _ n)=>K n
 | _=>False
def qdw (i:TI) (x:AV) (lo hi mx:Option AV) (E:AV->List Blk->Prop):Prop:=
 match mx with
 |some y=>match x,y,hi with
  | .sl k xs,.int _ m,some (.int _ h)=>match q0 i.cls 3,q0 i.esz k.size with
    |true,true=>zby lo 0 fun l=>(0<=l/\l<=h/\h<=m/\m<=xs.length)/\E (.sl k ((xs.take h.toNat).drop l.toNat)) []
    | _,_=>False
  | _,_,_=>False
 |none=>match x with
  | .sl k xs=>match q0 i.cls 3,q0 i.esz k.size with
    |true,true=>zby lo 0 fun l=>zby hi xs.length fun h=>(0<=l/\l<=h/\h<=xs.length)/\E (.sl k ((xs.take h.toNat).drop l.toNat)) []
    | _,_=>False
  | .str s=>match q0 i.cls 5 with
    |true=>zby lo 0 fun l=>zby hi s.length fun h=>(0<=l/\l<=h/\h<=s.length)/\E (.str ((s.take h.toNat).drop l.toNat)) []
    | _=>False
  | .nilsl =>match q0 i.cls 3 with
    |true=>zby lo 0 fun l=>zby hi 0 fun h=>(l=0/\h=0)/\E .nilsl []
    | _=>False
  | _=>False
def qm (T:Tab) (C:Con) (op:Op) (dst:Nat) (ρ:Operand->AV) (ids:List Nat) (bs:List Blk) (E:AV->List Blk->Prop):Prop:=
 match op with
 | .move x=>E (ρ x) []
 | .assign x=>E (ρ x) []
 | .pick c a b=>match ρ c with
   | .bool t=> @Bool.rec (fun _=>Prop) (E (ρ b) []) (E (ρ a) []) t
   | _=>False
 | .alloc t=>match bs with
   | [.free]=>tgK T t fun i=>match i with
     |⟨_,_,_,_,_,_,_,_,z,_,_⟩=>E (.ptr dst 0) [.cells z]
   | _=>False
 | .box _ x=>match bs,zek (ρ x).cs with
   | [.free],true=>E (.ptr dst 0) [.cells (ρ x).cs]
   | _,_=>False
 | .build t parts=>tgK T t fun i=>match i with
   |⟨2,_,fs,_,_,_,_,_,z,_,_⟩=>zl5 fs (zrb ρ parts.toList) z fun l=>E (.agg l) []
   |⟨4,_,_,_,esz,_,_,_,z,_,_⟩=>zl7 esz (zrb ρ parts.toList) z fun l=>E (.agg l) []
   | _=>False
 | .buildSlice t n parts=>tgK T t fun i=>match i with
   |⟨3,_,_,e,esz,_,_,_,_,_,_⟩=>tgK T e fun j=>match j with
    |⟨_,sz,_,_,_,_,some k,_,_,_,_⟩=>match q0 esz k.size,q0 sz k.size with
     |true,true=>match n with
      |0=>match bs,parts.toList with
       | [.free],[]=>E (.own dst) [.buf e k []]
       | _,_=>False
      |n+1=>match zj8 0 parts.toList,q0 parts.toList.length (n+1),q1 ((n+1)*k.size) 1000 with
       |true,true,true=>ze4 k (zmn ρ parts.toList) fun xs=>E (.sl k xs) []
       | _,_,_=>False
     | _,_=>False
    | _=>False
   | _=>False
 | .makeSlice t l c=>tgK T t fun i=>match i with
   |⟨3,_,_,e,esz,_,_,_,_,_,_⟩=>tgK T e fun j=>match j with
    |⟨_,sz,_,_,_,_,some k,_,z,bytes,_⟩=>match q0 esz k.size,q0 sz k.size,q1 1 bytes,ρ l,ρ c,bs with
     |true,true,true,.int _ n,.int _ m,[.free]=>qw k z fun x=>(0<=n/\n<=m/\m*bytes<=140737488355328)/\E (.own dst) [.buf e k (List.replicate n.toNat x)]
     | _,_,_,_,_,_=>False
    | _=>False
   | _=>False
 | .load t p=>match ρ p with
   | .ptr _ off=>match bs with
     | [.cells l]=>tgK T t fun i=>ldK i l off fun v=>E v []
     | _=>False
   | .rp k x off=>tgK T t fun i=>ldK i (k.cells x) off fun v=>E v []
   | .opt _ sz j off=>match bs with
     | [.buf _ k xs]=>match q0 sz k.size with
       |true=>j<xs.length/\ ∀x,xs[j]? =some x->tgK T t fun i=>ldK i (k.cells x) off fun v=>E v []
       |false=>False
     | _=>False
   | _=>False
 | .store t p v=>tgK T t fun i=>match zts (ρ v).cs i.sz,zek (ρ v).cs with
   |true,true=>match ρ p with
    | .ptr _ off=>match bs with
      | [.cells l]=>lay l off (ρ v).cs fun l=>E .any [.cells l]
      | _=>False
    | .opt _ sz j 0=>match bs with
      | [.buf e k xs]=>match q0 sz k.size,q0 i.sz k.size with
        |true,true=>qw k (ρ v).cs fun y=>j<xs.length/\E .any [.buf e k (xs.set j y)]
        | _,_=>False
      | _=>False
    | _=>False
   | _,_=>False
 | .nilCheck x=>match ρ x with
   | .ptr i o=>E (.ptr i o) []
   | .rp k y o=>E (.rp k y o) []
   | .opt i s j o=>E (.opt i s j o) []
   | _=>False
 | .binOp o t x y _=>tgK T t fun i=>qdf i o (ρ x) (ρ y) fun v=>E v []
 | .unOp o _ x=>match o,ρ x with
   | .not,.bool b=>E (.bool !b) []
   | .neg,.int k n=>E (.int k (k.wrap (0-n))) []
   | _,_=>False
 | .convert s d x=>tgK T s fun j=>tgK T d fun i=>match ρ x with
   | .int _ n=>match j,i with
     |⟨1,_,_,_,_,_,_,_,_,_,_⟩,⟨1,_,_,_,_,_,_,ik,_,_,_⟩=>E (.int ik (ik.wrap n)) []
     | _,_=>False
   | .str b=>match q0 j.cls 5,q0 i.cls 5 with
     |true,true=>E (.str b) []
     | _,_=>False
   | _=>False
 | .makeFunc f first caps=>match f,first.toList with
   | .func f,[]=>E (.fn f (xd ρ caps.toList)) []
   | _,_=>False
 | .fieldAddr t x f=>tgK T t fun i=>match i with
   |⟨2,_,fs,_,_,_,_,_,_,_,_⟩=>zcg fs f fun o _ _=>match ρ x with
    | .ptr i off=>E (.ptr i (off+o)) []
    | .rp k y off=>E (.rp k y (off+o)) []
    | .opt i s j off=>E (.opt i s j (off+o)) []
    | _=>False
   | _=>False
 | .field t x f=>tgK T t fun i=>match i,ρ x with
   |⟨2,_,fs,_,_,_,_,_,_,_,_⟩,.agg l=>zcg fs f fun o s a=>zqn l o s a fun v=>E v []
   | _,_=>False
 | .indexAddr t x i=>tgK T t fun ti=>match ρ i with
   | .int _ n=>match ti with
     |⟨3,_,_,_,esz,_,_,_,_,_,_⟩=>match ρ x with
      | .sl k xs=>match q0 esz k.size with
        |true=>(0<=n/\n<xs.length)/\ ∀x,xs[n.toNat]? =some x->E (.rp k x 0) []
        |false=>False
      | .own id=>match bs with
        | [.buf _ k xs]=>match q0 esz k.size with
          |true=>(0<=n/\n<xs.length)/\E (.opt id esz n.toNat 0) []
          |false=>False
        | _=>False
      | .ow id sz j m=>match q0 esz sz with
        |true=>(0<=n/\n<m)/\E (.opt id esz (j+n.toNat) 0) []
        |false=>False
      | _=>False
     |⟨4,_,_,_,esz,len,_,_,_,_,_⟩=>match ρ x with
      | .ptr j off=>(0<=n/\n<len)/\E (.ptr j (off+n.toNat*esz)) []
      | .rp k y off=>(0<=n/\n<len)/\E (.rp k y (off+n.toNat*esz)) []
      | _=>False
     | _=>False
   | _=>False
 | .index t x i=>tgK T t fun ti=>match q0 ti.cls 5,ρ x,ρ i with
   |true,.str s,.int _ n=>(0<=n/\n<s.length)/\ ∀c,s[n.toNat]? =some c->E (.int .u8 c.toNat) []
   |false,.agg l,.int _ n=>match q0 ti.cls 4 with
    |true=>tgK T ti.e fun tj=>(0<=n/\n<ti.len)/\zqn l (n.toNat*ti.esz) tj.sz tj.agg fun v=>E v []
    |false=>False
   | _,_,_=>False
 | .extract x n=>match ρ x with
   | .tup l=>cut l n 1 fun r=>match r with
     | [a]=>E a []
     | _=>False
   | _=>False
 | .call c=>match c.callee with
   | .builtin .len =>match c.args.toList,c.argTypes.toList with
     | [x],[t]=>match isMp (ρ x)with
       |true=>zh1 T t fun _ _ _=>zqr bs E
       |false=>tgK T t fun i=>zlr i (ρ x) bs E
     | _,_=>False
   | .builtin .append =>match c.args.toList,c.argTypes.toList with
     | [s,x],[t,t']=>match q0 t t' with
       |true=>tgK T t fun i=>zyb T i dst (ρ s) (ρ x) bs E
       |false=>False
     | _,_=>False
   | .builtin .max =>match xd ρ c.args.toList with
     | [.int k a,.int _ b]=>E (.int k (if b>a then b else a)) []
     | [.int k a,.int _ b,.int _ d]=>E (.int k (if d>(if b>a then b else a)then d else if b>a then b else a)) []
     | _=>False
   | .builtin .min =>match xd ρ c.args.toList with
     | [.int k a,.int _ b]=>E (.int k (if b<a then b else a)) []
     | _=>False
   | .value f=>match ρ f with
     | .fn g caps=>match qd3 T g with
       |0=>ziv (xd ρ c.args.toList++caps) fun A=>app (C.fn g) A ids bs E
       |n+1=>ziv (xd ρ c.args.toList++caps) fun A=>appN (C.fn g) (n+1) dst A ids bs E
     | .cb l=>ziv (xd ρ c.args.toList) fun A=>app (C.cb l) A ids bs E
     | _=>False
   | _=>False
 | .makeMap t r=>zh1 T t fun kk vk _=>match bs,resA (r.map ρ)with
   | [.free],true=>E (.mp dst) [.map kk vk []]
   | _,_=>False
 | .lookup t x i ok=>lkOp T t (ρ x) (ρ i) ok bs E
 | .mapUpdate t m k v=>qf5 T t (ρ m) (ρ k) (ρ v) bs E
 | .insert t m k v=>qf5 T t (ρ m) (ρ k) (ρ v) bs E
 | .slice t x lo hi mx=>tgK T t fun i=>match qgt T hi with
   |true=>match ρ x,lo.map ρ,hi.map ρ,mx,bs with
    | .own id,some (.int _ l),some (.int _ h),none,[.buf _ k xs]=>match q0 i.cls 3,q0 i.esz k.size with
      |true,true=>(0<=l/\l<h/\h<=xs.length)/\E (.ow id k.size l.toNat (h.toNat-l.toNat)) []
      | _,_=>False
    | _,_,_,_,_=>False
   |false=>qdw i (ρ x) (lo.map ρ) (hi.map ρ) (mx.map ρ) E
 | _=>False
def qbr (Z:St) (dst:Option Nat) (v:AV) (K:St->Prop):Prop:=match Z with
 |⟨sl,hp⟩=>match dst with
  |some d=>zyw sl d v fun l=>K ⟨l,hp⟩
  |none=>K ⟨sl,hp⟩
def zxo (h:Hp) (l:List Nat) (K:List Nat->Prop):Prop:=
 ze9 (zqv (qi h l)) fun m=>ze9 (l++m) fun n=>ze9 (nub n) K
def zww (T:Tab) (op:Op) (dst:Nat) (ρ:Operand->AV) (hp:Hp) (K:List Nat->Prop):Prop:=
 match op with
 | .call c=>match c.callee with
   | .value f=>match ρ f with
     | .fn g caps=>ze9 (glL T g (ko (xd ρ c.args.toList)++ko caps)) fun l=>ze9 (nub l) fun l=>zxo hp l fun l=>zxo hp l fun l=>match qd3 T g with
       |0=>K l
       |n+1=>ze9 (dst::(zm n (dst+100000)++l)) K
     | _=>ze9 (xn T op dst ρ hp) K
   | _=>ze9 (xn T op dst ρ hp) K
 | _=>ze9 (xn T op dst ρ hp) K
def vf (o:Oper):Nat:=match o.dst with
 |some d=>d
 |none=>0
def dstK (o:Oper) (K:Nat->Prop):Prop:=match o.dst with
 |some d=>K d
 |none=>K 0
def zn1 (T:Tab) (C:Con) (o:Oper) (Z:St) (K:St->Prop):Prop:=match Z with
 |⟨sl,hp⟩=>dstK o fun dst=>match q1 dst 99999 with
  |true=>zww T o.op dst (zj sl) hp fun ids=>zuc (qi hp ids) fun bs=>qm T C o.op dst (zj sl) ids bs fun v bs=>
   frc v fun v=>qbr ⟨sl,hp⟩ o.dst v fun σ'=>match wr o.op with
    |true=>match σ' with
     |⟨sl',hp'⟩=>zuc bs fun bs=>zbd hp' ids bs fun h=>K ⟨sl',h⟩
    |false=>K σ'
  |false=>False
mutual
def AV.fz (id:Nat) (k:Elt) (xs:List k.T):AV->AV
 | .own i=>match q0 i id with
   |true=> .sl k xs
   |false=> .own i
 | .opt i s j o=>match q0 i id with
   |true=> .any
   |false=> .opt i s j o
 | .ow i s j n=>match q0 i id with
   |true=> .any
   |false=> .ow i s j n
 | .agg l=> .agg (fzL id k xs l)
 | .tup l=> .tup (fzL id k xs l)
 | .fn f l=> .fn f (fzL id k xs l)
 | .any => .any
 | .bool b=> .bool b
 | .int t n=> .int t n
 | .str s=> .str s
 | .nilp => .nilp
 | .ptr i o=> .ptr i o
 | .rp t x o=> .rp t x o
 | .nilsl => .nilsl
 | .sl t ys=> .sl t ys
 | .nilf => .nilf
 | .mp i=> .mp i
 | .nilm => .nilm
 | .ub p q=> .ub p q
 | .cb l=> .cb l
 | .val x=> .val x
def fzL (id:Nat) (k:Elt) (xs:List k.T):List AV->List AV
 | []=> []
 |a::l=>a.fz id k xs::fzL id k xs l
end
def fzH (id:Nat) (k:Elt) (xs:List k.T):Hp->Hp
 | []=> []
 |(i,b)::r=>(match q0 i id with
  |true=>(i,.dead)
  |false=>(i,match b with| .cells l=> .cells (fzL id k xs l)|b=>b))::fzH id k xs r
def zrc:Hp->(Hp->Prop)->Prop
 | [],k=>k []
 |(i,b)::r,k=>qg3 b fun b=>zrc r fun r=>k ((i,b)::r)
def zg8:List Nat->St->(St->Prop)->Prop
 | [],Z,K=>K Z
 |id::is,Z,K=>match hget Z.hp id,q1 id 999999 with
  | .buf _ k xs,true=>ziv (fzL id k xs Z.sl) fun sl=>zrc (fzH id k xs Z.hp) fun hp=>zg8 is ⟨sl,hp⟩ K
  | _,_=>False
def thaw (T:Tab) (op:Op) (ρ:Operand->AV):List Nat:=
 match op with
 | .buildSlice _ _ parts=>zdi (zmn ρ parts.toList)
 | .mapUpdate _ _ k v=>zdi [ρ k,ρ v]
 | .insert _ _ k v=>zdi [ρ k,ρ v]
 | .slice _ x _ hi _=>match qgt T hi with
   |true=> []
   |false=>zdi [ρ x]
 | .store _ p v=>match ρ p with
   | .opt _ _ _ _=>(ρ v).owns
   | _=> []
 | .call c=>match c.callee with
   | .builtin .append =>match c.args.toList with
     | [_,x]=>(ρ x).owns
     | _=> []
   | .value f=>match ρ f with
     | .fn g caps=>match zfd g T.of with
       |true=> []
       |false=>nub (zdi (xd ρ c.args.toList)++zdi caps)
     | .cb _=>nub (zdi (xd ρ c.args.toList))
     | _=> []
   | _=> []
 | _=> []
def runK (T:Tab) (C:Con) (o:Oper) (Z:St) (K:St->Prop):Prop:=
 match thaw T o.op (zj Z.sl)with
 | []=>zn1 T C o Z K
 |ids=>zg8 ids Z fun Z=>zn1 T C o Z K
def zae (ops:List Oper) (o:Oper) (Z:St) (run:St->Prop) (skip:St->Prop):Prop:=
 match o.guard with
 |none=>run Z
 |some (j,want)=>match ops[j]? with
  |none=>False
  |some oj=>match oj.dst with
   |none=>False
   |some d=>match Z.sl.getD d .any with
    | .bool b=> @Bool.rec (fun _=>Prop)
       (qbr Z (some d) (.bool false) fun Z=> @Bool.rec (fun _=>Prop) (run Z) (skip Z) want)
       (qbr Z (some d) (.bool true) fun Z=> @Bool.rec (fun _=>Prop) (skip Z) (run Z) want) b
    | .tup []=>skip Z
    | _=>False
def opK1 (T:Tab) (C:Con) (ops:List Oper) (o:Oper) (Z:St) (K:St->Prop):Prop:=
 zae ops o Z (fun Z=>runK T C o Z K) (fun Z=>qbr Z o.dst (.tup []) K)
def zzd (T:Tab) (C:Con) (ops:List Oper):List Oper->St->(St->Prop)->Prop
 | [],Z,K=>K Z
 |o::rest,Z,K=>opK1 T C ops o Z fun Z=>zzd T C ops rest Z K
abbrev FP:=List Nat×Bool
def opD1 (T:Tab) (C:Con) (ops:List Oper) (o:Oper) (Z:St) (K:FP->St->Prop):Prop:=
 zae ops o Z
  (fun Z=>match thaw T o.op (zj Z.sl)with
    | []=>zww T o.op (vf o) (zj Z.sl) Z.hp fun ids=>zn1 T C o Z fun σ'=>K (ids,wr o.op) σ'
    | _=>False)
  (fun Z=>qbr Z o.dst (.tup []) fun σ'=>K ([],false) σ')
def qbw (T:Tab) (C:Con) (ops:List Oper):List Oper->St->(List FP->St->Prop)->Prop
 | [],Z,K=>K [] Z
 |o::rest,Z,K=>opD1 T C ops o Z fun fp σ'=>qbw T C ops rest σ' fun fps σ''=>K (fp::fps) σ''
def zh4 (a b:FP):Bool:=match a.2||b.2 with
 |true=> !zef a.1 b.1
 |false=>false
def zhs (bs:List Nat) (o:Oper):Bool:=o.after.toList.any fun e=>Region.binds .any e&&zfd e.on bs
def zny (bs:List Nat) (m:Nat) (f:FP):List Oper->List FP->Bool
 |o::os,g::gs=>match zhs bs o with
  |true=>zny (m::bs) (m+1) f os gs
  |false=> !zh4 f g&&zny bs (m+1) f os gs
 | [],[]=>true
 | _,_=>false
def zxt:Nat->List Oper->List FP->Bool
 |i,_::os,f::fs=>zny [i] (i+1) f os fs&&zxt (i+1) os fs
 | _,[],[]=>true
 | _,_,_=>false
mutual
def AV.rn (d:Nat):AV->AV
 | .own i=>match q0 i d with
   |true=> .any
   |false=>match q0 i (d+100000)with
    |true=> .own d
    |false=> .own i
 | .opt i s j o=>match q0 i d with
   |true=> .any
   |false=>match q0 i (d+100000)with
    |true=> .opt d s j o
    |false=> .opt i s j o
 | .ow i s j n=>match q0 i d with
   |true=> .any
   |false=>match q0 i (d+100000)with
    |true=> .ow d s j n
    |false=> .ow i s j n
 | .ptr i o=>match q0 i d with
   |true=> .any
   |false=>match q0 i (d+100000)with
    |true=> .any
    |false=> .ptr i o
 | .agg l=> .agg (rnL d l)
 | .tup l=> .tup (rnL d l)
 | .fn f l=> .fn f (rnL d l)
 | .any => .any
 | .bool b=> .bool b
 | .int t n=> .int t n
 | .str s=> .str s
 | .nilp => .nilp
 | .rp t x o=> .rp t x o
 | .nilsl => .nilsl
 | .sl t ys=> .sl t ys
 | .nilf => .nilf
 | .mp i=>match q0 i d with
   |true=> .any
   |false=>match q0 i (d+100000)with
    |true=> .any
    |false=> .mp i
 | .nilm => .nilm
 | .ub p q=> .ub p q
 | .cb l=> .cb l
 | .val x=> .val x
def rnL (d:Nat):List AV->List AV
 | []=> []
 |a::l=>a.rn d::rnL d l
end
def rnH (d:Nat) (nb:Blk):Hp->Hp
 | []=> []
 |(i,b)::r=>(match q0 i d with
  |true=>(i,nb)
  |false=>match q0 i (d+100000)with
   |true=>(i,.free)
   |false=>(i,match b with| .cells l=> .cells (rnL d l)|b=>b))::rnH d nb r
def zvs:List Oper->List Nat
 | []=> []
 |o::r=>match o.op with
  | .call c=>match c.callee,o.dst with
    | .builtin .append,some d=>d::zvs r
    | _,_=>zvs r
  | _=>zvs r
def xe:List Nat->St->(St->Prop)->Prop
 | [],Z,K=>K Z
 |d::ds,Z,K=>match hget Z.hp (d+100000),hget Z.hp d,zfd d (Z.hp.map (·.1)),q1 d 99999 with
  | .buf e k xs,.dead,true,true=>ziv (rnL d Z.sl) fun sl=>zrc (rnH d (.buf e k xs) Z.hp) fun hp=>xe ds ⟨sl,hp⟩ K
  | _,_,_,_=>xe ds Z K
def qbx (T:Tab) (o:Oper):List Nat:=match o.dst with
 |none=> []
 |some d=>match o.op with
  | .alloc _=> [d]
  | .box _ _=> [d]
  | .buildSlice _ 0 _=> [d]
  | .makeSlice _ _ _=> [d]
  | .makeMap _ _=> [d]
  | .call c=>match c.callee with
    | .builtin .append => [d,d+100000,d+1500000]
    | .value (.func g)=>zm (qd3 T g) d
    | _=> []
  | _=> []
def zox (T:Tab):List Oper->List Nat
 | []=> []
 |o::r=>qbx T o++zox T r
def ztd:List Oper->List Nat
 | []=> []
 |o::r=>match o.dst with
  |some d=>d::ztd r
  |none=>ztd r
def zd (T:Tab):Code->List Nat
 | .region _ ops _=>zox T ops.toList
 | .seq a b=>zd T a++zd T b
 | .cond _ a b=>zd T a++zd T b
 | .block _ c=>zd T c
 | .loop c=>zd T c
 | .scope c=>zd T c
 | _=> []
def ja:Code->List Nat
 | .region _ ops _=>ztd ops.toList
 | .seq a b=>ja a++ja b
 | .cond _ a b=>ja a++ja b
 | .block _ c=>ja c
 | .loop c=>ja c
 | .scope c=>ja c
 | _=> []
mutual
def leA (h h':Hp):AV->AV->Prop
 | _,.any =>True
 | .bool a,.bool b=>a=b
 | .int k a,.int k' b=>match znt k k' with
   |true=>a=b
   |false=>False
 | .str a,.str b=>a=b
 | .nilp,.nilp =>True
 | .ptr i o,.ptr j p=>match q0 i j with
   |true=>o=p
   |false=>False
 | .rp k x o,.rp k' x' o'=>AV.rp k x o=AV.rp k' x' o'
 | .nilsl,.nilsl =>True
 | .nilsl,.sl k xs=>AV.sl k []=AV.sl k xs
 | .sl k xs,.sl k' xs'=>AV.sl k xs=AV.sl k' xs'
 | .nilsl,.own j=>match hget h j,hget h' j with
   | .free,.buf _ _ _=>True
   | .dead,.buf _ _ _=>True
   | _,_=>False
 | .own i,.own j=>match q0 i j,hget h i with
   |true,.buf _ _ _=>True
   | _,_=>False
 | .ow i s j n,.ow i' s' j' n'=>match q0 i i',hget h i with
   |true,.buf _ _ _=>s=s'/\j=j'/\n=n'
   | _,_=>False
 | .agg l,.agg m=>leL h h' l m
 | .tup l,.tup m=>leL h h' l m
 | .fn f l,.fn g m=>match q0 f g with
   |true=>leL h h' l m
   |false=>False
 | .nilf,.nilf =>True
 | .mp i,.mp j=>match q0 i j with
   |true=>True
   |false=>False
 | .nilm,.nilm =>True
 | .cb i,.cb j=>i=j
 | .val x,.val y=>x=y
 | _,_=>False
def leL (h h':Hp):List AV->List AV->Prop
 | [],[]=>True
 |a::l,b::m=>leA h h' a b/\leL h h' l m
 | _,_=>False
end
def leB (h h':Hp) (i:Nat):Blk->Blk->Prop
 | _,.free =>True
 | _,.dead =>True
 | .cells l,.cells m=>leL h h' l m
 | .buf e k xs,.buf e' k' xs'=>match q0 e e' with
   |true=>AV.sl k xs=AV.sl k' xs'
   |false=>False
 | .free,.buf _ k xs=>q1 i 999999=true/\AV.sl k []=AV.sl k xs
 | .dead,.buf _ k xs=>q1 i 999999=true/\AV.sl k []=AV.sl k xs
 | .map a b es,.map a' b' es'=>Blk.map a b es=Blk.map a' b' es'
 | .gst J,.gst J'=>J=J'
 | _,_=>False
def leH (h h':Hp):Hp->Hp->Prop
 | [],[]=>True
 |(i,b)::r,(j,c)::s=>match q0 i j with
  |true=>leB h h' i b c/\leH h h' r s
  |false=>False
 | _,_=>False
def leS (Z G:St):Prop:=leL Z.hp G.hp Z.sl G.sl/\leH Z.hp G.hp Z.hp G.hp
def qgz (ws:List Nat):Nat->List AV->(List AV->Prop)->Prop
 | _,[],k=>k []
 |i,a::l,k=>match zfd i ws with
  |true=>qgz ws (i+1) l fun l=>k (.any ::l)
  |false=>qgz ws (i+1) l fun l=>k (a::l)
def qg0 (ds:List Nat):Hp->(Hp->Prop)->Prop
 | [],k=>k []
 |(i,b)::r,k=>match zfd i ds with
  |true=>qg0 ds r fun r=>k ((i,.free)::r)
  |false=>qg0 ds r fun r=>k ((i,b)::r)
def upsK:List (Nat×AV)->List AV->(List AV->Prop)->Prop
 | [],l,k=>k l
 |(i,a)::us,l,k=>frc a fun a=>zyw l i a fun l=>upsK us l k
def uphK:List (Nat×Blk)->Hp->(Hp->Prop)->Prop
 | [],h,k=>k h
 |(i,b)::us,h,k=>qg3 b fun b=>zqw h i b fun h=>uphK us h k
def zpg (ws ds:List Nat) (us:List (Nat×AV)) (hu:List (Nat×Blk)) (Z:St) (K:St->Prop):Prop:=
 qgz ws 0 Z.sl fun l=>upsK us l fun l=>qg0 ds Z.hp fun h=>uphK hu h fun h=>K ⟨l,h⟩
def zer:Hp->List Nat
 | []=> []
 |(i,b)::r=>match b with
  | .free =>i::zer r
  | _=>zer r
abbrev GJ:=(Nat->Prop)->(Nat->Obj->Prop)->World->Prop
def zft (i:Nat):Nat:=i+1000000
def ze3:List Nat->List Nat
 | []=> []
 |i::l=>zft i::ze3 l
mutual
def AV.mvl (is:List Nat):AV->AV
 | .ptr i o=>match zfd i is with
   |true=> .ptr (zft i) o
   |false=> .any
 | .mp i=>match zfd i is with
   |true=> .mp (zft i)
   |false=> .any
 | .opt _ _ _ _=> .any
 | .ow _ _ _ _=> .any
 | .own _=> .any
 | .agg l=> .agg (zkt is l)
 | .tup l=> .tup (zkt is l)
 | .fn g l=> .fn g (zkt is l)
 | .any => .any
 | .bool b=> .bool b
 | .int t n=> .int t n
 | .str s=> .str s
 | .nilp => .nilp
 | .rp t x o=> .rp t x o
 | .nilsl => .nilsl
 | .sl t ys=> .sl t ys
 | .nilf => .nilf
 | .nilm => .nilm
 | .ub p q=> .ub p q
 | .cb l=> .cb l
 | .val x=> .val x
def zkt (is:List Nat):List AV->List AV
 | []=> []
 |a::l=>a.mvl is::zkt is l
end
def qb1:List Nat->Bool
 | []=>true
 | _=>false
def za6:List Blk->Bool
 | []=>true
 | .cells l::r=>qb1 (wg l)&&za6 r
 | .map _ _ _::r=>za6 r
 | _=>false
def qd8:List Nat->Bool
 | []=>true
 |i::l=>q1 i 999998&&qd8 l
def zdj:List Nat->Bool
 | []=>true
 |i::l=> !zfd i l&&zdj l
def zm4:List Nat->List AV->List AV->(List AV->Prop)->Prop
 |p::ps,v::vs,sl,K=>frc v fun v=>zyw sl p v fun sl=>zm4 ps vs sl K
 | [],[],sl,K=>K sl
 | _,_,_,_=>False
def rfOk (T:Tab) (hp:Hp) (g:Nat) (is:List Nat) (caps:List AV) (ib:List Blk):Bool:=
 q0 (qd3 T g) 0&&qd8 is&&zdj is&&zef is (wg caps)&&yi (qi hp (nub (wg caps)))&&zca (nub (wg caps)) ib&&yi ib&&zv2 (zee (wb (nub (wg caps)) ib)) (nub (wg caps))&&zv2 (zee (wb (nub (wg caps)) (qi hp (nub (wg caps))))) (nub (wg caps))&&qb1 (zdi caps)&&zef [zy] (nub (wg caps))&&ltB (nub (wg caps))
def zne (h:Hp):Hp->Hp
 | []=> []
 |(i,_)::r=>(i,hget h i)::zne h r
def zqy (is:List Nat) (bs:List Blk) (G:St):Prop:=match G with
 |⟨_,hp⟩=>leH hp (wb (ze3 is) bs) (zne hp (wb (ze3 is) bs)) (wb (ze3 is) bs)
def zhw:Hp->Hp->Hp
 | [],h=>h
 |x::r,h=>x::zhw r h
def wc:List Nat->Hp
 | []=> []
 |i::l=>(i,.free)::wc l
def wv (T:Tab) (C:Con) (top:Bool):Code->St->(Exit->St->Prop)->Prop
 | .skip,Z,Q=>Q .normal Z
 | .region _ ops draw,Z,Q=> @Bool.rec (fun _=>Prop)
    (zzd T C ops.toList ops.toList Z fun Z=>xe (zvs ops.toList) Z fun Z=>Q .normal Z)
    (qbw T C ops.toList ops.toList Z fun fps Z=>zxt 0 ops.toList fps=true/\Region.lexB .any ops=true/\xe (zvs ops.toList) Z fun Z=>Q .normal Z) draw
 | .seq a b,Z,Q=>wv T C top a Z fun e Z=>match e with
   | .normal =>wv T C top b Z Q
   | .exit i=>Q (.exit i) Z
   | .ret =>Q .ret Z
   | _=>False
 | .cond c a b,Z,Q=>match zj Z.sl c with
   | .bool t=> @Bool.rec (fun _=>Prop) (wv T C top b Z Q) (wv T C top a Z Q) t
   | .ub p q=>(p->wv T C top a Z Q)/\(q->wv T C top b Z Q)
   | _=>False
 | .block id c,Z,Q=>wv T C top c Z fun e Z=>match e with
   | .normal =>Q .normal Z
   | .exit i=>match q0 i id with
     |true=>Q .normal Z
     |false=>Q (.exit i) Z
   | .ret =>Q .ret Z
   | _=>False
 | .loop c,Z,Q=> ∃(X:Type) (I:X->Prop) (us:X->List (Nat×AV)) (hu:X->List (Nat×Blk)) (μ:X->Nat) (x₀:X),
    I x₀/\zpg (ja c) (zd T c) (us x₀) (hu x₀) Z (fun G=>leS Z G)/\
    ∀x,I x->zpg (ja c) (zd T c) (us x) (hu x) Z fun G=>zef (zer G.hp) G.ids=true/\
     wv T C top c G fun e σ'=>match e with
      | .normal => ∃x',I x'/\μ x'<μ x/\zpg (ja c) (zd T c) (us x') (hu x') Z fun τ'=>leS σ' τ'
      | .exit i=>Q (.exit i) σ'
      | .ret =>Q .ret σ'
      | _=>False
 | .rangeFunc f ps asg body,Z,Q=>match top,zj Z.sl f with
   |true,.fn g caps=> ∃(is:List Nat) (X Y:Type) (hb:X->List Blk) (live:X->Bool) (pend:X->Code) (args:Y->List AV) (next:X->Y->X) (x₀ xE:X) (r:AV) (ib:List Blk),
     qi Z.hp is=hb x₀/\live x₀=true/\rfOk T Z.hp g is caps ib=true/\zef (zd T asg++zd T body) (ze3 is)=true/\(∀x,za6 (hb x)=true/\zca is (hb x)=true)/\(∀y,qb1 (wg (args y))=true)/\
     (∀(l:Nat) (J:X->GJ),(∀x y,live x=true->C.cb l [(zy,.gst (J x))] (args y) (.bool (live (next x y))) [(zy,.gst (J (next x y)))])->
       C.fn g ((zy,.gst (J x₀))::wb (nub (wg caps)) (qi Z.hp (nub (wg caps)))) (.cb l::caps) r ((zy,.gst (J xE))::wb (nub (wg caps)) ib))/\
     (∀x y,live x=true->zm4 ps.toList (args y) (zkt is Z.sl) fun sl=>
       wv T C false asg ⟨sl,zhw (wc (zd T asg++zd T body)) (wb (ze3 is) (hb x))⟩ fun e G=>match e with
       | .normal =>wv T C false body G fun e G=>match e with
         | .normal =>live (next x y)=true/\zqy is (hb (next x y)) G
         | .exit id=>live (next x y)=false/\pend (next x y)= .exit id/\zqy is (hb (next x y)) G
         | .ret =>live (next x y)=false/\pend (next x y)= .ret /\zqy is (hb (next x y)) G
         | _=>False
       | _=>False)/\
     (match Z with
       |⟨sl,hp⟩=>zbd hp is (hb xE) fun hp=>zbd hp (nub (wg caps)) ib fun hp=> @Bool.rec (fun _=>Prop)
         (match pend xE with
           | .exit id=>Q (.exit id) ⟨sl,hp⟩
           | .ret =>Q .ret ⟨sl,hp⟩
           | _=>False)
         (Q .normal ⟨sl,hp⟩) (live xE))
   | _,_=>False
 | .exit id,Z,Q=>Q (.exit id) Z
 | .ret,Z,Q=>Q .ret Z
 | _,_,_=>False
def ye:Nat->List AV
 |0=> []
 |n+1=> .any ::ye n
def qbn (T:Tab):List ResultVar->St->(List AV->Prop)->Prop
 | [],_,k=>k []
 | .tmp t::r,Z,k=>frc (Z.sl.getD t .any) fun a=>qbn T r Z fun l=>k (a::l)
 | .cell a t::r,Z,k=>match Z.sl.getD a .any with
   | .ptr id off=>match hget Z.hp id with
     | .cells l=>tgK T t fun i=>ldK i l off fun v=>qbn T r Z fun m=>k (v::m)
     | _=>False
   | _=>False
def zlg:List AV->AV
 | [a]=>a
 |l=> .tup l
def exI (ex:List Nat) (i:Nat):Nat:=match q1 2000000 i with
 |true=>ex.getD (i-2000000) 0
 |false=>i
def qbt:Hp->List Nat
 | []=> []
 |(_,.cells l)::r=>zdi l++qbt r
 | _::r=>qbt r
def ztk:List Nat->List Nat->List Nat
 | [],_=> []
 |i::l,m=>match zfd i m with
  |true=>ztk l m
  |false=>i::ztk l m
def zhf (T:Tab) (res:List ResultVar) (ex:List Nat) (r:AV) (H':Hp) (Z:St):Prop:=
 qbn T res Z fun l=>zg8 (ztk (nub (zdi l++qbt (zne Z.hp (zf0 (exI ex) H')))) ex) Z fun Z=>qbn T res Z fun l=>match Z with
  |⟨_,hp⟩=>leA hp (zf0 (exI ex) H') (zlg l) (r.mapI (exI ex))/\leH hp (zf0 (exI ex) H') (zne hp (zf0 (exI ex) H')) (zf0 (exI ex) H')
def far (n:Nat):List Nat->Bool
 | []=>true
 |i::l=>match q1 1000000 i,q3 i (2000000+n),(q3 i 1500000||q1 1999999 i)with
  |true,true,true=>far n l
  | _,_,_=>false
def keys:Hp->List Nat
 | []=> []
 |(i,_)::r=>i::keys r
def zq2:Hp->List Blk
 | []=> []
 |(_,b)::r=>b::zq2 r
