/- The symbolic execution: operations, regions, code. The contracts of callees stand behind a letter (C). -/
import Derived.Test.YtlbmkjbgfkgcmaaGreatDoorTSxA
set_option linter.all false
open BitVec renaming ofInt->q2
open Nat renaming beq->q0,ble->q1,blt->q3
open Go.Op renaming bytesLess->q4
namespace Go.Sx
open Go
abbrev Hp:=List (Nat×Blk)
abbrev CT:=Hp->List AV->AV->Hp->Prop
structure Con where
 fn:Nat->CT
 cb:Nat->CT
abbrev qi:Nat:=1999999
def zti:List AV->Nat->Bool
 | [],0=>true
 | _::l,n+1=>zti l n
 | _,_=>false
def eqZ:List AV->List AV->List AV->(Bool->Prop)->Prop
 | [],[],[],k=>k true
 |.int .i64 _::z,.int .i64 a::l,.int .i64 b::m,k=>eqZ z l m fun r=>k (a==b&&r)
 |.str _::z,.str a::l,.str b::m,k=>eqZ z l m fun r=>k (a==b&&r)
 |.bool _::z,.bool a::l,.bool b::m,k=>eqZ z l m fun r=>k (a==b&&r)
 | _,_,_,_=>False
def qa5(o:BinOp)(k:IntKind)(a b:Int)(E:AV->Prop):Prop:=
 match o with
 |.add =>E (.int k (k.wrap (a+b)))
 |.sub =>E (.int k (k.wrap (a-b)))
 |.mul =>E (.int k (k.wrap (a*b)))
 |.quo =>b≠0/\E (.int k (k.wrap (a.tdiv b)))
 |.rem =>b≠0/\E (.int k (a.tmod b))
 |.and =>E (.int k (k.wrap (q2 k.bits a&&& q2 k.bits b).toNat))
 |.or =>E (.int k (k.wrap (q2 k.bits a|||q2 k.bits b).toNat))
 |.xor =>E (.int k (k.wrap (q2 k.bits a^^^q2 k.bits b).toNat))
 |.andNot =>E (.int k (k.wrap (q2 k.bits a&&& ~~~q2 k.bits b).toNat))
 |.eql =>E (.bool (a==b))
 |.neq =>E (.bool (a != b))
 |.lss =>E (.bool (a<b))
 |.leq =>E (.bool (a<=b))
 |.gtr =>E (.bool (a>b))
 |.geq =>E (.bool (a≥b))
 |.shl =>0<=b/\E (.int k (k.wrap (a*2^min b.toNat k.bits)))
 |.shr =>0<=b/\E (.int k (a.fdiv (2^min b.toNat k.bits)))
def strB(o:BinOp)(a b:zb7)(E:AV->Prop):Prop:=
 match o with
 |.add =>a.length+b.length<=140737488355328/\E (.str (a++b))
 |.eql =>E (.bool (a==b))
 |.neq =>E (.bool !(a==b))
 |.lss =>E (.bool (q4 a b))
 |.leq =>E (.bool (q4 a b||a==b))
 |.gtr =>E (.bool !(q4 a b||a==b))
 |.geq =>E (.bool !q4 a b)
 | _=>False
def znd:IntKind->IntKind->Bool
 |.i8,.i8 =>true|.i16,.i16 =>true|.i32,.i32 =>true|.i64,.i64 =>true
 |.u8,.u8 =>true|.u16,.u16 =>true|.u32,.u32 =>true|.u64,.u64 =>true
 | _,_=>false
def qb7(i:TI)(o:BinOp)(x y:AV)(E:AV->Prop):Prop:=
 match x,y with
 |.int k a,.int k' b=>match o with
   |.shl =>qa5 .shl k a b E
   |.shr =>qa5 .shr k a b E
   |o=>match znd k k' with
    |true=>qa5 o k a b E
    |false=>False
 |.str a,.str b=>strB o a b E
 |.bool a,.bool b=>match q0 i.cls 6,o with
   |true,.eql =>E (.bool (a==b))
   |true,.neq =>E (.bool !(a==b))
   | _,_=>False
 |.sl _ xs,.nilsl =>match q0 i.cls 3,o with
   |true,.eql =>E (.ub (xs= []) True)
   |true,.neq =>E (.ub True (xs= []))
   | _,_=>False
 |.agg l,.agg m=>match i.eq with
   |true=>match o with
    |.eql =>eqZ i.z l m fun r=>E (.bool r)
    |.neq =>eqZ i.z l m fun r=>E (.bool !r)
    | _=>False
   |false=>False
 | _,_=>False
def cut:List AV->Nat->Nat->(List AV->Prop)->Prop
 | _,0,0,k=>k []
 |a::l,0,n+1,k=>cut l 0 n fun r=>k (a::r)
 | [],0,_+1,_=>False
 | _::l,off+1,n,k=>cut l off n k
 | [],_+1,_,_=>False
def lay:List AV->Nat->List AV->(List AV->Prop)->Prop
 |l,0,[],k=>k l
 | _::l,0,b::m,k=>lay l 0 m fun r=>k (b::r)
 | [],0,_::_,_=>False
 |a::l,off+1,m,k=>lay l off m fun r=>k (a::r)
 | [],_+1,_,_=>False
def ldK(i:TI)(l:List AV)(off:Nat)(E:AV->Prop):Prop:=
 match i.agg with
 |true=>cut l off i.sz fun r=>E (.agg r)
 |false=>cut l off 1 fun r=>match r with
  | [a]=>E a
  | _=>False
def zcy:List (Nat×Nat×Bool)->Nat->(Nat->Nat->Bool->Prop)->Prop
 |(o,s,a)::_,0,k=>k o s a
 | _::r,f+1,k=>zcy r f k
 | [],_,_=>False
def zqi(l:List AV)(o s:Nat)(a:Bool)(E:AV->Prop):Prop:=
 match a with
 |true=>cut l o s fun r=>E (.agg r)
 |false=>cut l o 1 fun r=>match r with
  | [x]=>E x
  | _=>False
def zl3(fs:List (Nat×Nat×Bool)):List (Nat×AV)->List AV->(List AV->Prop)->Prop
 | [],z,k=>k z
 |(f,v)::r,z,k=>zcy fs f fun o s _=>match zti v.cs s,zeq v.cs with
  |true,true=>lay z o v.cs fun z=>zl3 fs r z k
  | _,_=>False
def zl5(s:Nat):List (Nat×AV)->List AV->(List AV->Prop)->Prop
 | [],z,k=>k z
 |(f,v)::r,z,k=>match zti v.cs s,zeq v.cs with
  |true,true=>lay z (f*s) v.cs fun z=>zl5 s r z k
  | _,_=>False
def zj9:Nat->List (Nat×Operand)->Bool
 | _,[]=>true
 |n,(i,_)::r=>match q0 n i with
  |true=>zj9 (n+1) r
  |false=>false
def kEq:Elt->Elt->Bool
 |.ex,.ex =>true|.str,.str =>true|.int,.int =>true|.rat,.rat =>true|.op,.op =>true|.eqn,.eqn =>true|.ex2,.ex2 =>true|.bool,.bool =>true|.u32,.u32 =>true|.ls,.ls =>true|.dy,.dy =>true|.iv,.iv =>true|.ki,.ki =>true|.vs,.vs =>true|.dd,.dd =>true|.u8,.u8 =>true|.f0,.f0 =>true|.fk,.fk =>true
 | _,_=>false
def alt(id dst:Nat):Nat:=match q0 id dst with
 |true=>dst+100000
 |false=>match q1 id 999999 with
  |true=>dst
  |false=>dst+1500000
def xf(ρ:Operand->AV):List Operand->List AV
 | []=> []
 |x::r=>ρ x::xf ρ r
def zq4(ρ:Operand->AV):List (Nat×Operand)->List (Nat×AV)
 | []=> []
 |(i,x)::r=>(i,ρ x)::zq4 ρ r
def zml(ρ:Operand->AV):List (Nat×Operand)->List AV
 | []=> []
 |(_,x)::r=>ρ x::zml ρ r
def wh:List Nat->List Blk->Hp
 |i::is,b::bs=>(i,b)::wh is bs
 | _,_=> []
def zck:List Nat->List Blk->Bool
 | [],[]=>true
 | _::is,_::bs=>zck is bs
 | _,_=>false
def pid:AV->List Nat
 |.ptr id _=> [id]
 |.opt id _ _ _=> [id]
 | _=> []
def mid:AV->List Nat
 |.mp id=> [id]
 | _=> []
def zp:Nat->Nat->List Nat
 |0,_=> []
 |n+1,d=>d::zp n (d+100000)
def qj(h:Hp):List Nat->List Blk
 | []=> []
 |i::is=>hget h i::qj h is
def zqp:List Blk->List Nat
 | []=> []
 |b::r=>match b with
  |.cells l=>kw l++zqp r
  | _=>zqp r
def zbf(h:Hp)(l:List Nat):List Nat:=nub (l++zqp (qj h l))
def glL(T:Tab)(g:Nat)(l:List Nat):List Nat:=match zev g T.gl with
 |true=>qi::l
 |false=>l
theorem qau{T:Tab}{g:Nat}{l:List Nat}{i:Nat}(h:i∈l):i∈glL T g l:=by
 unfold glL;split
 .exact List.mem_cons_of_mem _ h
 .exact h
def qeu(T:Tab):Option Operand->Bool
 |some (.tmp q)=>zev q T.wn
 | _=>false
def xt(T:Tab)(op:Op)(dst:Nat)(ρ:Operand->AV)(hp:Hp):List Nat:=
 match op with
 |.alloc _=> [dst]
 |.box _ _=> [dst]
 |.load _ p=>pid (ρ p)
 |.store _ p _=>pid (ρ p)
 |.indexAddr _ x _=>match ρ x with
   |.own id=> [id]
   | _=> []
 |.buildSlice _ 0 _=> [dst]
 |.makeSlice _ _ _=> [dst]
 |.makeMap _ _=> [dst]
 |.slice _ x _ hi _=>match qeu T hi with
   |true=>match ρ x with
    |.own id=> [id]
    | _=> []
   |false=> []
 |.lookup _ x _ _=>mid (ρ x)
 |.mapUpdate _ x _ _=>mid (ρ x)
 |.insert _ x _ _=>mid (ρ x)
 |.call c=>match c.callee with
   |.builtin .len =>match c.args.toList with
     | [x]=>match ρ x with
       |.own id=> [id]
       |.mp id=> [id]
       | _=> []
     | _=> []
   |.builtin .append =>match c.args.toList with
     | [x,_]=>match ρ x with
       |.own id=> [id,alt id dst]
       | _=> [dst]
     | _=> []
   |.value f=>match ρ f with
     |.fn g caps=>match qcw T g with
       |0=>zbf hp (zbf hp (nub (glL T g (kw (xf ρ c.args.toList)++kw caps))))
       |n+1=>dst::(zp n (dst+100000)++zbf hp (zbf hp (nub (glL T g (kw (xf ρ c.args.toList)++kw caps)))))
     |.cb _=>nub (qi::wk (xf ρ c.args.toList))
     | _=> []
   | _=> []
 | _=> []
def wr:Op->Bool
 |.alloc _=>true
 |.box _ _=>true
 |.store _ _ _=>true
 |.buildSlice _ 0 _=>true
 |.makeSlice _ _ _=>true
 |.makeMap _ _=>true
 |.mapUpdate _ _ _ _=>true
 |.insert _ _ _ _=>true
 |.call c=>match c.callee with
   |.builtin .append =>true
   |.value _=>true
   | _=>false
 | _=>false
def yf:List Blk->Bool
 | []=>true
 |.free ::_=>false
 | _::l=>yf l
def ltB:List Nat->Bool
 | []=>true
 |i::l=>match q3 i 2000000 with
  |true=>ltB l
  |false=>false
def app(c:CT)(A:List AV)(ids:List Nat)(bs:List Blk)(E:AV->List Blk->Prop):Prop:=
 ∃(bs':List Blk)(r:AV),c (wh ids bs) A r (wh ids bs')/\
  (match zck ids bs',zvr r.ids ids,zvr (zc4 (wh ids bs')) ids,yf bs',ltB ids with
   |true,true,true,true,true=>E r bs'
   | _,_,_,_,_=>False)
def zmb:Nat->List Blk->(List Blk->Prop)->Prop
 |0,bs,K=>K bs
 |n+1,.free ::bs,K=>zmb n bs K
 | _,_,_=>False
def zfp:Nat->List Nat->List Nat
 |0,l=>l
 |n+1,_::l=>zfp n l
 | _+1,[]=> []
def zce:Nat->Nat->List Nat
 |0,_=> []
 |n+1,j=>j::zce n (j+1)
def zmh:Hp->Hp->Hp
 | [],h=>h
 |x::r,h=>x::zmh r h
def catB:List Blk->List Blk->List Blk
 | [],h=>h
 |x::r,h=>x::catB r h
def qfs:List Nat->List Nat->List Nat
 | [],h=>h
 |x::r,h=>x::qfs r h
def mvI(d:Nat)(i:Nat):Nat:=match q1 2000000 i with
 |true=>d+100000*(i-2000000)
 |false=>i
def zwj:List Nat->Bool
 | []=>true
 |i::l=>match q1 i 999999 with
  |true=>zwj l
  |false=>false
def appN(c:CT)(n dst:Nat)(A:List AV)(ids:List Nat)(bs:List Blk)(E:AV->List Blk->Prop):Prop:=
 zmb n bs fun bs=>∃(bs' nbs:List Blk)(r:AV),c (wh (zfp n ids) bs) A r (zmh (wh (zfp n ids) bs') (wh (zce n 2000000) nbs))/\
  (match zck (zfp n ids) bs',zck (zce n 2000000) nbs,zvr r.ids (qfs (zfp n ids) (zce n 2000000)),zvr (zc4 (zmh (wh (zfp n ids) bs') (wh (zce n 2000000) nbs))) (qfs (zfp n ids) (zce n 2000000)),yf bs',yf nbs,
    zde (zp n dst) (zfp n ids),ltB (zfp n ids),q1 n 9,zwj (zfp n ids)with
   |true,true,true,true,true,true,true,true,true,true=>E (r.mapI (mvI dst)) (catB (qeo (mvI dst) nbs) (qeo (mvI dst) bs'))
   | _,_,_,_,_,_,_,_,_,_=>False)
def zlm(i:TI)(x:AV)(bs:List Blk)(E:AV->List Blk->Prop):Prop:=
 match x with
 |.str s=>match q0 i.cls 5 with
   |true=>E (.int .i64 s.length) []
   |false=>False
 |.sl _ xs=>match q0 i.cls 3 with
   |true=>E (.int .i64 xs.length) []
   |false=>False
 |.nilsl =>match q0 i.cls 3 with
   |true=>E (.int .i64 0) []
   |false=>False
 |.ow _ _ _ n=>match q0 i.cls 3 with
   |true=>E (.int .i64 n) []
   |false=>False
 |.own _=>match q0 i.cls 3,bs with
   |true,[.buf _ _ xs]=>E (.int .i64 xs.length) []
   | _,_=>False
 | _=>False
def isMp:AV->Bool
 |.mp _=>true
 | _=>false
def zqm(bs:List Blk)(E:AV->List Blk->Prop):Prop:=match bs with
 | [.map _ _ es]=>E (.int .i64 es.length) []
 | _=>False
def zxr(T:Tab)(i:TI)(dst:Nat)(s x:AV)(bs:List Blk)(E:AV->List Blk->Prop):Prop:=
 match i with
 |⟨3,_,_,e,esz,_,_,_,_,_,_⟩=>tgK T e fun j=>match j with
  |⟨_,sz,_,_,_,_,some k,_,_,bytes,_⟩=>match q0 esz k.size,q0 sz k.size,q1 1 bytes with
   |true,true,true=>match s,bs with
    |.nilsl,[.free]=>zz5 k x fun ys=>ys.length*bytes<=140737488355328/\E (.own dst) [.buf e k ys]
    |.own id,[.buf e' k' xs,.free]=>match q0 e e',kEq k k',q1 id 1999998 with
      |true,true,true=>zz5 k' x fun ys=>(xs.length+ys.length)*bytes<=140737488355328/\E (.own (alt id dst)) [.dead,.buf e' k' (xs++ys)]
      | _,_,_=>False
    | _,_=>False
   | _,_,_=>False
  | _=>False
 | _=>False
def vOk(v:TI)(vk:Elt):Bool:=match q0 v.sz vk.size,v.agg,q0 vk.size 1 with
 |true,true,false=>true
 |true,false,true=>true
 | _,_,_=>false
def aggA:AV->Bool
 |.agg _=>true
 | _=>false
def qc6(x:AV)(k:Elt):Bool:=match aggA x,q0 k.size 1 with
 |true,false=>true
 |false,true=>true
 | _,_=>false
def zh1(T:Tab)(t:Nat)(K:Elt->Elt->TI->Prop):Prop:=
 tgK T t fun i=>match i with
 |⟨9,_,_,kt,_,vt,_,_,_,_,_⟩=>tgK T kt fun j=>match j with
  |⟨_,_,_,_,_,_,some kk,_,_,_,_⟩=>tgK T vt fun v=>match v.k with
   |some vk=>match vOk v vk with
    |true=>K kk vk v
    |false=>False
   |none=>False
  | _=>False
 | _=>False
def lkOp(T:Tab)(t:Nat)(x i:AV)(ok:Bool)(bs:List Blk)(E:AV->List Blk->Prop):Prop:=
 zh1 T t fun kk vk v=>match x,bs with
 |.mp _,[.map kk' vk' es]=>match kEq kk kk',kEq vk vk',qc6 i kk' with
   |true,true,true=>qf kk' i.cs fun key=>qf vk' v.z fun z=>ldK v (vk'.cells (zj3 kk' key z es)) 0 fun u=>match ok with
    |true=>E (.tup [u,.bool (qcy kk' key es)]) []
    |false=>E u []
   | _,_,_=>False
 | _,_=>False
def qej(T:Tab)(t:Nat)(m x y:AV)(bs:List Blk)(E:AV->List Blk->Prop):Prop:=
 zh1 T t fun kk vk _=>match m,bs with
 |.mp _,[.map kk' vk' es]=>match kEq kk kk',kEq vk vk',qc6 x kk',qc6 y vk' with
   |true,true,true,true=>qf kk' x.cs fun key=>qf vk' y.cs fun u=>E .any [.map kk' vk' (qcx kk' key u es)]
   | _,_,_,_=>False
 | _,_=>False
def resA:Option AV->Bool
 |none=>true
 |some (.int _ _)=>true
 | _=>false
def zby(x:Option AV)(d:Int)(K:Int->Prop):Prop:=match x with
 |none=>K d
 |some (.int _ n)=>K n
 | _=>False
def qco(i:TI)(x:AV)(lo hi mx:Option AV)(E:AV->List Blk->Prop):Prop:=
 match mx with
 |some y=>match x,y,hi with
  |.sl k xs,.int _ m,some (.int _ h)=>match q0 i.cls 3,q0 i.esz k.size with
    |true,true=>zby lo 0 fun l=>(0<=l/\l<=h/\h<=m/\m<=xs.length)/\E (.sl k ((xs.take h.toNat).drop l.toNat)) []
    | _,_=>False
  | _,_,_=>False
 |none=>match x with
  |.sl k xs=>match q0 i.cls 3,q0 i.esz k.size with
    |true,true=>zby lo 0 fun l=>zby hi xs.length fun h=>(0<=l/\l<=h/\h<=xs.length)/\E (.sl k ((xs.take h.toNat).drop l.toNat)) []
    | _,_=>False
  |.str s=>match q0 i.cls 5 with
    |true=>zby lo 0 fun l=>zby hi s.length fun h=>(0<=l/\l<=h/\h<=s.length)/\E (.str ((s.take h.toNat).drop l.toNat)) []
    | _=>False
  |.nilsl =>match q0 i.cls 3 with
    |true=>zby lo 0 fun l=>zby hi 0 fun h=>(l=0/\h=0)/\E .nilsl []
    | _=>False
  | _=>False
def qo(T:Tab)(C:Con)(op:Op)(dst:Nat)(ρ:Operand->AV)(ids:List Nat)(bs:List Blk)(E:AV->List Blk->Prop):Prop:=
 match op with
 |.move x=>E (ρ x) []
 |.assign x=>E (ρ x) []
 |.pick c a b=>match ρ c with
   |.bool t=> @Bool.rec (fun _=>Prop) (E (ρ b) []) (E (ρ a) []) t
   | _=>False
 |.alloc t=>match bs with
   | [.free]=>tgK T t fun i=>match i with
     |⟨_,_,_,_,_,_,_,_,z,_,_⟩=>E (.ptr dst 0) [.cells z]
   | _=>False
 |.box _ x=>match bs,zeq (ρ x).cs with
   | [.free],true=>E (.ptr dst 0) [.cells (ρ x).cs]
   | _,_=>False
 |.build t parts=>tgK T t fun i=>match i with
   |⟨2,_,fs,_,_,_,_,_,z,_,_⟩=>zl3 fs (zq4 ρ parts.toList) z fun l=>E (.agg l) []
   |⟨4,_,_,_,esz,_,_,_,z,_,_⟩=>zl5 esz (zq4 ρ parts.toList) z fun l=>E (.agg l) []
   | _=>False
 |.buildSlice t n parts=>tgK T t fun i=>match i with
   |⟨3,_,_,e,esz,_,_,_,_,_,_⟩=>tgK T e fun j=>match j with
    |⟨_,sz,_,_,_,_,some k,_,_,_,_⟩=>match q0 esz k.size,q0 sz k.size with
     |true,true=>match n with
      |0=>match bs,parts.toList with
       | [.free],[]=>E (.own dst) [.buf e k []]
       | _,_=>False
      |n+1=>match zj9 0 parts.toList,q0 parts.toList.length (n+1),q1 ((n+1)*k.size) 1000 with
       |true,true,true=>zff k (zml ρ parts.toList) fun xs=>E (.sl k xs) []
       | _,_,_=>False
     | _,_=>False
    | _=>False
   | _=>False
 |.makeSlice t l c=>tgK T t fun i=>match i with
   |⟨3,_,_,e,esz,_,_,_,_,_,_⟩=>tgK T e fun j=>match j with
    |⟨_,sz,_,_,_,_,some k,_,z,bytes,_⟩=>match q0 esz k.size,q0 sz k.size,q1 1 bytes,ρ l,ρ c,bs with
     |true,true,true,.int _ n,.int _ m,[.free]=>qf k z fun x=>(0<=n/\n<=m/\m*bytes<=140737488355328)/\E (.own dst) [.buf e k (List.replicate n.toNat x)]
     | _,_,_,_,_,_=>False
    | _=>False
   | _=>False
 |.load t p=>match ρ p with
   |.ptr _ off=>match bs with
     | [.cells l]=>tgK T t fun i=>ldK i l off fun v=>E v []
     | _=>False
   |.rp k x off=>tgK T t fun i=>ldK i (k.cells x) off fun v=>E v []
   |.opt _ sz j off=>match bs with
     | [.buf _ k xs]=>match q0 sz k.size with
       |true=>j<xs.length/\∀x,xs[j]? =some x->tgK T t fun i=>ldK i (k.cells x) off fun v=>E v []
       |false=>False
     | _=>False
   | _=>False
 |.store t p v=>tgK T t fun i=>match zti (ρ v).cs i.sz,zeq (ρ v).cs with
   |true,true=>match ρ p with
    |.ptr _ off=>match bs with
      | [.cells l]=>lay l off (ρ v).cs fun l=>E .any [.cells l]
      | _=>False
    |.opt _ sz j off=>match bs with
      | [.buf e k xs]=>match q0 sz k.size,q0 i.sz k.size with
        |true,true=>match off with
         |0=>qf k (ρ v).cs fun y=>j<xs.length/\E .any [.buf e k (xs.set j y)]
         | _+1=>False
        |true,false=>j<xs.length/\∀x,xs[j]? =some x->lay (k.cells x) off (ρ v).cs fun l=>qf k l fun y=>E .any [.buf e k (xs.set j y)]
        | _,_=>False
      | _=>False
    | _=>False
   | _,_=>False
 |.nilCheck x=>match ρ x with
   |.ptr i o=>E (.ptr i o) []
   |.rp k y o=>E (.rp k y o) []
   |.opt i s j o=>E (.opt i s j o) []
   | _=>False
 |.binOp o t x y _=>tgK T t fun i=>qb7 i o (ρ x) (ρ y) fun v=>E v []
 |.unOp o _ x=>match o,ρ x with
   |.not,.bool b=>E (.bool !b) []
   |.neg,.int k n=>E (.int k (k.wrap (0-n))) []
   | _,_=>False
 |.convert s d x=>tgK T s fun j=>tgK T d fun i=>match ρ x with
   |.int _ n=>match j,i with
     |⟨1,_,_,_,_,_,_,_,_,_,_⟩,⟨1,_,_,_,_,_,_,ik,_,_,_⟩=>E (.int ik (ik.wrap n)) []
     | _,_=>False
   |.str b=>match q0 j.cls 5,q0 i.cls 5 with
     |true,true=>E (.str b) []
     | _,_=>False
   | _=>False
 |.makeFunc f first caps=>match f,first.toList with
   |.func f,[]=>E (.fn f (xf ρ caps.toList)) []
   | _,_=>False
 |.fieldAddr t x f=>tgK T t fun i=>match i with
   |⟨2,_,fs,_,_,_,_,_,_,_,_⟩=>zcy fs f fun o _ _=>match ρ x with
    |.ptr i off=>E (.ptr i (off+o)) []
    |.rp k y off=>E (.rp k y (off+o)) []
    |.opt i s j off=>E (.opt i s j (off+o)) []
    | _=>False
   | _=>False
 |.field t x f=>tgK T t fun i=>match i,ρ x with
   |⟨2,_,fs,_,_,_,_,_,_,_,_⟩,.agg l=>zcy fs f fun o s a=>zqi l o s a fun v=>E v []
   | _,_=>False
 |.indexAddr t x i=>tgK T t fun ti=>match ρ i with
   |.int _ n=>match ti with
     |⟨3,_,_,_,esz,_,_,_,_,_,_⟩=>match ρ x with
      |.sl k xs=>match q0 esz k.size with
        |true=>(0<=n/\n<xs.length)/\∀x,xs[n.toNat]? =some x->E (.rp k x 0) []
        |false=>False
      |.own id=>match bs with
        | [.buf _ k xs]=>match q0 esz k.size with
          |true=>(0<=n/\n<xs.length)/\E (.opt id esz n.toNat 0) []
          |false=>False
        | _=>False
      |.ow id sz j m=>match q0 esz sz with
        |true=>(0<=n/\n<m)/\E (.opt id esz (j+n.toNat) 0) []
        |false=>False
      | _=>False
     |⟨4,_,_,_,esz,len,_,_,_,_,_⟩=>match ρ x with
      |.ptr j off=>(0<=n/\n<len)/\E (.ptr j (off+n.toNat*esz)) []
      |.rp k y off=>(0<=n/\n<len)/\E (.rp k y (off+n.toNat*esz)) []
      | _=>False
     | _=>False
   | _=>False
 |.index t x i=>tgK T t fun ti=>match q0 ti.cls 5,ρ x,ρ i with
   |true,.str s,.int _ n=>(0<=n/\n<s.length)/\∀c,s[n.toNat]? =some c->E (.int .u8 c.toNat) []
   |false,.agg l,.int _ n=>match q0 ti.cls 4 with
    |true=>tgK T ti.e fun tj=>(0<=n/\n<ti.len)/\zqi l (n.toNat*ti.esz) tj.sz tj.agg fun v=>E v []
    |false=>False
   | _,_,_=>False
 |.extract x n=>match ρ x with
   |.tup l=>cut l n 1 fun r=>match r with
     | [a]=>E a []
     | _=>False
   | _=>False
 |.call c=>match c.callee with
   |.builtin .len =>match c.args.toList,c.argTypes.toList with
     | [x],[t]=>match isMp (ρ x)with
       |true=>zh1 T t fun _ _ _=>zqm bs E
       |false=>tgK T t fun i=>zlm i (ρ x) bs E
     | _,_=>False
   |.builtin .append =>match c.args.toList,c.argTypes.toList with
     | [s,x],[t,t']=>match q0 t t' with
       |true=>tgK T t fun i=>zxr T i dst (ρ s) (ρ x) bs E
       |false=>False
     | _,_=>False
   |.builtin .max =>match xf ρ c.args.toList with
     | [.int k a,.int _ b]=>E (.int k (if b>a then b else a)) []
     | [.int k a,.int _ b,.int _ d]=>E (.int k (if d>(if b>a then b else a)then d else if b>a then b else a)) []
     | _=>False
   |.builtin .min =>match xf ρ c.args.toList with
     | [.int k a,.int _ b]=>E (.int k (if b<a then b else a)) []
     | _=>False
   |.value f=>match ρ f with
     |.fn g caps=>match qcw T g with
       |0=>zkd (xf ρ c.args.toList++caps) fun A=>app (C.fn g) A ids bs E
       |n+1=>zkd (xf ρ c.args.toList++caps) fun A=>appN (C.fn g) (n+1) dst A ids bs E
     |.cb l=>zkd (xf ρ c.args.toList) fun A=>app (C.cb l) A ids bs E
     | _=>False
   | _=>False
 |.makeMap t r=>zh1 T t fun kk vk _=>match bs,resA (r.map ρ)with
   | [.free],true=>E (.mp dst) [.map kk vk []]
   | _,_=>False
 |.lookup t x i ok=>lkOp T t (ρ x) (ρ i) ok bs E
 |.mapUpdate t m k v=>qej T t (ρ m) (ρ k) (ρ v) bs E
 |.insert t m k v=>qej T t (ρ m) (ρ k) (ρ v) bs E
 |.slice t x lo hi mx=>tgK T t fun i=>match qeu T hi with
   |true=>match ρ x,lo.map ρ,hi.map ρ,mx,bs with
    |.own id,some (.int _ l),some (.int _ h),none,[.buf _ k xs]=>match q0 i.cls 3,q0 i.esz k.size with
      |true,true=>(0<=l/\l<h/\h<=xs.length)/\E (.ow id k.size l.toNat (h.toNat-l.toNat)) []
      | _,_=>False
    | _,_,_,_,_=>False
   |false=>qco i (ρ x) (lo.map ρ) (hi.map ρ) (mx.map ρ) E
 | _=>False
def qag(G:St)(dst:Option Nat)(v:AV)(K:St->Prop):Prop:=match G with
 |⟨sl,hp⟩=>match dst with
  |some d=>zyb sl d v fun l=>K ⟨l,hp⟩
  |none=>K ⟨sl,hp⟩
def zw3(h:Hp)(l:List Nat)(K:List Nat->Prop):Prop:=
 zfj (zqp (qj h l)) fun m=>zfj (l++m) fun n=>zfj (nub n) K
def zwi(T:Tab)(op:Op)(dst:Nat)(ρ:Operand->AV)(hp:Hp)(K:List Nat->Prop):Prop:=
 match op with
 |.call c=>match c.callee with
   |.value f=>match ρ f with
     |.fn g caps=>zfj (glL T g (kw (xf ρ c.args.toList)++kw caps)) fun l=>zfj (nub l) fun l=>zw3 hp l fun l=>zw3 hp l fun l=>match qcw T g with
       |0=>K l
       |n+1=>zfj (dst::(zp n (dst+100000)++l)) K
     | _=>zfj (xt T op dst ρ hp) K
   | _=>zfj (xt T op dst ρ hp) K
 | _=>zfj (xt T op dst ρ hp) K
def ve(o:Oper):Nat:=match o.dst with
 |some d=>d
 |none=>0
def dstK(o:Oper)(K:Nat->Prop):Prop:=match o.dst with
 |some d=>K d
 |none=>K 0
def zno(T:Tab)(C:Con)(o:Oper)(G:St)(K:St->Prop):Prop:=match G with
 |⟨sl,hp⟩=>dstK o fun dst=>match q1 dst 99999 with
  |true=>zwi T o.op dst (zm sl) hp fun ids=>zty (qj hp ids) fun bs=>qo T C o.op dst (zm sl) ids bs fun v bs=>
   frc v fun v=>qag ⟨sl,hp⟩ o.dst v fun σ'=>match wr o.op with
    |true=>match σ' with
     |⟨sl',hp'⟩=>zty bs fun bs=>zbb hp' ids bs fun h=>K ⟨sl',h⟩
    |false=>K σ'
  |false=>False
mutual
def AV.fz(id:Nat)(k:Elt)(xs:List k.T):AV->AV
 |.own i=>match q0 i id with
   |true=>.sl k xs
   |false=>.own i
 |.opt i s j o=>match q0 i id with
   |true=>.any
   |false=>.opt i s j o
 |.ow i s j n=>match q0 i id with
   |true=>.any
   |false=>.ow i s j n
 |.agg l=>.agg (fzL id k xs l)
 |.tup l=>.tup (fzL id k xs l)
 |.fn f l=>.fn f (fzL id k xs l)
 |.any =>.any
 |.bool b=>.bool b
 |.int t n=>.int t n
 |.str s=>.str s
 |.nilp =>.nilp
 |.ptr i o=>.ptr i o
 |.rp t x o=>.rp t x o
 |.nilsl =>.nilsl
 |.sl t ys=>.sl t ys
 |.nilf =>.nilf
 |.mp i=>.mp i
 |.nilm =>.nilm
 |.ub p q=>.ub p q
 |.cb l=>.cb l
 |.val x=>.val x
def fzL(id:Nat)(k:Elt)(xs:List k.T):List AV->List AV
 | []=> []
 |a::l=>a.fz id k xs::fzL id k xs l
end
def fzH(id:Nat)(k:Elt)(xs:List k.T):Hp->Hp
 | []=> []
 |(i,b)::r=>(match q0 i id with
  |true=>(i,.dead)
  |false=>(i,match b with|.cells l=>.cells (fzL id k xs l)|b=>b))::fzH id k xs r
def ztx:Hp->(Hp->Prop)->Prop
 | [],k=>k []
 |(i,b)::r,k=>qe8 b fun b=>ztx r fun r=>k ((i,b)::r)
def zg5:List Nat->St->(St->Prop)->Prop
 | [],G,K=>K G
 |id::is,G,K=>match hget G.hp id,q1 id 999999 with
  |.buf _ k xs,true=>zkd (fzL id k xs G.sl) fun sl=>ztx (fzH id k xs G.hp) fun hp=>zg5 is ⟨sl,hp⟩ K
  | _,_=>False
def thaw(T:Tab)(op:Op)(ρ:Operand->AV):List Nat:=
 match op with
 |.buildSlice _ _ parts=>zdx (zml ρ parts.toList)
 |.mapUpdate _ _ k v=>zdx [ρ k,ρ v]
 |.insert _ _ k v=>zdx [ρ k,ρ v]
 |.slice _ x _ hi _=>match qeu T hi with
   |true=> []
   |false=>zdx [ρ x]
 |.store _ p v=>match ρ p with
   |.opt _ _ _ _=>(ρ v).owns
   | _=> []
 |.call c=>match c.callee with
   |.builtin .append =>match c.args.toList with
     | [_,x]=>(ρ x).owns
     | _=> []
   |.value f=>match ρ f with
     |.fn g caps=>match zev g T.of with
       |true=> []
       |false=>nub (zdx (xf ρ c.args.toList)++zdx caps)
     |.cb _=>nub (zdx (xf ρ c.args.toList))
     | _=> []
   | _=> []
 | _=> []
def runK(T:Tab)(C:Con)(o:Oper)(G:St)(K:St->Prop):Prop:=
 match thaw T o.op (zm G.sl)with
 | []=>zno T C o G K
 |ids=>zg5 ids G fun G=>zno T C o G K
def zat(ops:List Oper)(o:Oper)(G:St)(run:St->Prop)(skip:St->Prop):Prop:=
 match o.guard with
 |none=>run G
 |some (j,want)=>match ops[j]? with
  |none=>False
  |some oj=>match oj.dst with
   |none=>False
   |some d=>match G.sl.getD d .any with
    |.bool b=> @Bool.rec (fun _=>Prop)
       (qag G (some d) (.bool false) fun G=> @Bool.rec (fun _=>Prop) (run G) (skip G) want)
       (qag G (some d) (.bool true) fun G=> @Bool.rec (fun _=>Prop) (skip G) (run G) want) b
    |.tup []=>skip G
    | _=>False
def opK1(T:Tab)(C:Con)(ops:List Oper)(o:Oper)(G:St)(K:St->Prop):Prop:=
 zat ops o G (fun G=>runK T C o G K) (fun G=>qag G o.dst (.tup []) K)
def zyi(T:Tab)(C:Con)(ops:List Oper):List Oper->St->(St->Prop)->Prop
 | [],G,K=>K G
 |o::rest,G,K=>opK1 T C ops o G fun G=>zyi T C ops rest G K
abbrev FP:=List Nat×Bool
def opD1(T:Tab)(C:Con)(ops:List Oper)(o:Oper)(G:St)(K:FP->St->Prop):Prop:=
 zat ops o G
  (fun G=>match thaw T o.op (zm G.sl)with
    | []=>zwi T o.op (ve o) (zm G.sl) G.hp fun ids=>zno T C o G fun σ'=>K (ids,wr o.op) σ'
    | _=>False)
  (fun G=>qag G o.dst (.tup []) fun σ'=>K ([],false) σ')
def qam(T:Tab)(C:Con)(ops:List Oper):List Oper->St->(List FP->St->Prop)->Prop
 | [],G,K=>K [] G
 |o::rest,G,K=>opD1 T C ops o G fun fp σ'=>qam T C ops rest σ' fun fps σ''=>K (fp::fps) σ''
def zh5(a b:FP):Bool:=match a.2||b.2 with
 |true=> !zde a.1 b.1
 |false=>false
def zi9(bs:List Nat)(o:Oper):Bool:=o.after.toList.any fun e=>Region.binds .any e&&zev e.on bs
def znj(bs:List Nat)(m:Nat)(f:FP):List Oper->List FP->Bool
 |o::os,g::gs=>match zi9 bs o with
  |true=>znj (m::bs) (m+1) f os gs
  |false=> !zh5 f g&&znj bs (m+1) f os gs
 | [],[]=>true
 | _,_=>false
def zxb:Nat->List Oper->List FP->Bool
 |i,_::os,f::fs=>znj [i] (i+1) f os fs&&zxb (i+1) os fs
 | _,[],[]=>true
 | _,_,_=>false
mutual
def AV.rn(d:Nat):AV->AV
 |.own i=>match q0 i d with
   |true=>.any
   |false=>match q0 i (d+100000)with
    |true=>.own d
    |false=>.own i
 |.opt i s j o=>match q0 i d with
   |true=>.any
   |false=>match q0 i (d+100000)with
    |true=>.opt d s j o
    |false=>.opt i s j o
 |.ow i s j n=>match q0 i d with
   |true=>.any
   |false=>match q0 i (d+100000)with
    |true=>.ow d s j n
    |false=>.ow i s j n
 |.ptr i o=>match q0 i d with
   |true=>.any
   |false=>match q0 i (d+100000)with
    |true=>.any
    |false=>.ptr i o
 |.agg l=>.agg (rnL d l)
 |.tup l=>.tup (rnL d l)
 |.fn f l=>.fn f (rnL d l)
 |.any =>.any
 |.bool b=>.bool b
 |.int t n=>.int t n
 |.str s=>.str s
 |.nilp =>.nilp
 |.rp t x o=>.rp t x o
 |.nilsl =>.nilsl
 |.sl t ys=>.sl t ys
 |.nilf =>.nilf
 |.mp i=>match q0 i d with
   |true=>.any
   |false=>match q0 i (d+100000)with
    |true=>.any
    |false=>.mp i
 |.nilm =>.nilm
 |.ub p q=>.ub p q
 |.cb l=>.cb l
 |.val x=>.val x
def rnL(d:Nat):List AV->List AV
 | []=> []
 |a::l=>a.rn d::rnL d l
end
def rnH(d:Nat)(nb:Blk):Hp->Hp
 | []=> []
 |(i,b)::r=>(match q0 i d with
  |true=>(i,nb)
  |false=>match q0 i (d+100000)with
   |true=>(i,.free)
   |false=>(i,match b with|.cells l=>.cells (rnL d l)|b=>b))::rnH d nb r
def zvh:List Oper->List Nat
 | []=> []
 |o::r=>match o.op with
  |.call c=>match c.callee,o.dst with
    |.builtin .append,some d=>d::zvh r
    | _,_=>zvh r
  | _=>zvh r
def xk:List Nat->St->(St->Prop)->Prop
 | [],G,K=>K G
 |d::ds,G,K=>match hget G.hp (d+100000),hget G.hp d,zev d (G.hp.map (·.1)),q1 d 99999 with
  |.buf e k xs,.dead,true,true=>zkd (rnL d G.sl) fun sl=>ztx (rnH d (.buf e k xs) G.hp) fun hp=>xk ds ⟨sl,hp⟩ K
  | _,_,_,_=>xk ds G K
def qan(T:Tab)(o:Oper):List Nat:=match o.dst with
 |none=> []
 |some d=>match o.op with
  |.alloc _=> [d]
  |.box _ _=> [d]
  |.buildSlice _ 0 _=> [d]
  |.makeSlice _ _ _=> [d]
  |.makeMap _ _=> [d]
  |.call c=>match c.callee with
    |.builtin .append => [d,d+100000,d+1500000]
    |.value (.func g)=>zp (qcw T g) d
    | _=> []
  | _=> []
def zop(T:Tab):List Oper->List Nat
 | []=> []
 |o::r=>qan T o++zop T r
def zs1:List Oper->List Nat
 | []=> []
 |o::r=>match o.dst with
  |some d=>d::zs1 r
  |none=>zs1 r
def ze(T:Tab):Code->List Nat
 |.region _ ops _=>zop T ops.toList
 |.seq a b=>ze T a++ze T b
 |.cond _ a b=>ze T a++ze T b
 |.block _ c=>ze T c
 |.loop c=>ze T c
 |.scope c=>ze T c
 | _=> []
def jn:Code->List Nat
 |.region _ ops _=>zs1 ops.toList
 |.seq a b=>jn a++jn b
 |.cond _ a b=>jn a++jn b
 |.block _ c=>jn c
 |.loop c=>jn c
 |.scope c=>jn c
 | _=> []
mutual
def leA(h h':Hp):AV->AV->Prop
 | _,.any =>True
 |.bool a,.bool b=>a=b
 |.int k a,.int k' b=>match znd k k' with
   |true=>a=b
   |false=>False
 |.str a,.str b=>a=b
 |.nilp,.nilp =>True
 |.ptr i o,.ptr j p=>match q0 i j with
   |true=>o=p
   |false=>False
 |.rp k x o,.rp k' x' o'=>AV.rp k x o=AV.rp k' x' o'
 |.nilsl,.nilsl =>True
 |.nilsl,.sl k xs=>AV.sl k []=AV.sl k xs
 |.sl k xs,.sl k' xs'=>AV.sl k xs=AV.sl k' xs'
 |.nilsl,.own j=>match hget h j,hget h' j with
   |.free,.buf _ _ _=>True
   |.dead,.buf _ _ _=>True
   | _,_=>False
 |.own i,.own j=>match q0 i j,hget h i with
   |true,.buf _ _ _=>True
   | _,_=>False
 |.ow i s j n,.ow i' s' j' n'=>match q0 i i',hget h i with
   |true,.buf _ _ _=>s=s'/\j=j'/\n=n'
   | _,_=>False
 |.agg l,.agg m=>leL h h' l m
 |.tup l,.tup m=>leL h h' l m
 |.fn f l,.fn g m=>match q0 f g with
   |true=>leL h h' l m
   |false=>False
 |.nilf,.nilf =>True
 |.mp i,.mp j=>match q0 i j with
   |true=>True
   |false=>False
 |.nilm,.nilm =>True
 |.cb i,.cb j=>i=j
 |.val x,.val y=>x=y
 | _,_=>False
def leL(h h':Hp):List AV->List AV->Prop
 | [],[]=>True
 |a::l,b::m=>leA h h' a b/\leL h h' l m
 | _,_=>False
end
def leB(h h':Hp)(i:Nat):Blk->Blk->Prop
 | _,.free =>True
 | _,.dead =>True
 |.cells l,.cells m=>leL h h' l m
 |.buf e k xs,.buf e' k' xs'=>match q0 e e' with
   |true=>AV.sl k xs=AV.sl k' xs'
   |false=>False
 |.free,.buf _ k xs=>q1 i 999999=true/\AV.sl k []=AV.sl k xs
 |.dead,.buf _ k xs=>q1 i 999999=true/\AV.sl k []=AV.sl k xs
 |.map a b es,.map a' b' es'=>Blk.map a b es=Blk.map a' b' es'
 |.gst J,.gst J'=>J=J'
 | _,_=>False
def leH(h h':Hp):Hp->Hp->Prop
 | [],[]=>True
 |(i,b)::r,(j,c)::s=>match q0 i j with
  |true=>leB h h' i b c/\leH h h' r s
  |false=>False
 | _,_=>False
def leS(G H:St):Prop:=leL G.hp H.hp G.sl H.sl/\leH G.hp H.hp G.hp H.hp
def qe2(ws:List Nat):Nat->List AV->(List AV->Prop)->Prop
 | _,[],k=>k []
 |i,a::l,k=>match zev i ws with
  |true=>qe2 ws (i+1) l fun l=>k (.any ::l)
  |false=>qe2 ws (i+1) l fun l=>k (a::l)
def qe3(ds:List Nat):Hp->(Hp->Prop)->Prop
 | [],k=>k []
 |(i,b)::r,k=>match zev i ds with
  |true=>qe3 ds r fun r=>k ((i,.free)::r)
  |false=>qe3 ds r fun r=>k ((i,b)::r)
def upsK:List (Nat×AV)->List AV->(List AV->Prop)->Prop
 | [],l,k=>k l
 |(i,a)::us,l,k=>frc a fun a=>zyb l i a fun l=>upsK us l k
def uphK:List (Nat×Blk)->Hp->(Hp->Prop)->Prop
 | [],h,k=>k h
 |(i,b)::us,h,k=>qe8 b fun b=>zqq h i b fun h=>uphK us h k
def zpf(ws ds:List Nat)(us:List (Nat×AV))(hu:List (Nat×Blk))(G:St)(K:St->Prop):Prop:=
 qe2 ws 0 G.sl fun l=>upsK us l fun l=>qe3 ds G.hp fun h=>uphK hu h fun h=>K ⟨l,h⟩
def zeh:Hp->List Nat
 | []=> []
 |(i,b)::r=>match b with
  |.free =>i::zeh r
  | _=>zeh r
abbrev GJ:=(Nat->Prop)->(Nat->Obj->Prop)->World->Prop
def zfu(i:Nat):Nat:=i+1000000
def zfe:List Nat->List Nat
 | []=> []
 |i::l=>zfu i::zfe l
mutual
def AV.mvl(is:List Nat):AV->AV
 |.ptr i o=>match zev i is with
   |true=>.ptr (zfu i) o
   |false=>.any
 |.mp i=>match zev i is with
   |true=>.mp (zfu i)
   |false=>.any
 |.opt _ _ _ _=>.any
 |.ow _ _ _ _=>.any
 |.own _=>.any
 |.agg l=>.agg (zkr is l)
 |.tup l=>.tup (zkr is l)
 |.fn g l=>.fn g (zkr is l)
 |.any =>.any
 |.bool b=>.bool b
 |.int t n=>.int t n
 |.str s=>.str s
 |.nilp =>.nilp
 |.rp t x o=>.rp t x o
 |.nilsl =>.nilsl
 |.sl t ys=>.sl t ys
 |.nilf =>.nilf
 |.nilm =>.nilm
 |.ub p q=>.ub p q
 |.cb l=>.cb l
 |.val x=>.val x
def zkr(is:List Nat):List AV->List AV
 | []=> []
 |a::l=>a.mvl is::zkr is l
end
def qap:List Nat->Bool
 | []=>true
 | _=>false
def za2:List Blk->Bool
 | []=>true
 |.cells l::r=>qap (wk l)&&za2 r
 |.map _ _ _::r=>za2 r
 | _=>false
def qc1:List Nat->Bool
 | []=>true
 |i::l=>q1 i 999998&&qc1 l
def zdy:List Nat->Bool
 | []=>true
 |i::l=> !zev i l&&zdy l
def zmx:List Nat->List AV->List AV->(List AV->Prop)->Prop
 |p::ps,v::vs,sl,K=>frc v fun v=>zyb sl p v fun sl=>zmx ps vs sl K
 | [],[],sl,K=>K sl
 | _,_,_,_=>False
def rfOk(T:Tab)(hp:Hp)(g:Nat)(is:List Nat)(caps:List AV)(ib:List Blk):Bool:=
 q0 (qcw T g) 0&&qc1 is&&zdy is&&zde is (wk caps)&&yf (qj hp (nub (wk caps)))&&zck (nub (wk caps)) ib&&yf ib&&zvr (zc4 (wh (nub (wk caps)) ib)) (nub (wk caps))&&zvr (zc4 (wh (nub (wk caps)) (qj hp (nub (wk caps))))) (nub (wk caps))&&qap (zdx caps)&&zde [qi] (nub (wk caps))&&ltB (nub (wk caps))
def zh0(h:Hp):Hp->Hp
 | []=> []
 |(i,_)::r=>(i,hget h i)::zh0 h r
def zqs(is:List Nat)(bs:List Blk)(H:St):Prop:=match H with
 |⟨_,hp⟩=>leH hp (wh (zfe is) bs) (zh0 hp (wh (zfe is) bs)) (wh (zfe is) bs)
def zhx:Hp->Hp->Hp
 | [],h=>h
 |x::r,h=>x::zhx r h
def wl:List Nat->Hp
 | []=> []
 |i::l=>(i,.free)::wl l
def ji(T:Tab)(C:Con)(top:Bool):Code->St->(Exit->St->Prop)->Prop
 |.skip,G,Q=>Q .normal G
 |.region _ ops draw,G,Q=> @Bool.rec (fun _=>Prop)
    (zyi T C ops.toList ops.toList G fun G=>xk (zvh ops.toList) G fun G=>Q .normal G)
    (qam T C ops.toList ops.toList G fun fps G=>zxb 0 ops.toList fps=true/\Region.lexB .any ops=true/\xk (zvh ops.toList) G fun G=>Q .normal G) draw
 |.seq a b,G,Q=>ji T C top a G fun e G=>match e with
   |.normal =>ji T C top b G Q
   |.exit i=>Q (.exit i) G
   |.ret =>Q .ret G
   | _=>False
 |.cond c a b,G,Q=>match zm G.sl c with
   |.bool t=> @Bool.rec (fun _=>Prop) (ji T C top b G Q) (ji T C top a G Q) t
   |.ub p q=>(p->ji T C top a G Q)/\(q->ji T C top b G Q)
   | _=>False
 |.block id c,G,Q=>ji T C top c G fun e G=>match e with
   |.normal =>Q .normal G
   |.exit i=>match q0 i id with
     |true=>Q .normal G
     |false=>Q (.exit i) G
   |.ret =>Q .ret G
   | _=>False
 |.loop c,G,Q=>∃(X:Type)(I:X->Prop)(us:X->List (Nat×AV))(hu:X->List (Nat×Blk))(μ:X->Nat)(x₀:X),
    I x₀/\zpf (jn c) (ze T c) (us x₀) (hu x₀) G (fun H=>leS G H)/\
    ∀x,I x->zpf (jn c) (ze T c) (us x) (hu x) G fun H=>zde (zeh H.hp) H.ids=true/\
     ji T C top c H fun e σ'=>match e with
      |.normal =>∃x',I x'/\μ x'<μ x/\zpf (jn c) (ze T c) (us x') (hu x') G fun τ'=>leS σ' τ'
      |.exit i=>Q (.exit i) σ'
      |.ret =>Q .ret σ'
      | _=>False
 |.rangeFunc f ps asg body,G,Q=>match top,zm G.sl f with
   |true,.fn g caps=>∃(is:List Nat)(X Y:Type)(hb:X->List Blk)(live:X->Bool)(pend:X->Code)(args:Y->List AV)(next:X->Y->X)(x₀ xE:X)(r:AV)(ib:List Blk),
     qj G.hp is=hb x₀/\live x₀=true/\rfOk T G.hp g is caps ib=true/\zde (ze T asg++ze T body) (zfe is)=true/\(∀x,za2 (hb x)=true/\zck is (hb x)=true)/\(∀y,qap (wk (args y))=true)/\
     (∀(l:Nat)(J:X->GJ),(∀x y,live x=true->C.cb l [(qi,.gst (J x))] (args y) (.bool (live (next x y))) [(qi,.gst (J (next x y)))])->
       C.fn g ((qi,.gst (J x₀))::wh (nub (wk caps)) (qj G.hp (nub (wk caps)))) (.cb l::caps) r ((qi,.gst (J xE))::wh (nub (wk caps)) ib))/\
     (∀x y,live x=true->zmx ps.toList (args y) (zkr is G.sl) fun sl=>
       ji T C false asg ⟨sl,zhx (wl (ze T asg++ze T body)) (wh (zfe is) (hb x))⟩ fun e H=>match e with
       |.normal =>ji T C false body H fun e H=>match e with
         |.normal =>live (next x y)=true/\zqs is (hb (next x y)) H
         |.exit id=>live (next x y)=false/\pend (next x y)=.exit id/\zqs is (hb (next x y)) H
         |.ret =>live (next x y)=false/\pend (next x y)=.ret /\zqs is (hb (next x y)) H
         | _=>False
       | _=>False)/\
     (match G with
       |⟨sl,hp⟩=>zbb hp is (hb xE) fun hp=>zbb hp (nub (wk caps)) ib fun hp=> @Bool.rec (fun _=>Prop)
         (match pend xE with
           |.exit id=>Q (.exit id) ⟨sl,hp⟩
           |.ret =>Q .ret ⟨sl,hp⟩
           | _=>False)
         (Q .normal ⟨sl,hp⟩) (live xE))
   | _,_=>False
 |.exit id,G,Q=>Q (.exit id) G
 |.ret,G,Q=>Q .ret G
 | _,_,_=>False
def uo:Nat->List AV
 |0=> []
 |n+1=>.any ::uo n
def qac(T:Tab):List ResultVar->St->(List AV->Prop)->Prop
 | [],_,k=>k []
 |.tmp t::r,G,k=>frc (G.sl.getD t .any) fun a=>qac T r G fun l=>k (a::l)
 |.cell a t::r,G,k=>match G.sl.getD a .any with
   |.ptr id off=>match hget G.hp id with
     |.cells l=>tgK T t fun i=>ldK i l off fun v=>qac T r G fun m=>k (v::m)
     | _=>False
   | _=>False
def zla:List AV->AV
 | [a]=>a
 |l=>.tup l
def exI(ex:List Nat)(i:Nat):Nat:=match q1 2000000 i with
 |true=>ex.getD (i-2000000) 0
 |false=>i
def qaj:Hp->List Nat
 | []=> []
 |(_,.cells l)::r=>zdx l++qaj r
 | _::r=>qaj r
def zte:List Nat->List Nat->List Nat
 | [],_=> []
 |i::l,m=>match zev i m with
  |true=>zte l m
  |false=>i::zte l m
def lowF:List Nat->List Nat
 | []=> []
 |i::l=>match q1 i 999999 with
  |true=>i::lowF l
  |false=>lowF l
def ze3(T:Tab)(res:List ResultVar)(ex:List Nat)(r:AV)(H':Hp)(G:St):Prop:=
 qac T res G fun l=>zg5 (lowF (zte (nub (zdx l++qaj (zh0 G.hp (zew (exI ex) H')))) ex)) G fun G=>qac T res G fun l=>match G with
  |⟨_,hp⟩=>leA hp (zew (exI ex) H') (zla l) (r.mapI (exI ex))/\leH hp (zew (exI ex) H') (zh0 hp (zew (exI ex) H')) (zew (exI ex) H')
def far(n:Nat):List Nat->Bool
 | []=>true
 |i::l=>match q1 1000000 i,q3 i (2000000+n),(q3 i 1500000||q1 1999999 i)with
  |true,true,true=>far n l
  | _,_,_=>false
def keys:Hp->List Nat
 | []=> []
 |(i,_)::r=>i::keys r
def zqv:Hp->List Blk
 | []=> []
 |(_,b)::r=>b::zqv r
