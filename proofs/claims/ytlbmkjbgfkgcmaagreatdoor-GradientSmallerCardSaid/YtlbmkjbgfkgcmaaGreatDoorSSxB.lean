/- The symbolic execution: operations, regions, code. The contracts of callees stand behind a letter (C). -/
import Derived.Test.YtlbmkjbgfkgcmaaGreatDoorSSxA
set_option linter.all false
open BitVec renaming ofInt->q2
open Nat renaming beq->q0,ble->q1,blt->q3
open Go.Op renaming bytesLess->q9
namespace Go.Sx
open Go
abbrev Hp:=List (Nat×Blk)
abbrev CT:=Hp->List AV->AV->Hp->Prop
structure Con where
 fn:Nat->CT
 cb:Nat->CT
abbrev qo:Nat:=1999999
def zsu:List AV->Nat->Bool
 | [],0=>true
 | _::l,n+1=>zsu l n
 | _,_=>false
def eqZ:List AV->List AV->List AV->(Bool->Prop)->Prop
 | [],[],[],k=>k true
 |.int .i64 _::z,.int .i64 a::l,.int .i64 b::m,k=>eqZ z l m fun r=>k (a==b&&r)
 |.str _::z,.str a::l,.str b::m,k=>eqZ z l m fun r=>k (a==b&&r)
 |.bool _::z,.bool a::l,.bool b::m,k=>eqZ z l m fun r=>k (a==b&&r)
 | _,_,_,_=>False
def qaq(o:BinOp)(k:IntKind)(a b:Int)(E:AV->Prop):Prop:=
 match o with
 |.add =>E (.int k (k.wrap (a+b)))
 |.sub =>E (.int k (k.wrap (a-b)))
 |.mul =>E (.int k (k.wrap (a*b)))
 |.quo =>b≠0/\E (.int k (k.wrap (a.tdiv b)))
 |.rem =>b≠0/\E (.int k (a.tmod b))
 |.and =>E (.int k (k.wrap (q2 k.bits a&&& q2 k.bits b).toNat))
 |.or =>E (.int k (k.wrap (q2 k.bits a|||q2 k.bits b).toNat))
 |.xor =>E (.int k (k.wrap (q2 k.bits a^^^q2 k.bits b).toNat))
 |.andNot =>E (.int k (k.wrap (q2 k.bits a&&& ~~~q2 k.bits b).toNat))
 |.eql =>E (.bool (a==b))
 |.neq =>E (.bool (a != b))
 |.lss =>E (.bool (a<b))
 |.leq =>E (.bool (a<=b))
 |.gtr =>E (.bool (a>b))
 |.geq =>E (.bool (a≥b))
 |.shl =>0<=b/\E (.int k (k.wrap (a*2^min b.toNat k.bits)))
 |.shr =>0<=b/\E (.int k (a.fdiv (2^min b.toNat k.bits)))
def strB(o:BinOp)(a b:zbw)(E:AV->Prop):Prop:=
 match o with
 |.add =>a.length+b.length<=140737488355328/\E (.str (a++b))
 |.eql =>E (.bool (a==b))
 |.neq =>E (.bool !(a==b))
 |.lss =>E (.bool (q9 a b))
 |.leq =>E (.bool (q9 a b||a==b))
 |.gtr =>E (.bool !(q9 a b||a==b))
 |.geq =>E (.bool !q9 a b)
 | _=>False
def zmr:IntKind->IntKind->Bool
 |.i8,.i8 =>true|.i16,.i16 =>true|.i32,.i32 =>true|.i64,.i64 =>true
 |.u8,.u8 =>true|.u16,.u16 =>true|.u32,.u32 =>true|.u64,.u64 =>true
 | _,_=>false
def qbo(i:TI)(o:BinOp)(x y:AV)(E:AV->Prop):Prop:=
 match x,y with
 |.int k a,.int k' b=>match o with
   |.shl =>qaq .shl k a b E
   |.shr =>qaq .shr k a b E
   |o=>match zmr k k' with
    |true=>qaq o k a b E
    |false=>False
 |.str a,.str b=>strB o a b E
 |.bool a,.bool b=>match q0 i.cls 6,o with
   |true,.eql =>E (.bool (a==b))
   |true,.neq =>E (.bool !(a==b))
   | _,_=>False
 |.sl _ xs,.nilsl =>match q0 i.cls 3,o with
   |true,.eql =>E (.ub (xs= []) True)
   |true,.neq =>E (.ub True (xs= []))
   | _,_=>False
 |.agg l,.agg m=>match i.eq with
   |true=>match o with
    |.eql =>eqZ i.z l m fun r=>E (.bool r)
    |.neq =>eqZ i.z l m fun r=>E (.bool !r)
    | _=>False
   |false=>False
 | _,_=>False
def cut:List AV->Nat->Nat->(List AV->Prop)->Prop
 | _,0,0,k=>k []
 |a::l,0,n+1,k=>cut l 0 n fun r=>k (a::r)
 | [],0,_+1,_=>False
 | _::l,off+1,n,k=>cut l off n k
 | [],_+1,_,_=>False
def lay:List AV->Nat->List AV->(List AV->Prop)->Prop
 |l,0,[],k=>k l
 | _::l,0,b::m,k=>lay l 0 m fun r=>k (b::r)
 | [],0,_::_,_=>False
 |a::l,off+1,m,k=>lay l off m fun r=>k (a::r)
 | [],_+1,_,_=>False
def ldK(i:TI)(l:List AV)(off:Nat)(E:AV->Prop):Prop:=
 match i.agg with
 |true=>cut l off i.sz fun r=>E (.agg r)
 |false=>cut l off 1 fun r=>match r with
  | [a]=>E a
  | _=>False
def zch:List (Nat×Nat×Bool)->Nat->(Nat->Nat->Bool->Prop)->Prop
 |(o,s,a)::_,0,k=>k o s a
 | _::r,f+1,k=>zch r f k
 | [],_,_=>False
def zps(l:List AV)(o s:Nat)(a:Bool)(E:AV->Prop):Prop:=
 match a with
 |true=>cut l o s fun r=>E (.agg r)
 |false=>cut l o 1 fun r=>match r with
  | [x]=>E x
  | _=>False
def zk8(fs:List (Nat×Nat×Bool)):List (Nat×AV)->List AV->(List AV->Prop)->Prop
 | [],z,k=>k z
 |(f,v)::r,z,k=>zch fs f fun o s _=>match zsu v.cs s,zd7 v.cs with
  |true,true=>lay z o v.cs fun z=>zk8 fs r z k
  | _,_=>False
def zla(s:Nat):List (Nat×AV)->List AV->(List AV->Prop)->Prop
 | [],z,k=>k z
 |(f,v)::r,z,k=>match zsu v.cs s,zd7 v.cs with
  |true,true=>lay z (f*s) v.cs fun z=>zla s r z k
  | _,_=>False
def zjj:Nat->List (Nat×Operand)->Bool
 | _,[]=>true
 |n,(i,_)::r=>match q0 n i with
  |true=>zjj (n+1) r
  |false=>false
def kEq:Elt->Elt->Bool
 |.ex,.ex =>true|.str,.str =>true|.int,.int =>true|.rat,.rat =>true|.op,.op =>true|.eqn,.eqn =>true|.ex2,.ex2 =>true|.bool,.bool =>true|.u32,.u32 =>true|.ls,.ls =>true|.dy,.dy =>true|.iv,.iv =>true|.ki,.ki =>true|.vs,.vs =>true|.dd,.dd =>true|.u8,.u8 =>true|.f0,.f0 =>true|.fk,.fk =>true
 | _,_=>false
def alt(id dst:Nat):Nat:=match q0 id dst with
 |true=>dst+100000
 |false=>match q1 id 999999 with
  |true=>dst
  |false=>dst+1500000
def yz(ρ:Operand->AV):List Operand->List AV
 | []=> []
 |x::r=>ρ x::yz ρ r
def zqf(ρ:Operand->AV):List (Nat×Operand)->List (Nat×AV)
 | []=> []
 |(i,x)::r=>(i,ρ x)::zqf ρ r
def zly(ρ:Operand->AV):List (Nat×Operand)->List AV
 | []=> []
 |(_,x)::r=>ρ x::zly ρ r
def wb:List Nat->List Blk->Hp
 |i::is,b::bs=>(i,b)::wb is bs
 | _,_=> []
def zb7:List Nat->List Blk->Bool
 | [],[]=>true
 | _::is,_::bs=>zb7 is bs
 | _,_=>false
def pid:AV->List Nat
 |.ptr id _=> [id]
 |.opt id _ _ _=> [id]
 | _=> []
def mid:AV->List Nat
 |.mp id=> [id]
 | _=> []
def zm:Nat->Nat->List Nat
 |0,_=> []
 |n+1,d=>d::zm n (d+100000)
def qi(h:Hp):List Nat->List Blk
 | []=> []
 |i::is=>hget h i::qi h is
def zp0:List Blk->List Nat
 | []=> []
 |b::r=>match b with
  |.cells l=>kg l++zp0 r
  | _=>zp0 r
def za8(h:Hp)(l:List Nat):List Nat:=nub (l++zp0 (qi h l))
def glL(T:Tab)(g:Nat)(l:List Nat):List Nat:=match zfa g T.gl with
 |true=>qo::l
 |false=>l
theorem qah{T:Tab}{g:Nat}{l:List Nat}{i:Nat}(h:i∈l):i∈glL T g l:=by
 unfold glL;split
 .exact List.mem_cons_of_mem _ h
 .exact h
def qee(T:Tab):Option Operand->Bool
 |some (.tmp q)=>zfa q T.wn
 | _=>false
def xg(T:Tab)(op:Op)(dst:Nat)(ρ:Operand->AV)(hp:Hp):List Nat:=
 match op with
 |.alloc _=> [dst]
 |.box _ _=> [dst]
 |.load _ p=>pid (ρ p)
 |.store _ p _=>pid (ρ p)
 |.indexAddr _ x _=>match ρ x with
   |.own id=> [id]
   | _=> []
 |.buildSlice _ 0 _=> [dst]
 |.makeSlice _ _ _=> [dst]
 |.makeMap _ _=> [dst]
 |.slice _ x _ hi _=>match qee T hi with
   |true=>match ρ x with
    |.own id=> [id]
    | _=> []
   |false=> []
 |.lookup _ x _ _=>mid (ρ x)
 |.mapUpdate _ x _ _=>mid (ρ x)
 |.insert _ x _ _=>mid (ρ x)
 |.call c=>match c.callee with
   |.builtin .len =>match c.args.toList with
     | [x]=>match ρ x with
       |.own id=> [id]
       |.mp id=> [id]
       | _=> []
     | _=> []
   |.builtin .append =>match c.args.toList with
     | [x,_]=>match ρ x with
       |.own id=> [id,alt id dst]
       | _=> [dst]
     | _=> []
   |.value f=>match ρ f with
     |.fn g caps=>match qcb T g with
       |0=>za8 hp (za8 hp (nub (glL T g (kg (yz ρ c.args.toList)++kg caps))))
       |n+1=>dst::(zm n (dst+100000)++za8 hp (za8 hp (nub (glL T g (kg (yz ρ c.args.toList)++kg caps)))))
     |.cb _=>nub (qo::wd (yz ρ c.args.toList))
     | _=> []
   | _=> []
 | _=> []
def wr:Op->Bool
 |.alloc _=>true
 |.box _ _=>true
 |.store _ _ _=>true
 |.buildSlice _ 0 _=>true
 |.makeSlice _ _ _=>true
 |.makeMap _ _=>true
 |.mapUpdate _ _ _ _=>true
 |.insert _ _ _ _=>true
 |.call c=>match c.callee with
   |.builtin .append =>true
   |.value _=>true
   | _=>false
 | _=>false
def yd:List Blk->Bool
 | []=>true
 |.free ::_=>false
 | _::l=>yd l
def ltB:List Nat->Bool
 | []=>true
 |i::l=>match q3 i 2000000 with
  |true=>ltB l
  |false=>false
def app(c:CT)(A:List AV)(ids:List Nat)(bs:List Blk)(E:AV->List Blk->Prop):Prop:=
 ∃(bs':List Blk)(r:AV),c (wb ids bs) A r (wb ids bs')/\
  (match zb7 ids bs',zu8 r.ids ids,zu8 (zcm (wb ids bs')) ids,yd bs',ltB ids with
   |true,true,true,true,true=>E r bs'
   | _,_,_,_,_=>False)
def zli:Nat->List Blk->(List Blk->Prop)->Prop
 |0,bs,K=>K bs
 |n+1,.free ::bs,K=>zli n bs K
 | _,_,_=>False
def zfb:Nat->List Nat->List Nat
 |0,l=>l
 |n+1,_::l=>zfb n l
 | _+1,[]=> []
def zb1:Nat->Nat->List Nat
 |0,_=> []
 |n+1,j=>j::zb1 n (j+1)
def zls:Hp->Hp->Hp
 | [],h=>h
 |x::r,h=>x::zls r h
def catB:List Blk->List Blk->List Blk
 | [],h=>h
 |x::r,h=>x::catB r h
def qfe:List Nat->List Nat->List Nat
 | [],h=>h
 |x::r,h=>x::qfe r h
def mvI(d:Nat)(i:Nat):Nat:=match q1 2000000 i with
 |true=>d+100000*(i-2000000)
 |false=>i
def zv4:List Nat->Bool
 | []=>true
 |i::l=>match q1 i 999999 with
  |true=>zv4 l
  |false=>false
def appN(c:CT)(n dst:Nat)(A:List AV)(ids:List Nat)(bs:List Blk)(E:AV->List Blk->Prop):Prop:=
 zli n bs fun bs=>∃(bs' nbs:List Blk)(r:AV),c (wb (zfb n ids) bs) A r (zls (wb (zfb n ids) bs') (wb (zb1 n 2000000) nbs))/\
  (match zb7 (zfb n ids) bs',zb7 (zb1 n 2000000) nbs,zu8 r.ids (qfe (zfb n ids) (zb1 n 2000000)),zu8 (zcm (zls (wb (zfb n ids) bs') (wb (zb1 n 2000000) nbs))) (qfe (zfb n ids) (zb1 n 2000000)),yd bs',yd nbs,
    zc5 (zm n dst) (zfb n ids),ltB (zfb n ids),q1 n 9,zv4 (zfb n ids)with
   |true,true,true,true,true,true,true,true,true,true=>E (r.mapI (mvI dst)) (catB (qd7 (mvI dst) nbs) (qd7 (mvI dst) bs'))
   | _,_,_,_,_,_,_,_,_,_=>False)
def zku(i:TI)(x:AV)(bs:List Blk)(E:AV->List Blk->Prop):Prop:=
 match x with
 |.str s=>match q0 i.cls 5 with
   |true=>E (.int .i64 s.length) []
   |false=>False
 |.sl _ xs=>match q0 i.cls 3 with
   |true=>E (.int .i64 xs.length) []
   |false=>False
 |.nilsl =>match q0 i.cls 3 with
   |true=>E (.int .i64 0) []
   |false=>False
 |.ow _ _ _ n=>match q0 i.cls 3 with
   |true=>E (.int .i64 n) []
   |false=>False
 |.own _=>match q0 i.cls 3,bs with
   |true,[.buf _ _ xs]=>E (.int .i64 xs.length) []
   | _,_=>False
 | _=>False
def isMp:AV->Bool
 |.mp _=>true
 | _=>false
def zpw(bs:List Blk)(E:AV->List Blk->Prop):Prop:=match bs with
 | [.map _ _ es]=>E (.int .i64 es.length) []
 | _=>False
def zw7(T:Tab)(i:TI)(dst:Nat)(s x:AV)(bs:List Blk)(E:AV->List Blk->Prop):Prop:=
 match i with
 |⟨3,_,_,e,esz,_,_,_,_,_,_⟩=>tgK T e fun j=>match j with
  |⟨_,sz,_,_,_,_,some k,_,_,bytes,_⟩=>match q0 esz k.size,q0 sz k.size,q1 1 bytes with
   |true,true,true=>match s,bs with
    |.nilsl,[.free]=>zzl k x fun ys=>ys.length*bytes<=140737488355328/\E (.own dst) [.buf e k ys]
    |.own id,[.buf e' k' xs,.free]=>match q0 e e',kEq k k',q1 id 1999998 with
      |true,true,true=>zzl k' x fun ys=>(xs.length+ys.length)*bytes<=140737488355328/\E (.own (alt id dst)) [.dead,.buf e' k' (xs++ys)]
      | _,_,_=>False
    | _,_=>False
   | _,_,_=>False
  | _=>False
 | _=>False
def vOk(v:TI)(vk:Elt):Bool:=match q0 v.sz vk.size,v.agg,q0 vk.size 1 with
 |true,true,false=>true
 |true,false,true=>true
 | _,_,_=>false
def aggA:AV->Bool
 |.agg _=>true
 | _=>false
def qck(x:AV)(k:Elt):Bool:=match aggA x,q0 k.size 1 with
 |true,false=>true
 |false,true=>true
 | _,_=>false
def zhd(T:Tab)(t:Nat)(K:Elt->Elt->TI->Prop):Prop:=
 tgK T t fun i=>match i with
 |⟨9,_,_,kt,_,vt,_,_,_,_,_⟩=>tgK T kt fun j=>match j with
  |⟨_,_,_,_,_,_,some kk,_,_,_,_⟩=>tgK T vt fun v=>match v.k with
   |some vk=>match vOk v vk with
    |true=>K kk vk v
    |false=>False
   |none=>False
  | _=>False
 | _=>False
def lkOp(T:Tab)(t:Nat)(x i:AV)(ok:Bool)(bs:List Blk)(E:AV->List Blk->Prop):Prop:=
 zhd T t fun kk vk v=>match x,bs with
 |.mp _,[.map kk' vk' es]=>match kEq kk kk',kEq vk vk',qck i kk' with
   |true,true,true=>qh kk' i.cs fun key=>qh vk' v.z fun z=>ldK v (vk'.cells (zjd kk' key z es)) 0 fun u=>match ok with
    |true=>E (.tup [u,.bool (qcd kk' key es)]) []
    |false=>E u []
   | _,_,_=>False
 | _,_=>False
def qd2(T:Tab)(t:Nat)(m x y:AV)(bs:List Blk)(E:AV->List Blk->Prop):Prop:=
 zhd T t fun kk vk _=>match m,bs with
 |.mp _,[.map kk' vk' es]=>match kEq kk kk',kEq vk vk',qck x kk',qck y vk' with
   |true,true,true,true=>qh kk' x.cs fun key=>qh vk' y.cs fun u=>E .any [.map kk' vk' (qcc kk' key u es)]
   | _,_,_,_=>False
 | _,_=>False
def resA:Option AV->Bool
 |none=>true
 |some (.int _ _)=>true
 | _=>false
def zbp(x:Option AV)(d:Int)(K:Int->Prop):Prop:=match x with
 |none=>K d
 |some (.int _ n)=>K n
 | _=>False
def qb6(i:TI)(x:AV)(lo hi mx:Option AV)(E:AV->List Blk->Prop):Prop:=
 match mx with
 |some y=>match x,y,hi with
  |.sl k xs,.int _ m,some (.int _ h)=>match q0 i.cls 3,q0 i.esz k.size with
    |true,true=>zbp lo 0 fun l=>(0<=l/\l<=h/\h<=m/\m<=xs.length)/\E (.sl k ((xs.take h.toNat).drop l.toNat)) []
    | _,_=>False
  | _,_,_=>False
 |none=>match x with
  |.sl k xs=>match q0 i.cls 3,q0 i.esz k.size with
    |true,true=>zbp lo 0 fun l=>zbp hi xs.length fun h=>(0<=l/\l<=h/\h<=xs.length)/\E (.sl k ((xs.take h.toNat).drop l.toNat)) []
    | _,_=>False
  |.str s=>match q0 i.cls 5 with
    |true=>zbp lo 0 fun l=>zbp hi s.length fun h=>(0<=l/\l<=h/\h<=s.length)/\E (.str ((s.take h.toNat).drop l.toNat)) []
    | _=>False
  |.nilsl =>match q0 i.cls 3 with
    |true=>zbp lo 0 fun l=>zbp hi 0 fun h=>(l=0/\h=0)/\E .nilsl []
    | _=>False
  | _=>False
def ql(T:Tab)(C:Con)(op:Op)(dst:Nat)(ρ:Operand->AV)(ids:List Nat)(bs:List Blk)(E:AV->List Blk->Prop):Prop:=
 match op with
 |.move x=>E (ρ x) []
 |.assign x=>E (ρ x) []
 |.pick c a b=>match ρ c with
   |.bool t=> @Bool.rec (fun _=>Prop) (E (ρ b) []) (E (ρ a) []) t
   | _=>False
 |.alloc t=>match bs with
   | [.free]=>tgK T t fun i=>match i with
     |⟨_,_,_,_,_,_,_,_,z,_,_⟩=>E (.ptr dst 0) [.cells z]
   | _=>False
 |.box _ x=>match bs,zd7 (ρ x).cs with
   | [.free],true=>E (.ptr dst 0) [.cells (ρ x).cs]
   | _,_=>False
 |.build t parts=>tgK T t fun i=>match i with
   |⟨2,_,fs,_,_,_,_,_,z,_,_⟩=>zk8 fs (zqf ρ parts.toList) z fun l=>E (.agg l) []
   |⟨4,_,_,_,esz,_,_,_,z,_,_⟩=>zla esz (zqf ρ parts.toList) z fun l=>E (.agg l) []
   | _=>False
 |.buildSlice t n parts=>tgK T t fun i=>match i with
   |⟨3,_,_,e,esz,_,_,_,_,_,_⟩=>tgK T e fun j=>match j with
    |⟨_,sz,_,_,_,_,some k,_,_,_,_⟩=>match q0 esz k.size,q0 sz k.size with
     |true,true=>match n with
      |0=>match bs,parts.toList with
       | [.free],[]=>E (.own dst) [.buf e k []]
       | _,_=>False
      |n+1=>match zjj 0 parts.toList,q0 parts.toList.length (n+1),q1 ((n+1)*k.size) 1000 with
       |true,true,true=>zey k (zly ρ parts.toList) fun xs=>E (.sl k xs) []
       | _,_,_=>False
     | _,_=>False
    | _=>False
   | _=>False
 |.makeSlice t l c=>tgK T t fun i=>match i with
   |⟨3,_,_,e,esz,_,_,_,_,_,_⟩=>tgK T e fun j=>match j with
    |⟨_,sz,_,_,_,_,some k,_,z,bytes,_⟩=>match q0 esz k.size,q0 sz k.size,q1 1 bytes,ρ l,ρ c,bs with
     |true,true,true,.int _ n,.int _ m,[.free]=>qh k z fun x=>(0<=n/\n<=m/\m*bytes<=140737488355328)/\E (.own dst) [.buf e k (List.replicate n.toNat x)]
     | _,_,_,_,_,_=>False
    | _=>False
   | _=>False
 |.load t p=>match ρ p with
   |.ptr _ off=>match bs with
     | [.cells l]=>tgK T t fun i=>ldK i l off fun v=>E v []
     | _=>False
   |.rp k x off=>tgK T t fun i=>ldK i (k.cells x) off fun v=>E v []
   |.opt _ sz j off=>match bs with
     | [.buf _ k xs]=>match q0 sz k.size with
       |true=>j<xs.length/\∀x,xs[j]? =some x->tgK T t fun i=>ldK i (k.cells x) off fun v=>E v []
       |false=>False
     | _=>False
   | _=>False
 |.store t p v=>tgK T t fun i=>match zsu (ρ v).cs i.sz,zd7 (ρ v).cs with
   |true,true=>match ρ p with
    |.ptr _ off=>match bs with
      | [.cells l]=>lay l off (ρ v).cs fun l=>E .any [.cells l]
      | _=>False
    |.opt _ sz j off=>match bs with
      | [.buf e k xs]=>match q0 sz k.size,q0 i.sz k.size with
        |true,true=>match off with
         |0=>qh k (ρ v).cs fun y=>j<xs.length/\E .any [.buf e k (xs.set j y)]
         | _+1=>False
        |true,false=>j<xs.length/\∀x,xs[j]? =some x->lay (k.cells x) off (ρ v).cs fun l=>qh k l fun y=>E .any [.buf e k (xs.set j y)]
        | _,_=>False
      | _=>False
    | _=>False
   | _,_=>False
 |.nilCheck x=>match ρ x with
   |.ptr i o=>E (.ptr i o) []
   |.rp k y o=>E (.rp k y o) []
   |.opt i s j o=>E (.opt i s j o) []
   | _=>False
 |.binOp o t x y _=>tgK T t fun i=>qbo i o (ρ x) (ρ y) fun v=>E v []
 |.unOp o _ x=>match o,ρ x with
   |.not,.bool b=>E (.bool !b) []
   |.neg,.int k n=>E (.int k (k.wrap (0-n))) []
   | _,_=>False
 |.convert s d x=>tgK T s fun j=>tgK T d fun i=>match ρ x with
   |.int _ n=>match j,i with
     |⟨1,_,_,_,_,_,_,_,_,_,_⟩,⟨1,_,_,_,_,_,_,ik,_,_,_⟩=>E (.int ik (ik.wrap n)) []
     | _,_=>False
   |.str b=>match q0 j.cls 5,q0 i.cls 5 with
     |true,true=>E (.str b) []
     | _,_=>False
   | _=>False
 |.makeFunc f first caps=>match f,first.toList with
   |.func f,[]=>E (.fn f (yz ρ caps.toList)) []
   | _,_=>False
 |.fieldAddr t x f=>tgK T t fun i=>match i with
   |⟨2,_,fs,_,_,_,_,_,_,_,_⟩=>zch fs f fun o _ _=>match ρ x with
    |.ptr i off=>E (.ptr i (off+o)) []
    |.rp k y off=>E (.rp k y (off+o)) []
    |.opt i s j off=>E (.opt i s j (off+o)) []
    | _=>False
   | _=>False
 |.field t x f=>tgK T t fun i=>match i,ρ x with
   |⟨2,_,fs,_,_,_,_,_,_,_,_⟩,.agg l=>zch fs f fun o s a=>zps l o s a fun v=>E v []
   | _,_=>False
 |.indexAddr t x i=>tgK T t fun ti=>match ρ i with
   |.int _ n=>match ti with
     |⟨3,_,_,_,esz,_,_,_,_,_,_⟩=>match ρ x with
      |.sl k xs=>match q0 esz k.size with
        |true=>(0<=n/\n<xs.length)/\∀x,xs[n.toNat]? =some x->E (.rp k x 0) []
        |false=>False
      |.own id=>match bs with
        | [.buf _ k xs]=>match q0 esz k.size with
          |true=>(0<=n/\n<xs.length)/\E (.opt id esz n.toNat 0) []
          |false=>False
        | _=>False
      |.ow id sz j m=>match q0 esz sz with
        |true=>(0<=n/\n<m)/\E (.opt id esz (j+n.toNat) 0) []
        |false=>False
      | _=>False
     |⟨4,_,_,_,esz,len,_,_,_,_,_⟩=>match ρ x with
      |.ptr j off=>(0<=n/\n<len)/\E (.ptr j (off+n.toNat*esz)) []
      |.rp k y off=>(0<=n/\n<len)/\E (.rp k y (off+n.toNat*esz)) []
      | _=>False
     | _=>False
   | _=>False
 |.index t x i=>tgK T t fun ti=>match q0 ti.cls 5,ρ x,ρ i with
   |true,.str s,.int _ n=>(0<=n/\n<s.length)/\∀c,s[n.toNat]? =some c->E (.int .u8 c.toNat) []
   |false,.agg l,.int _ n=>match q0 ti.cls 4 with
    |true=>tgK T ti.e fun tj=>(0<=n/\n<ti.len)/\zps l (n.toNat*ti.esz) tj.sz tj.agg fun v=>E v []
    |false=>False
   | _,_,_=>False
 |.extract x n=>match ρ x with
   |.tup l=>cut l n 1 fun r=>match r with
     | [a]=>E a []
     | _=>False
   | _=>False
 |.call c=>match c.callee with
   |.builtin .len =>match c.args.toList,c.argTypes.toList with
     | [x],[t]=>match isMp (ρ x)with
       |true=>zhd T t fun _ _ _=>zpw bs E
       |false=>tgK T t fun i=>zku i (ρ x) bs E
     | _,_=>False
   |.builtin .append =>match c.args.toList,c.argTypes.toList with
     | [s,x],[t,t']=>match q0 t t' with
       |true=>tgK T t fun i=>zw7 T i dst (ρ s) (ρ x) bs E
       |false=>False
     | _,_=>False
   |.builtin .max =>match yz ρ c.args.toList with
     | [.int k a,.int _ b]=>E (.int k (if b>a then b else a)) []
     | [.int k a,.int _ b,.int _ d]=>E (.int k (if d>(if b>a then b else a)then d else if b>a then b else a)) []
     | _=>False
   |.builtin .min =>match yz ρ c.args.toList with
     | [.int k a,.int _ b]=>E (.int k (if b<a then b else a)) []
     | _=>False
   |.value f=>match ρ f with
     |.fn g caps=>match qcb T g with
       |0=>zjn (yz ρ c.args.toList++caps) fun A=>app (C.fn g) A ids bs E
       |n+1=>zjn (yz ρ c.args.toList++caps) fun A=>appN (C.fn g) (n+1) dst A ids bs E
     |.cb l=>zjn (yz ρ c.args.toList) fun A=>app (C.cb l) A ids bs E
     | _=>False
   | _=>False
 |.makeMap t r=>zhd T t fun kk vk _=>match bs,resA (r.map ρ)with
   | [.free],true=>E (.mp dst) [.map kk vk []]
   | _,_=>False
 |.lookup t x i ok=>lkOp T t (ρ x) (ρ i) ok bs E
 |.mapUpdate t m k v=>qd2 T t (ρ m) (ρ k) (ρ v) bs E
 |.insert t m k v=>qd2 T t (ρ m) (ρ k) (ρ v) bs E
 |.slice t x lo hi mx=>tgK T t fun i=>match qee T hi with
   |true=>match ρ x,lo.map ρ,hi.map ρ,mx,bs with
    |.own id,some (.int _ l),some (.int _ h),none,[.buf _ k xs]=>match q0 i.cls 3,q0 i.esz k.size with
      |true,true=>(0<=l/\l<h/\h<=xs.length)/\E (.ow id k.size l.toNat (h.toNat-l.toNat)) []
      | _,_=>False
    | _,_,_,_,_=>False
   |false=>qb6 i (ρ x) (lo.map ρ) (hi.map ρ) (mx.map ρ) E
 | _=>False
def zz0(G:St)(dst:Option Nat)(v:AV)(K:St->Prop):Prop:=match G with
 |⟨sl,hp⟩=>match dst with
  |some d=>zxy sl d v fun l=>K ⟨l,hp⟩
  |none=>K ⟨sl,hp⟩
def zwm(h:Hp)(l:List Nat)(K:List Nat->Prop):Prop:=
 ze3 (zp0 (qi h l)) fun m=>ze3 (l++m) fun n=>ze3 (nub n) K
def zv3(T:Tab)(op:Op)(dst:Nat)(ρ:Operand->AV)(hp:Hp)(K:List Nat->Prop):Prop:=
 match op with
 |.call c=>match c.callee with
   |.value f=>match ρ f with
     |.fn g caps=>ze3 (glL T g (kg (yz ρ c.args.toList)++kg caps)) fun l=>ze3 (nub l) fun l=>zwm hp l fun l=>zwm hp l fun l=>match qcb T g with
       |0=>K l
       |n+1=>ze3 (dst::(zm n (dst+100000)++l)) K
     | _=>ze3 (xg T op dst ρ hp) K
   | _=>ze3 (xg T op dst ρ hp) K
 | _=>ze3 (xg T op dst ρ hp) K
def vf(o:Oper):Nat:=match o.dst with
 |some d=>d
 |none=>0
def dstK(o:Oper)(K:Nat->Prop):Prop:=match o.dst with
 |some d=>K d
 |none=>K 0
def zm1(T:Tab)(C:Con)(o:Oper)(G:St)(K:St->Prop):Prop:=match G with
 |⟨sl,hp⟩=>dstK o fun dst=>match q1 dst 99999 with
  |true=>zv3 T o.op dst (zf sl) hp fun ids=>zte (qi hp ids) fun bs=>ql T C o.op dst (zf sl) ids bs fun v bs=>
   frc v fun v=>zz0 ⟨sl,hp⟩ o.dst v fun σ'=>match wr o.op with
    |true=>match σ' with
     |⟨sl',hp'⟩=>zte bs fun bs=>za5 hp' ids bs fun h=>K ⟨sl',h⟩
    |false=>K σ'
  |false=>False
mutual
def AV.fz(id:Nat)(k:Elt)(xs:List k.T):AV->AV
 |.own i=>match q0 i id with
   |true=>.sl k xs
   |false=>.own i
 |.opt i s j o=>match q0 i id with
   |true=>.any
   |false=>.opt i s j o
 |.ow i s j n=>match q0 i id with
   |true=>.any
   |false=>.ow i s j n
 |.agg l=>.agg (fzL id k xs l)
 |.tup l=>.tup (fzL id k xs l)
 |.fn f l=>.fn f (fzL id k xs l)
 |.any =>.any
 |.bool b=>.bool b
 |.int t n=>.int t n
 |.str s=>.str s
 |.nilp =>.nilp
 |.ptr i o=>.ptr i o
 |.rp t x o=>.rp t x o
 |.nilsl =>.nilsl
 |.sl t ys=>.sl t ys
 |.nilf =>.nilf
 |.mp i=>.mp i
 |.nilm =>.nilm
 |.ub p q=>.ub p q
 |.cb l=>.cb l
 |.val x=>.val x
def fzL(id:Nat)(k:Elt)(xs:List k.T):List AV->List AV
 | []=> []
 |a::l=>a.fz id k xs::fzL id k xs l
end
def fzH(id:Nat)(k:Elt)(xs:List k.T):Hp->Hp
 | []=> []
 |(i,b)::r=>(match q0 i id with
  |true=>(i,.dead)
  |false=>(i,match b with|.cells l=>.cells (fzL id k xs l)|b=>b))::fzH id k xs r
def ztd:Hp->(Hp->Prop)->Prop
 | [],k=>k []
 |(i,b)::r,k=>qeu b fun b=>ztd r fun r=>k ((i,b)::r)
def zgq:List Nat->St->(St->Prop)->Prop
 | [],G,K=>K G
 |id::is,G,K=>match hget G.hp id,q1 id 999999 with
  |.buf _ k xs,true=>zjn (fzL id k xs G.sl) fun sl=>ztd (fzH id k xs G.hp) fun hp=>zgq is ⟨sl,hp⟩ K
  | _,_=>False
def thaw(T:Tab)(op:Op)(ρ:Operand->AV):List Nat:=
 match op with
 |.buildSlice _ _ parts=>zdj (zly ρ parts.toList)
 |.mapUpdate _ _ k v=>zdj [ρ k,ρ v]
 |.insert _ _ k v=>zdj [ρ k,ρ v]
 |.slice _ x _ hi _=>match qee T hi with
   |true=> []
   |false=>zdj [ρ x]
 |.store _ p v=>match ρ p with
   |.opt _ _ _ _=>(ρ v).owns
   | _=> []
 |.call c=>match c.callee with
   |.builtin .append =>match c.args.toList with
     | [_,x]=>(ρ x).owns
     | _=> []
   |.value f=>match ρ f with
     |.fn g caps=>match zfa g T.of with
       |true=> []
       |false=>nub (zdj (yz ρ c.args.toList)++zdj caps)
     |.cb _=>nub (zdj (yz ρ c.args.toList))
     | _=> []
   | _=> []
 | _=> []
def runK(T:Tab)(C:Con)(o:Oper)(G:St)(K:St->Prop):Prop:=
 match thaw T o.op (zf G.sl)with
 | []=>zm1 T C o G K
 |ids=>zgq ids G fun G=>zm1 T C o G K
def zap(ops:List Oper)(o:Oper)(G:St)(run:St->Prop)(skip:St->Prop):Prop:=
 match o.guard with
 |none=>run G
 |some (j,want)=>match ops[j]? with
  |none=>False
  |some oj=>match oj.dst with
   |none=>False
   |some d=>match G.sl.getD d .any with
    |.bool b=> @Bool.rec (fun _=>Prop)
       (zz0 G (some d) (.bool false) fun G=> @Bool.rec (fun _=>Prop) (run G) (skip G) want)
       (zz0 G (some d) (.bool true) fun G=> @Bool.rec (fun _=>Prop) (skip G) (run G) want) b
    |.tup []=>skip G
    | _=>False
def opK1(T:Tab)(C:Con)(ops:List Oper)(o:Oper)(G:St)(K:St->Prop):Prop:=
 zap ops o G (fun G=>runK T C o G K) (fun G=>zz0 G o.dst (.tup []) K)
def zx3(T:Tab)(C:Con)(ops:List Oper):List Oper->St->(St->Prop)->Prop
 | [],G,K=>K G
 |o::rest,G,K=>opK1 T C ops o G fun G=>zx3 T C ops rest G K
abbrev FP:=List Nat×Bool
def opD1(T:Tab)(C:Con)(ops:List Oper)(o:Oper)(G:St)(K:FP->St->Prop):Prop:=
 zap ops o G
  (fun G=>match thaw T o.op (zf G.sl)with
    | []=>zv3 T o.op (vf o) (zf G.sl) G.hp fun ids=>zm1 T C o G fun σ'=>K (ids,wr o.op) σ'
    | _=>False)
  (fun G=>zz0 G o.dst (.tup []) fun σ'=>K ([],false) σ')
def zz5(T:Tab)(C:Con)(ops:List Oper):List Oper->St->(List FP->St->Prop)->Prop
 | [],G,K=>K [] G
 |o::rest,G,K=>opD1 T C ops o G fun fp σ'=>zz5 T C ops rest σ' fun fps σ''=>K (fp::fps) σ''
def zhg(a b:FP):Bool:=match a.2||b.2 with
 |true=> !zc5 a.1 b.1
 |false=>false
def zii(bs:List Nat)(o:Oper):Bool:=o.after.toList.any fun e=>Region.binds .any e&&zfa e.on bs
def zmx(bs:List Nat)(m:Nat)(f:FP):List Oper->List FP->Bool
 |o::os,g::gs=>match zii bs o with
  |true=>zmx (m::bs) (m+1) f os gs
  |false=> !zhg f g&&zmx bs (m+1) f os gs
 | [],[]=>true
 | _,_=>false
def zwt:Nat->List Oper->List FP->Bool
 |i,_::os,f::fs=>zmx [i] (i+1) f os fs&&zwt (i+1) os fs
 | _,[],[]=>true
 | _,_,_=>false
mutual
def AV.rn(d:Nat):AV->AV
 |.own i=>match q0 i d with
   |true=>.any
   |false=>match q0 i (d+100000)with
    |true=>.own d
    |false=>.own i
 |.opt i s j o=>match q0 i d with
   |true=>.any
   |false=>match q0 i (d+100000)with
    |true=>.opt d s j o
    |false=>.opt i s j o
 |.ow i s j n=>match q0 i d with
   |true=>.any
   |false=>match q0 i (d+100000)with
    |true=>.ow d s j n
    |false=>.ow i s j n
 |.ptr i o=>match q0 i d with
   |true=>.any
   |false=>match q0 i (d+100000)with
    |true=>.any
    |false=>.ptr i o
 |.agg l=>.agg (rnL d l)
 |.tup l=>.tup (rnL d l)
 |.fn f l=>.fn f (rnL d l)
 |.any =>.any
 |.bool b=>.bool b
 |.int t n=>.int t n
 |.str s=>.str s
 |.nilp =>.nilp
 |.rp t x o=>.rp t x o
 |.nilsl =>.nilsl
 |.sl t ys=>.sl t ys
 |.nilf =>.nilf
 |.mp i=>match q0 i d with
   |true=>.any
   |false=>match q0 i (d+100000)with
    |true=>.any
    |false=>.mp i
 |.nilm =>.nilm
 |.ub p q=>.ub p q
 |.cb l=>.cb l
 |.val x=>.val x
def rnL(d:Nat):List AV->List AV
 | []=> []
 |a::l=>a.rn d::rnL d l
end
def rnH(d:Nat)(nb:Blk):Hp->Hp
 | []=> []
 |(i,b)::r=>(match q0 i d with
  |true=>(i,nb)
  |false=>match q0 i (d+100000)with
   |true=>(i,.free)
   |false=>(i,match b with|.cells l=>.cells (rnL d l)|b=>b))::rnH d nb r
def zu0:List Oper->List Nat
 | []=> []
 |o::r=>match o.op with
  |.call c=>match c.callee,o.dst with
    |.builtin .append,some d=>d::zu0 r
    | _,_=>zu0 r
  | _=>zu0 r
def xc:List Nat->St->(St->Prop)->Prop
 | [],G,K=>K G
 |d::ds,G,K=>match hget G.hp (d+100000),hget G.hp d,zfa d (G.hp.map (·.1)),q1 d 99999 with
  |.buf e k xs,.dead,true,true=>zjn (rnL d G.sl) fun sl=>ztd (rnH d (.buf e k xs) G.hp) fun hp=>xc ds ⟨sl,hp⟩ K
  | _,_,_,_=>xc ds G K
def zz7(T:Tab)(o:Oper):List Nat:=match o.dst with
 |none=> []
 |some d=>match o.op with
  |.alloc _=> [d]
  |.box _ _=> [d]
  |.buildSlice _ 0 _=> [d]
  |.makeSlice _ _ _=> [d]
  |.makeMap _ _=> [d]
  |.call c=>match c.callee with
    |.builtin .append => [d,d+100000,d+1500000]
    |.value (.func g)=>zm (qcb T g) d
    | _=> []
  | _=> []
def zn3(T:Tab):List Oper->List Nat
 | []=> []
 |o::r=>zz7 T o++zn3 T r
def zsb:List Oper->List Nat
 | []=> []
 |o::r=>match o.dst with
  |some d=>d::zsb r
  |none=>zsb r
def zc(T:Tab):Code->List Nat
 |.region _ ops _=>zn3 T ops.toList
 |.seq a b=>zc T a++zc T b
 |.cond _ a b=>zc T a++zc T b
 |.block _ c=>zc T c
 |.loop c=>zc T c
 |.scope c=>zc T c
 | _=> []
def je:Code->List Nat
 |.region _ ops _=>zsb ops.toList
 |.seq a b=>je a++je b
 |.cond _ a b=>je a++je b
 |.block _ c=>je c
 |.loop c=>je c
 |.scope c=>je c
 | _=> []
mutual
def leA(h h':Hp):AV->AV->Prop
 | _,.any =>True
 |.bool a,.bool b=>a=b
 |.int k a,.int k' b=>match zmr k k' with
   |true=>a=b
   |false=>False
 |.str a,.str b=>a=b
 |.nilp,.nilp =>True
 |.ptr i o,.ptr j p=>match q0 i j with
   |true=>o=p
   |false=>False
 |.rp k x o,.rp k' x' o'=>AV.rp k x o=AV.rp k' x' o'
 |.nilsl,.nilsl =>True
 |.nilsl,.sl k xs=>AV.sl k []=AV.sl k xs
 |.sl k xs,.sl k' xs'=>AV.sl k xs=AV.sl k' xs'
 |.nilsl,.own j=>match hget h j,hget h' j with
   |.free,.buf _ _ _=>True
   |.dead,.buf _ _ _=>True
   | _,_=>False
 |.own i,.own j=>match q0 i j,hget h i with
   |true,.buf _ _ _=>True
   | _,_=>False
 |.ow i s j n,.ow i' s' j' n'=>match q0 i i',hget h i with
   |true,.buf _ _ _=>s=s'/\j=j'/\n=n'
   | _,_=>False
 |.agg l,.agg m=>leL h h' l m
 |.tup l,.tup m=>leL h h' l m
 |.fn f l,.fn g m=>match q0 f g with
   |true=>leL h h' l m
   |false=>False
 |.nilf,.nilf =>True
 |.mp i,.mp j=>match q0 i j with
   |true=>True
   |false=>False
 |.nilm,.nilm =>True
 |.cb i,.cb j=>i=j
 |.val x,.val y=>x=y
 | _,_=>False
def leL(h h':Hp):List AV->List AV->Prop
 | [],[]=>True
 |a::l,b::m=>leA h h' a b/\leL h h' l m
 | _,_=>False
end
def leB(h h':Hp)(i:Nat):Blk->Blk->Prop
 | _,.free =>True
 | _,.dead =>True
 |.cells l,.cells m=>leL h h' l m
 |.buf e k xs,.buf e' k' xs'=>match q0 e e' with
   |true=>AV.sl k xs=AV.sl k' xs'
   |false=>False
 |.free,.buf _ k xs=>q1 i 999999=true/\AV.sl k []=AV.sl k xs
 |.dead,.buf _ k xs=>q1 i 999999=true/\AV.sl k []=AV.sl k xs
 |.map a b es,.map a' b' es'=>Blk.map a b es=Blk.map a' b' es'
 |.gst J,.gst J'=>J=J'
 | _,_=>False
def leH(h h':Hp):Hp->Hp->Prop
 | [],[]=>True
 |(i,b)::r,(j,c)::s=>match q0 i j with
  |true=>leB h h' i b c/\leH h h' r s
  |false=>False
 | _,_=>False
def leS(G H:St):Prop:=leL G.hp H.hp G.sl H.sl/\leH G.hp H.hp G.hp H.hp
def qel(ws:List Nat):Nat->List AV->(List AV->Prop)->Prop
 | _,[],k=>k []
 |i,a::l,k=>match zfa i ws with
  |true=>qel ws (i+1) l fun l=>k (.any ::l)
  |false=>qel ws (i+1) l fun l=>k (a::l)
def qem(ds:List Nat):Hp->(Hp->Prop)->Prop
 | [],k=>k []
 |(i,b)::r,k=>match zfa i ds with
  |true=>qem ds r fun r=>k ((i,.free)::r)
  |false=>qem ds r fun r=>k ((i,b)::r)
def upsK:List (Nat×AV)->List AV->(List AV->Prop)->Prop
 | [],l,k=>k l
 |(i,a)::us,l,k=>frc a fun a=>zxy l i a fun l=>upsK us l k
def uphK:List (Nat×Blk)->Hp->(Hp->Prop)->Prop
 | [],h,k=>k h
 |(i,b)::us,h,k=>qeu b fun b=>zp1 h i b fun h=>uphK us h k
def zos(ws ds:List Nat)(us:List (Nat×AV))(hu:List (Nat×Blk))(G:St)(K:St->Prop):Prop:=
 qel ws 0 G.sl fun l=>upsK us l fun l=>qem ds G.hp fun h=>uphK hu h fun h=>K ⟨l,h⟩
def zej:Hp->List Nat
 | []=> []
 |(i,b)::r=>match b with
  |.free =>i::zej r
  | _=>zej r
abbrev GJ:=(Nat->Prop)->(Nat->Obj->Prop)->World->Prop
def zfg(i:Nat):Nat:=i+1000000
def zex:List Nat->List Nat
 | []=> []
 |i::l=>zfg i::zex l
mutual
def AV.mvl(is:List Nat):AV->AV
 |.ptr i o=>match zfa i is with
   |true=>.ptr (zfg i) o
   |false=>.any
 |.mp i=>match zfa i is with
   |true=>.mp (zfg i)
   |false=>.any
 |.opt _ _ _ _=>.any
 |.ow _ _ _ _=>.any
 |.own _=>.any
 |.agg l=>.agg (zj3 is l)
 |.tup l=>.tup (zj3 is l)
 |.fn g l=>.fn g (zj3 is l)
 |.any =>.any
 |.bool b=>.bool b
 |.int t n=>.int t n
 |.str s=>.str s
 |.nilp =>.nilp
 |.rp t x o=>.rp t x o
 |.nilsl =>.nilsl
 |.sl t ys=>.sl t ys
 |.nilf =>.nilf
 |.nilm =>.nilm
 |.ub p q=>.ub p q
 |.cb l=>.cb l
 |.val x=>.val x
def zj3(is:List Nat):List AV->List AV
 | []=> []
 |a::l=>a.mvl is::zj3 is l
end
def zz9:List Nat->Bool
 | []=>true
 | _=>false
def zaw:List Blk->Bool
 | []=>true
 |.cells l::r=>zz9 (wd l)&&zaw r
 |.map _ _ _::r=>zaw r
 | _=>false
def qcf:List Nat->Bool
 | []=>true
 |i::l=>q1 i 999998&&qcf l
def zdl:List Nat->Bool
 | []=>true
 |i::l=> !zfa i l&&zdl l
def zma:List Nat->List AV->List AV->(List AV->Prop)->Prop
 |p::ps,v::vs,sl,K=>frc v fun v=>zxy sl p v fun sl=>zma ps vs sl K
 | [],[],sl,K=>K sl
 | _,_,_,_=>False
def rfOk(T:Tab)(hp:Hp)(g:Nat)(is:List Nat)(caps:List AV)(ib:List Blk):Bool:=
 q0 (qcb T g) 0&&qcf is&&zdl is&&zc5 is (wd caps)&&yd (qi hp (nub (wd caps)))&&zb7 (nub (wd caps)) ib&&yd ib&&zu8 (zcm (wb (nub (wd caps)) ib)) (nub (wd caps))&&zu8 (zcm (wb (nub (wd caps)) (qi hp (nub (wd caps))))) (nub (wd caps))&&zz9 (zdj caps)&&zc5 [qo] (nub (wd caps))&&ltB (nub (wd caps))
def zmg(h:Hp):Hp->Hp
 | []=> []
 |(i,_)::r=>(i,hget h i)::zmg h r
def zp3(is:List Nat)(bs:List Blk)(H:St):Prop:=match H with
 |⟨_,hp⟩=>leH hp (wb (zex is) bs) (zmg hp (wb (zex is) bs)) (wb (zex is) bs)
def zha:Hp->Hp->Hp
 | [],h=>h
 |x::r,h=>x::zha r h
def wg:List Nat->Hp
 | []=> []
 |i::l=>(i,.free)::wg l
def wz(T:Tab)(C:Con)(top:Bool):Code->St->(Exit->St->Prop)->Prop
 |.skip,G,Q=>Q .normal G
 |.region _ ops draw,G,Q=> @Bool.rec (fun _=>Prop)
    (zx3 T C ops.toList ops.toList G fun G=>xc (zu0 ops.toList) G fun G=>Q .normal G)
    (zz5 T C ops.toList ops.toList G fun fps G=>zwt 0 ops.toList fps=true/\Region.lexB .any ops=true/\xc (zu0 ops.toList) G fun G=>Q .normal G) draw
 |.seq a b,G,Q=>wz T C top a G fun e G=>match e with
   |.normal =>wz T C top b G Q
   |.exit i=>Q (.exit i) G
   |.ret =>Q .ret G
   | _=>False
 |.cond c a b,G,Q=>match zf G.sl c with
   |.bool t=> @Bool.rec (fun _=>Prop) (wz T C top b G Q) (wz T C top a G Q) t
   |.ub p q=>(p->wz T C top a G Q)/\(q->wz T C top b G Q)
   | _=>False
 |.block id c,G,Q=>wz T C top c G fun e G=>match e with
   |.normal =>Q .normal G
   |.exit i=>match q0 i id with
     |true=>Q .normal G
     |false=>Q (.exit i) G
   |.ret =>Q .ret G
   | _=>False
 |.loop c,G,Q=>∃(X:Type)(I:X->Prop)(us:X->List (Nat×AV))(hu:X->List (Nat×Blk))(μ:X->Nat)(x₀:X),
    I x₀/\zos (je c) (zc T c) (us x₀) (hu x₀) G (fun H=>leS G H)/\
    ∀x,I x->zos (je c) (zc T c) (us x) (hu x) G fun H=>zc5 (zej H.hp) H.ids=true/\
     wz T C top c H fun e σ'=>match e with
      |.normal =>∃x',I x'/\μ x'<μ x/\zos (je c) (zc T c) (us x') (hu x') G fun τ'=>leS σ' τ'
      |.exit i=>Q (.exit i) σ'
      |.ret =>Q .ret σ'
      | _=>False
 |.rangeFunc f ps asg body,G,Q=>match top,zf G.sl f with
   |true,.fn g caps=>∃(is:List Nat)(X Y:Type)(hb:X->List Blk)(live:X->Bool)(pend:X->Code)(args:Y->List AV)(next:X->Y->X)(x₀ xE:X)(r:AV)(ib:List Blk),
     qi G.hp is=hb x₀/\live x₀=true/\rfOk T G.hp g is caps ib=true/\zc5 (zc T asg++zc T body) (zex is)=true/\(∀x,zaw (hb x)=true/\zb7 is (hb x)=true)/\(∀y,zz9 (wd (args y))=true)/\
     (∀(l:Nat)(J:X->GJ),(∀x y,live x=true->C.cb l [(qo,.gst (J x))] (args y) (.bool (live (next x y))) [(qo,.gst (J (next x y)))])->
       C.fn g ((qo,.gst (J x₀))::wb (nub (wd caps)) (qi G.hp (nub (wd caps)))) (.cb l::caps) r ((qo,.gst (J xE))::wb (nub (wd caps)) ib))/\
     (∀x y,live x=true->zma ps.toList (args y) (zj3 is G.sl) fun sl=>
       wz T C false asg ⟨sl,zha (wg (zc T asg++zc T body)) (wb (zex is) (hb x))⟩ fun e H=>match e with
       |.normal =>wz T C false body H fun e H=>match e with
         |.normal =>live (next x y)=true/\zp3 is (hb (next x y)) H
         |.exit id=>live (next x y)=false/\pend (next x y)=.exit id/\zp3 is (hb (next x y)) H
         |.ret =>live (next x y)=false/\pend (next x y)=.ret /\zp3 is (hb (next x y)) H
         | _=>False
       | _=>False)/\
     (match G with
       |⟨sl,hp⟩=>za5 hp is (hb xE) fun hp=>za5 hp (nub (wd caps)) ib fun hp=> @Bool.rec (fun _=>Prop)
         (match pend xE with
           |.exit id=>Q (.exit id) ⟨sl,hp⟩
           |.ret =>Q .ret ⟨sl,hp⟩
           | _=>False)
         (Q .normal ⟨sl,hp⟩) (live xE))
   | _,_=>False
 |.exit id,G,Q=>Q (.exit id) G
 |.ret,G,Q=>Q .ret G
 | _,_,_=>False
def yo:Nat->List AV
 |0=> []
 |n+1=>.any ::yo n
def zzu(T:Tab):List ResultVar->St->(List AV->Prop)->Prop
 | [],_,k=>k []
 |.tmp t::r,G,k=>frc (G.sl.getD t .any) fun a=>zzu T r G fun l=>k (a::l)
 |.cell a t::r,G,k=>match G.sl.getD a .any with
   |.ptr id off=>match hget G.hp id with
     |.cells l=>tgK T t fun i=>ldK i l off fun v=>zzu T r G fun m=>k (v::m)
     | _=>False
   | _=>False
def zkk:List AV->AV
 | [a]=>a
 |l=>.tup l
def exI(ex:List Nat)(i:Nat):Nat:=match q1 2000000 i with
 |true=>ex.getD (i-2000000) 0
 |false=>i
def zz2:Hp->List Nat
 | []=> []
 |(_,.cells l)::r=>zdj l++zz2 r
 | _::r=>zz2 r
def zso:List Nat->List Nat->List Nat
 | [],_=> []
 |i::l,m=>match zfa i m with
  |true=>zso l m
  |false=>i::zso l m
def lowF:List Nat->List Nat
 | []=> []
 |i::l=>match q1 i 999999 with
  |true=>i::lowF l
  |false=>lowF l
def zem(T:Tab)(res:List ResultVar)(ex:List Nat)(r:AV)(H':Hp)(G:St):Prop:=
 zzu T res G fun l=>zgq (lowF (zso (nub (zdj l++zz2 (zmg G.hp (zfj (exI ex) H')))) ex)) G fun G=>zzu T res G fun l=>match G with
  |⟨_,hp⟩=>leA hp (zfj (exI ex) H') (zkk l) (r.mapI (exI ex))/\leH hp (zfj (exI ex) H') (zmg hp (zfj (exI ex) H')) (zfj (exI ex) H')
def far(n:Nat):List Nat->Bool
 | []=>true
 |i::l=>match q1 1000000 i,q3 i (2000000+n),(q3 i 1500000||q1 1999999 i)with
  |true,true,true=>far n l
  | _,_,_=>false
def keys:Hp->List Nat
 | []=> []
 |(i,_)::r=>i::keys r
def zp7:Hp->List Blk
 | []=> []
 |(_,b)::r=>b::zp7 r
