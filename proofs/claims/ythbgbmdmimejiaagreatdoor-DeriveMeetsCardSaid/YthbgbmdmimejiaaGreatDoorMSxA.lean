/- The abstract values of the engine, and the symbolic execution over them. Nothing of a program stands here. -/
import Derived.WalkKit
import Derived.Orders
import Derived.KernelRfl
set_option linter.all false
open Nat renaming beq->q2
namespace Go.Sx
open Go
theorem Z0{p:Prop}[Decidable p]:decide p=true->p:=of_decide_eq_true
theorem Z1{p:Prop}[Decidable p]:decide p=false->Not p:=of_decide_eq_false
theorem Z2{p:Prop}[Decidable p]:(decide p=true)=p:=decide_eq_true_eq
theorem Z3{p:Prop}{_:Decidable p}:decide p=false<->Not p:=decide_eq_false_iff_not
theorem Z4{c:Prop}{h:Decidable c}(hc:c){a:Sort _}{t e:a}:ite c t e=t:=if_pos hc
theorem Z5{c:Prop}{h:Decidable c}(hc:Not c){a:Sort _}{t e:a}:ite c t e=e:=if_neg hc
theorem Z6{p:Prop}[Decidable p]:p->decide p=true:=decide_eq_true
theorem Z7{p:Prop}[Decidable p]:Not p->decide p=false:=decide_eq_false
theorem O{P:Prop}(h:P:=by omega):P:=h
theorem Z{P:Prop}(h:P:=by kernel_rfl):P:=h
theorem OA{P:Prop}(h:P:=by decide):P:=h
theorem OB{P:Prop}(h:P:=by decide+kernel):P:=h
theorem OC{P:Prop}(h:P:=by simp):P:=h
theorem OD{P:Prop}(h:P:=by simp only;omega):P:=h
theorem OE{P:Prop}(h:P:=by simp;omega):P:=h
abbrev zn:=List UInt8
structure Rt where
 n:Int
 d:Int
deriving DecidableEq,Inhabited
inductive Ex where
 |mk (k:Int) (q:Rt) (s:zn) (p:Int) (l:List Ex)
def Ex.k:Ex->Int|.mk k _ _ _ _=>k
def Ex.q:Ex->Rt|.mk _ q _ _ _=>q
def Ex.s:Ex->zn|.mk _ _ s _ _=>s
def Ex.p:Ex->Int|.mk _ _ _ p _=>p
def Ex.l:Ex->List Ex|.mk _ _ _ _ l=>l
theorem Ex.eta2(e:Ex):Ex.mk e.k ⟨e.q.n,e.q.d⟩ e.s e.p e.l=e:=by cases e;rfl
structure TOp where
 k:Int
 a:Int
 b:Int
 n:Int
 c:Rt
deriving DecidableEq
structure Eqn where
 s:zn
 e:Ex
structure Dy where
 neg:Bool
 m:List Int
 e:Int
deriving DecidableEq
structure Iv where
 lo:Dy
 hi:Dy
 all:Bool
deriving DecidableEq
inductive Elt where
 |ex|str|int|rat|op|eqn|ex2|bool|u32|ls|dy|iv|ki|vs|dd
@[reducible] def Elt.T:Elt->Type
  |.ex =>Ex|.str =>zn|.int =>Int|.rat =>Rt|.op =>TOp|.eqn =>Eqn|.ex2 =>Ex×Ex|.bool =>Bool|.u32 =>Int|.ls =>List Int|.dy =>Dy|.iv =>Iv|.ki =>Int×Iv|.vs =>List Iv|.dd =>Dy×Dy
def Elt.size:Elt->Nat
 |.ex =>6|.str =>1|.int =>1|.rat =>2|.op =>6|.eqn =>7|.ex2 =>12|.bool =>1|.u32 =>1|.ls =>1|.dy =>3|.iv =>7|.ki =>8|.vs =>1|.dd =>6
inductive AV where
 |any
 |bool (b:Bool)
 |int (k:IntKind) (n:Int)
 |str (s:zn)
 |nilp
 |ptr (id off:Nat)
 |rp (k:Elt) (x:k.T) (off:Nat)
 |opt (id sz i off:Nat)
 |ow (id sz i n:Nat)
 |nilsl
 |sl (k:Elt) (xs:List k.T)
 |own (id:Nat)
 |agg (l:List AV)
 |tup (l:List AV)
 |fn (f:Nat) (caps:List AV)
 |nilf
 |mp (id:Nat)
 |nilm
 |ub (p q:Prop)
 |cb (l:Nat)
 |val (x:Value)
def exC(e:Ex):List AV:= [.int .i64 e.k,.int .i64 e.q.n,.int .i64 e.q.d,.str e.s,.int .i64 e.p,.sl .ex e.l]
def dyC(d:Dy):List AV:= [.bool d.neg,.sl .u32 d.m,.int .i64 d.e]
def ivC(x:Iv):List AV:= [.bool x.lo.neg,.sl .u32 x.lo.m,.int .i64 x.lo.e,.bool x.hi.neg,.sl .u32 x.hi.m,.int .i64 x.hi.e,.bool x.all]
def Elt.cells:(k:Elt)->k.T->List AV
 |.ex,e=>exC e
 |.str,s=> [.str s]
 |.int,n=> [.int .i64 n]
 |.rat,r=> [.int .i64 r.n,.int .i64 r.d]
 |.op,o=> [.int .i64 o.k,.int .i64 o.a,.int .i64 o.b,.int .i64 o.n,.int .i64 o.c.n,.int .i64 o.c.d]
 |.eqn,q=>.str q.s::exC q.e
 |.bool,b=> [.bool b]
 |.u32,n=> [.int .u32 n]
 |.ls,l=> [.sl .u32 l]
 |.dy,d=>dyC d
 |.iv,x=>ivC x
 |.ki,p=>.int .i64 p.1::ivC p.2
 |.dd,p=>dyC p.1++dyC p.2
 |.vs,l=> [.sl .iv l]
 |.ex2,p=> [.int .i64 p.1.k,.int .i64 p.1.q.n,.int .i64 p.1.q.d,.str p.1.s,.int .i64 p.1.p,.sl .ex p.1.l,
    .int .i64 p.2.k,.int .i64 p.2.q.n,.int .i64 p.2.q.d,.str p.2.s,.int .i64 p.2.p,.sl .ex p.2.l]
inductive Blk where
 |free
 |dead
 |cells (l:List AV)
 |buf (e:TypeId) (k:Elt) (xs:List k.T)
 |map (kk vk:Elt) (es:List (kk.T×vk.T))
 |gst (J:(Nat->Prop)->(Nat->Obj->Prop)->World->Prop)
structure St where
 sl:List AV
 hp:List (Nat×Blk)
structure TI where
 cls:Nat
 sz:Nat
 fs:List (Nat×Nat×Bool)
 e:Nat
 esz:Nat
 len:Nat
 k:Option Elt
 ik:IntKind
 z:List AV
 bytes:Nat
 eq:Bool
deriving Inhabited
def TI.agg(i:TI):Bool:=q2 i.cls 2||q2 i.cls 4
def tgL:List (Nat×TI)->Nat->(TI->Prop)->Prop
 | [],_,_=>False
 |(a,i)::r,t,k=>match q2 a t with
  |true=>k i
  |false=>tgL r t k
structure Tab where
 ty:List (Nat×TI)
 of:List Nat:= []
 nb:List (Nat×Nat):= []
 gl:List Nat:= []
 wn:List Nat:= []
def tgK(T:Tab)(t:Nat)(k:TI->Prop):Prop:=tgL T.ty t k
def nbL:List (Nat×Nat)->Nat->Nat
 | [],_=>0
 |(a,n)::r,f=>match q2 a f with
  |true=>n
  |false=>nbL r f
def qhp(T:Tab)(f:Nat):Nat:=nbL T.nb f
mutual
def frc:AV->(AV->Prop)->Prop
 |.any,k=>k .any
 |.bool b,k=>k (.bool b)
 |.int t n,k=>k (.int t n)
 |.str s,k=>k (.str s)
 |.nilp,k=>k .nilp
 |.ptr i o,k=>k (.ptr i o)
 |.rp t x o,k=>k (.rp t x o)
 |.opt i s j o,k=>k (.opt i s j o)
 |.ow i s j n,k=>k (.ow i s j n)
 |.nilsl,k=>k .nilsl
 |.sl t xs,k=>k (.sl t xs)
 |.own i,k=>k (.own i)
 |.agg l,k=>zl9 l fun l=>k (.agg l)
 |.tup l,k=>zl9 l fun l=>k (.tup l)
 |.fn f l,k=>zl9 l fun l=>k (.fn f l)
 |.nilf,k=>k .nilf
 |.mp i,k=>k (.mp i)
 |.nilm,k=>k .nilm
 |.ub p q,k=>k (.ub p q)
 |.cb i,k=>k (.cb i)
 |.val x,k=>k (.val x)
def zl9:List AV->(List AV->Prop)->Prop
 | [],k=>k []
 |a::l,k=>frc a fun a=>zl9 l fun l=>k (a::l)
end
def qk8:Blk->(Blk->Prop)->Prop
 |.free,k=>k .free
 |.dead,k=>k .dead
 |.cells l,k=>zl9 l fun l=>k (.cells l)
 |.buf e t xs,k=>k (.buf e t xs)
 |.map a b es,k=>k (.map a b es)
 |.gst J,k=>k (.gst J)
def zw2:List Blk->(List Blk->Prop)->Prop
 | [],k=>k []
 |a::l,k=>qk8 a fun a=>zw2 l fun l=>k (a::l)
def zgg:List Nat->(List Nat->Prop)->Prop
 | [],k=>k []
 |i::l,k=>zgg l fun l=>k (i::l)
def qb6:List AV->Nat->AV->(List AV->Prop)->Prop
 | [],_,_,k=>k []
 | _::xs,0,v,k=>k (v::xs)
 |x::xs,i+1,v,k=>qb6 xs i v fun ys=>k (x::ys)
def hget:List (Nat×Blk)->Nat->Blk
 | [],_=>.dead
 |(a,b)::r,i=>match q2 a i with
  |true=>b
  |false=>hget r i
def zez:List (Nat×Blk)->Nat->Blk->List (Nat×Blk)
 | [],_,_=> []
 |(a,b)::r,i,v=>match q2 a i with
  |true=>(a,v)::r
  |false=>(a,b)::zez r i v
def ztb:List (Nat×Blk)->Nat->Blk->(List (Nat×Blk)->Prop)->Prop
 | [],_,_,k=>k []
 |(a,b)::r,i,v,k=>match q2 a i with
  |true=>k ((a,v)::r)
  |false=>ztb r i v fun r=>k ((a,b)::r)
def qq:List (Nat×Blk)->List Nat->List Blk->List (Nat×Blk)
 |h,i::is,b::bs=>qq (zez h i b) is bs
 |h,_,_=>h
def zb5:List (Nat×Blk)->List Nat->List Blk->(List (Nat×Blk)->Prop)->Prop
 |h,i::is,b::bs,k=>ztb h i b fun h=>zb5 h is bs k
 |h,_,_,k=>k h
mutual
def AV.ids:AV->List Nat
 |.ptr i _=> [i]
 |.opt i _ _ _=> [i]
 |.ow i _ _ _=> [i]
 |.own i=> [i]
 |.mp i=> [i]
 |.agg l=>jc l
 |.tup l=>jc l
 |.fn _ l=>jc l
 | _=> []
def jc:List AV->List Nat
 | []=> []
 |a::l=>a.ids++jc l
end
mutual
def AV.ids2:AV->List Nat
 |.ptr i _=> [i]
 |.opt i _ _ _=> [i]
 |.ow i _ _ _=> [i]
 |.own i=> [i]
 |.mp i=> [i]
 |.agg l=>ul l
 |.tup l=>ul l
 |.fn _ l=>ul l
 |.cb _=> [1999999]
 | _=> []
def ul:List AV->List Nat
 | []=> []
 |a::l=>a.ids2++ul l
end
mutual
theorem AV.ids2_sub:∀(a:AV)(i:Nat),i∈a.ids->i∈a.ids2
 |.agg l,i,h=>by simp only[AV.ids,AV.ids2]at h⊢;exact zbk l i h
 |.tup l,i,h=>by simp only[AV.ids,AV.ids2]at h⊢;exact zbk l i h
 |.fn _ l,i,h=>by simp only[AV.ids,AV.ids2]at h⊢;exact zbk l i h
 |.ptr _ _,_,h=>h
 |.opt _ _ _ _,_,h=>h
 |.ow _ _ _ _,_,h=>h
 |.own _,_,h=>h
 |.mp _,_,h=>h
 |.any,_,h=>h
 |.bool _,_,h=>h
 |.int _ _,_,h=>h
 |.str _,_,h=>h
 |.nilp,_,h=>h
 |.rp _ _ _,_,h=>h
 |.nilsl,_,h=>h
 |.sl _ _,_,h=>h
 |.nilf,_,h=>h
 |.nilm,_,h=>h
 |.ub _ _,_,h=>h
 |.cb _,_,h=>by simp[AV.ids]at h
 |.val _,_,h=>by simp[AV.ids]at h
theorem zbk:∀(l:List AV)(i:Nat),i∈jc l->i∈ul l
 | [],_,h=>h
 |a::l,i,h=>by
  simp only[jc,ul,List.mem_append]at h⊢;exact h.imp (AV.ids2_sub a i) (zbk l i)
end
def zgs:Nat->List Nat->Bool
 | _,[]=>false
 |i,j::l=>match q2 i j with
  |true=>true
  |false=>zgs i l
def nub:List Nat->List Nat
 | []=> []
 |i::l=>match zgs i l with
  |true=>nub l
  |false=>i::nub l
def zzh:List Nat->List Nat->Bool
 | [],_=>true
 |i::l,m=>match zgs i m with
  |true=>zzh l m
  |false=>false
def zgh:List Nat->List Nat->Bool
 | [],_=>true
 |i::l,m=>match zgs i m with
  |true=>false
  |false=>zgh l m
def zfg:List (Nat×Blk)->List Nat
 | []=> []
 |(i,b)::r=>(match b with|.cells l=>jc l| _=> [])++zfg r
def St.ids(Y:St):List Nat:=jc Y.sl++zfg Y.hp
mutual
def AV.owns:AV->List Nat
 |.own i=> [i]
 |.agg l=>zel l
 |.tup l=>zel l
 |.fn _ l=>zel l
 | _=> []
def zel:List AV->List Nat
 | []=> []
 |a::l=>a.owns++zel l
end
mutual
def AV.mapI(f:Nat->Nat):AV->AV
 |.ptr i o=>.ptr (f i) o
 |.opt i s j o=>.opt (f i) s j o
 |.ow i s j n=>.ow (f i) s j n
 |.own i=>.own (f i)
 |.mp i=>.mp (f i)
 |.agg l=>.agg (zba f l)
 |.tup l=>.tup (zba f l)
 |.fn g l=>.fn g (zba f l)
 |.any =>.any
 |.bool b=>.bool b
 |.int t n=>.int t n
 |.str s=>.str s
 |.nilp =>.nilp
 |.rp t x o=>.rp t x o
 |.nilsl =>.nilsl
 |.sl t ys=>.sl t ys
 |.nilf =>.nilf
 |.nilm =>.nilm
 |.ub p q=>.ub p q
 |.cb l=>.cb l
 |.val x=>.val x
def zba(f:Nat->Nat):List AV->List AV
 | []=> []
 |a::l=>a.mapI f::zba f l
end
def Blk.mapI(f:Nat->Nat):Blk->Blk
 |.cells l=>.cells (zba f l)
 |.free =>.free
 |.dead =>.dead
 |.buf e k xs=>.buf e k xs
 |.map a b es=>.map a b es
 |.gst J=>.gst J
def qkg(f:Nat->Nat):List Blk->List Blk
 | []=> []
 |b::l=>b.mapI f::qkg f l
def zg4(f:Nat->Nat):List (Nat×Blk)->List (Nat×Blk)
 | []=> []
 |(i,b)::l=>(f i,b.mapI f)::zg4 f l
def cAV:Value->AV
 |.bool b=>.bool b
 |.int k n=>.int k n
 |.string s=>.str s.data.toList
 |.pointer none=>.nilp
 |.slice none 0 0=>.nilsl
 |.nilFunc =>.nilf
 |.map none=>.nilm
 | _=>.any
def zj(sl:List AV):Operand->AV
 |.tmp t=>sl.getD t .any
 |.const v=>cAV v
 |.global _=>.any
 |.func f=>.fn f []
def AV.cs:AV->List AV
 |.agg l=>l
 |a=> [a]
def AV.one:AV->Bool
 |.any =>false
 |.agg _=>false
 |.tup _=>false
 | _=>true
def zfp:List AV->Bool
 | []=>true
 |a::l=>match a.one with
  |true=>zfp l
  |false=>false
def zj9:AV->(Int->Prop)->Prop
 |.int .i64 n,k=>k n
 | _,_=>False
def qhv:AV->(Int->Prop)->Prop
 |.int .u32 n,k=>k n
 | _,_=>False
def znl:AV->(Bool->Prop)->Prop
 |.bool n,k=>k n
 | _,_=>False
def qfy:AV->(zn->Prop)->Prop
 |.str s,k=>k s
 | _,_=>False
def qhw:AV->(List Ex->Prop)->Prop
 |.sl .ex l,k=>k l
 |.nilsl,k=>k []
 | _,_=>False
def gEx:List AV->(Ex->List AV->Prop)->Prop
 |a::b::c::s::p::l::r,k=>zj9 a fun a=>zj9 b fun b=>zj9 c fun c=>qfy s fun s=>zj9 p fun p=>qhw l fun l=>k (.mk a ⟨b,c⟩ s p l) r
 | _,_=>False
def gLs:AV->(List Int->Prop)->Prop
 |.sl .u32 l,k=>k l
 |.nilsl,k=>k []
 | _,_=>False
def gIs:AV->(List Iv->Prop)->Prop
 |.sl .iv l,k=>k l
 |.nilsl,k=>k []
 | _,_=>False
def gDy:List AV->(Dy->List AV->Prop)->Prop
 |a::b::c::r,k=>znl a fun a=>gLs b fun b=>zj9 c fun c=>k ⟨a,b,c⟩ r
 | _,_=>False
def qx:(k:Elt)->List AV->(k.T->Prop)->Prop
 |.ex,l,k=>gEx l fun e r=>match r with| []=>k e| _=>False
 |.str,[s],k=>qfy s k
 |.int,[n],k=>zj9 n k
 |.bool,[n],k=>znl n k
 |.u32,[n],k=>qhv n k
 |.ls,[n],k=>gLs n k
 |.dy,l,k=>gDy l fun d r=>match r with| []=>k d| _=>False
 |.iv,l,k=>gDy l fun a r=>gDy r fun b r=>match r with| [x]=>znl x fun x=>k ⟨a,b,x⟩| _=>False
 |.ki,s::l,k=>zj9 s fun s=>gDy l fun a r=>gDy r fun b r=>match r with| [x]=>znl x fun x=>k (s,⟨a,b,x⟩)| _=>False
 |.vs,[n],k=>gIs n k
 |.dd,l,k=>gDy l fun a r=>gDy r fun b r=>match r with| []=>k (a,b)| _=>False
 |.rat,[a,b],k=>zj9 a fun a=>zj9 b fun b=>k ⟨a,b⟩
 |.op,[a,b,c,d,e,f],k=>zj9 a fun a=>zj9 b fun b=>zj9 c fun c=>zj9 d fun d=>zj9 e fun e=>zj9 f fun f=>k ⟨a,b,c,d,⟨e,f⟩⟩
 |.eqn,s::l,k=>qfy s fun s=>gEx l fun e r=>match r with| []=>k ⟨s,e⟩| _=>False
 |.ex2,l,k=>gEx l fun a r=>gEx r fun b r=>match r with| []=>k (a,b)| _=>False
 | _,_,_=>False
def zgc(k:Elt):List AV->(List k.T->Prop)->Prop
 | [],K=>K []
 |a::l,K=>qx k a.cs fun x=>zgc k l fun xs=>K (x::xs)
def qek:(k:Elt)->AV->(List k.T->Prop)->Prop
 |.ex,.sl .ex xs,K=>K xs
 |.str,.sl .str xs,K=>K xs
 |.int,.sl .int xs,K=>K xs
 |.rat,.sl .rat xs,K=>K xs
 |.op,.sl .op xs,K=>K xs
 |.eqn,.sl .eqn xs,K=>K xs
 |.ex2,.sl .ex2 xs,K=>K xs
 |.bool,.sl .bool xs,K=>K xs
 |.u32,.sl .u32 xs,K=>K xs
 |.ls,.sl .ls xs,K=>K xs
 |.dy,.sl .dy xs,K=>K xs
 |.iv,.sl .iv xs,K=>K xs
 |.ki,.sl .ki xs,K=>K xs
 |.vs,.sl .vs xs,K=>K xs
 |.dd,.sl .dd xs,K=>K xs
 | _,_,_=>False
def ztu:(k:Elt)->k.T->k.T->Bool
 |.str,a,b=>a==b
 |.int,a,b=>a==b
 |.op,a,b=>a==b
 | _,_,_=>false
def zob(kk:Elt){V:Type}(x:kk.T)(z:V):List (kk.T×V)->V
 | []=>z
 |(y,v)::r=>bif ztu kk x y then v else zob kk x z r
def zlh(kk:Elt){V:Type}(x:kk.T):List (kk.T×V)->Bool
 | []=>false
 |(y,_)::r=>ztu kk x y||zlh kk x r
def zm7(kk:Elt){V:Type}(x:kk.T)(u:V):List (kk.T×V)->List (kk.T×V)
 | []=> [(x,u)]
 |(y,v)::r=>bif ztu kk x y then(x,u)::r else(y,v)::zm7 kk x u r
