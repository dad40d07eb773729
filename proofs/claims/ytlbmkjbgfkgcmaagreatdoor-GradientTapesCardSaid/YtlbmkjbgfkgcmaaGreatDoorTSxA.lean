/- The abstract values of the engine, and the symbolic execution over them. Nothing of a program stands here. -/
import Derived.WalkKit
import Derived.Orders
import Derived.KernelRfl
set_option linter.all false
open Nat renaming beq->q0
namespace Go.Sx
open Go
theorem Z0{p:Prop}[Decidable p]:decide p=true->p:=of_decide_eq_true
theorem Z3{p:Prop}[Decidable p]:decide p=false->Not p:=of_decide_eq_false
theorem Z4{p:Prop}[Decidable p]:(decide p=true)=p:=decide_eq_true_eq
theorem Z5{p:Prop}{_:Decidable p}:decide p=false<->Not p:=decide_eq_false_iff_not
theorem Z6{c:Prop}{h:Decidable c}(hc:c){a:Sort _}{t e:a}:ite c t e=t:=if_pos hc
theorem Z7{c:Prop}{h:Decidable c}(hc:Not c){a:Sort _}{t e:a}:ite c t e=e:=if_neg hc
theorem Z8{p:Prop}[Decidable p]:p->decide p=true:=decide_eq_true
theorem Z9{p:Prop}[Decidable p]:Not p->decide p=false:=decide_eq_false
theorem O{P:Prop}(h:P:=by omega):P:=h
theorem Z{P:Prop}(h:P:=by kernel_rfl):P:=h
theorem OA{P:Prop}(h:P:=by decide):P:=h
theorem OB{P:Prop}(h:P:=by decide+kernel):P:=h
theorem OC{P:Prop}(h:P:=by simp):P:=h
theorem OD{P:Prop}(h:P:=by simp only;omega):P:=h
theorem OE{P:Prop}(h:P:=by simp;omega):P:=h
abbrev zb7:=List UInt8
structure Rt where
 n:Int
 d:Int
deriving DecidableEq,Inhabited
inductive Ex where
 |mk (k:Int) (q:Rt) (s:zb7) (p:Int) (l:List Ex)
def Ex.k:Ex->Int|.mk k _ _ _ _=>k
def Ex.q:Ex->Rt|.mk _ q _ _ _=>q
def Ex.s:Ex->zb7|.mk _ _ s _ _=>s
def Ex.p:Ex->Int|.mk _ _ _ p _=>p
def Ex.l:Ex->List Ex|.mk _ _ _ _ l=>l
structure TOp where
 k:Int
 a:Int
 b:Int
 n:Int
 c:Rt
deriving DecidableEq
structure Eqn where
 s:zb7
 e:Ex
structure Dy where
 neg:Bool
 m:List Int
 e:Int
deriving DecidableEq
structure Iv where
 lo:Dy
 hi:Dy
 all:Bool
deriving DecidableEq
inductive Elt where
 |ex|str|int|rat|op|eqn|ex2|bool|u32|ls|dy|iv|ki|vs|dd|u8|f0|fk
@[reducible] def Elt.T:Elt->Type
  |.ex =>Ex|.str =>zb7|.int =>Int|.rat =>Rt|.op =>TOp|.eqn =>Eqn|.ex2 =>Ex×Ex|.bool =>Bool|.u32 =>Int|.ls =>List Int|.dy =>Dy|.iv =>Iv|.ki =>Int×Iv|.vs =>List Iv|.dd =>Dy×Dy|.u8 =>Int|.f0 =>Nat|.fk =>Option (Nat×List Nat)
def Elt.size:Elt->Nat
 |.ex =>6|.str =>1|.int =>1|.rat =>2|.op =>6|.eqn =>7|.ex2 =>12|.bool =>1|.u32 =>1|.ls =>1|.dy =>3|.iv =>7|.ki =>8|.vs =>1|.dd =>6|.u8 =>1|.f0 =>1|.fk =>1
inductive AV where
 |any
 |bool (b:Bool)
 |int (k:IntKind) (n:Int)
 |str (s:zb7)
 |nilp
 |ptr (id off:Nat)
 |rp (k:Elt) (x:k.T) (off:Nat)
 |opt (id sz i off:Nat)
 |ow (id sz i n:Nat)
 |nilsl
 |sl (k:Elt) (xs:List k.T)
 |own (id:Nat)
 |agg (l:List AV)
 |tup (l:List AV)
 |fn (f:Nat) (caps:List AV)
 |nilf
 |mp (id:Nat)
 |nilm
 |ub (p q:Prop)
 |cb (l:Nat)
 |val (x:Value)
def exC(e:Ex):List AV:= [.int .i64 e.k,.int .i64 e.q.n,.int .i64 e.q.d,.str e.s,.int .i64 e.p,.sl .ex e.l]
def dyC(d:Dy):List AV:= [.bool d.neg,.sl .u32 d.m,.int .i64 d.e]
def ivC(x:Iv):List AV:= [.bool x.lo.neg,.sl .u32 x.lo.m,.int .i64 x.lo.e,.bool x.hi.neg,.sl .u32 x.hi.m,.int .i64 x.hi.e,.bool x.all]
def fkL:List Nat->List AV
 | []=> []
 |n::l=>.rp .f0 n 0::fkL l
def fkV:Option (Nat×List Nat)->AV
 |none=>.nilf
 |some p=>.fn p.1 (fkL p.2)
def Elt.cells:(k:Elt)->k.T->List AV
 |.ex,e=>exC e
 |.str,s=> [.str s]
 |.int,n=> [.int .i64 n]
 |.rat,r=> [.int .i64 r.n,.int .i64 r.d]
 |.op,o=> [.int .i64 o.k,.int .i64 o.a,.int .i64 o.b,.int .i64 o.n,.int .i64 o.c.n,.int .i64 o.c.d]
 |.eqn,q=>.str q.s::exC q.e
 |.bool,b=> [.bool b]
 |.u32,n=> [.int .u32 n]
 |.ls,l=> [.sl .u32 l]
 |.dy,d=>dyC d
 |.iv,x=>ivC x
 |.ki,p=>.int .i64 p.1::ivC p.2
 |.dd,p=>dyC p.1++dyC p.2
 |.vs,l=> [.sl .iv l]
 |.u8,n=> [.int .u8 n]
 |.f0,n=> [.fn n []]
 |.fk,p=> [fkV p]
 |.ex2,p=> [.int .i64 p.1.k,.int .i64 p.1.q.n,.int .i64 p.1.q.d,.str p.1.s,.int .i64 p.1.p,.sl .ex p.1.l,
    .int .i64 p.2.k,.int .i64 p.2.q.n,.int .i64 p.2.q.d,.str p.2.s,.int .i64 p.2.p,.sl .ex p.2.l]
inductive Blk where
 |free
 |dead
 |cells (l:List AV)
 |buf (e:TypeId) (k:Elt) (xs:List k.T)
 |map (kk vk:Elt) (es:List (kk.T×vk.T))
 |gst (J:(Nat->Prop)->(Nat->Obj->Prop)->World->Prop)
structure St where
 sl:List AV
 hp:List (Nat×Blk)
structure TI where
 cls:Nat
 sz:Nat
 fs:List (Nat×Nat×Bool)
 e:Nat
 esz:Nat
 len:Nat
 k:Option Elt
 ik:IntKind
 z:List AV
 bytes:Nat
 eq:Bool
deriving Inhabited
def TI.agg(i:TI):Bool:=q0 i.cls 2||q0 i.cls 4
def tgL:List (Nat×TI)->Nat->(TI->Prop)->Prop
 | [],_,_=>False
 |(a,i)::r,t,k=>match q0 a t with
  |true=>k i
  |false=>tgL r t k
structure Tab where
 ty:List (Nat×TI)
 of:List Nat:= []
 nb:List (Nat×Nat):= []
 gl:List Nat:= []
 wn:List Nat:= []
def tgK(T:Tab)(t:Nat)(k:TI->Prop):Prop:=tgL T.ty t k
def nbL:List (Nat×Nat)->Nat->Nat
 | [],_=>0
 |(a,n)::r,f=>match q0 a f with
  |true=>n
  |false=>nbL r f
def qcw(T:Tab)(f:Nat):Nat:=nbL T.nb f
mutual
def frc:AV->(AV->Prop)->Prop
 |.any,k=>k .any
 |.bool b,k=>k (.bool b)
 |.int t n,k=>k (.int t n)
 |.str s,k=>k (.str s)
 |.nilp,k=>k .nilp
 |.ptr i o,k=>k (.ptr i o)
 |.rp t x o,k=>k (.rp t x o)
 |.opt i s j o,k=>k (.opt i s j o)
 |.ow i s j n,k=>k (.ow i s j n)
 |.nilsl,k=>k .nilsl
 |.sl t xs,k=>k (.sl t xs)
 |.own i,k=>k (.own i)
 |.agg l,k=>zkd l fun l=>k (.agg l)
 |.tup l,k=>zkd l fun l=>k (.tup l)
 |.fn f l,k=>zkd l fun l=>k (.fn f l)
 |.nilf,k=>k .nilf
 |.mp i,k=>k (.mp i)
 |.nilm,k=>k .nilm
 |.ub p q,k=>k (.ub p q)
 |.cb i,k=>k (.cb i)
 |.val x,k=>k (.val x)
def zkd:List AV->(List AV->Prop)->Prop
 | [],k=>k []
 |a::l,k=>frc a fun a=>zkd l fun l=>k (a::l)
end
def qe8:Blk->(Blk->Prop)->Prop
 |.free,k=>k .free
 |.dead,k=>k .dead
 |.cells l,k=>zkd l fun l=>k (.cells l)
 |.buf e t xs,k=>k (.buf e t xs)
 |.map a b es,k=>k (.map a b es)
 |.gst J,k=>k (.gst J)
def zty:List Blk->(List Blk->Prop)->Prop
 | [],k=>k []
 |a::l,k=>qe8 a fun a=>zty l fun l=>k (a::l)
def zfj:List Nat->(List Nat->Prop)->Prop
 | [],k=>k []
 |i::l,k=>zfj l fun l=>k (i::l)
def zyb:List AV->Nat->AV->(List AV->Prop)->Prop
 | [],_,_,k=>k []
 | _::xs,0,v,k=>k (v::xs)
 |x::xs,i+1,v,k=>zyb xs i v fun ys=>k (x::ys)
def hget:List (Nat×Blk)->Nat->Blk
 | [],_=>.dead
 |(a,b)::r,i=>match q0 a i with
  |true=>b
  |false=>hget r i
def xo:List (Nat×Blk)->Nat->Blk->List (Nat×Blk)
 | [],_,_=> []
 |(a,b)::r,i,v=>match q0 a i with
  |true=>(a,v)::r
  |false=>(a,b)::xo r i v
def zqq:List (Nat×Blk)->Nat->Blk->(List (Nat×Blk)->Prop)->Prop
 | [],_,_,k=>k []
 |(a,b)::r,i,v,k=>match q0 a i with
  |true=>k ((a,v)::r)
  |false=>zqq r i v fun r=>k ((a,b)::r)
def qq:List (Nat×Blk)->List Nat->List Blk->List (Nat×Blk)
 |h,i::is,b::bs=>qq (xo h i b) is bs
 |h,_,_=>h
def zbb:List (Nat×Blk)->List Nat->List Blk->(List (Nat×Blk)->Prop)->Prop
 |h,i::is,b::bs,k=>zqq h i b fun h=>zbb h is bs k
 |h,_,_,k=>k h
mutual
def AV.ids:AV->List Nat
 |.ptr i _=> [i]
 |.opt i _ _ _=> [i]
 |.ow i _ _ _=> [i]
 |.own i=> [i]
 |.mp i=> [i]
 |.agg l=>wk l
 |.tup l=>wk l
 |.fn _ l=>wk l
 | _=> []
def wk:List AV->List Nat
 | []=> []
 |a::l=>a.ids++wk l
end
mutual
def AV.ids2:AV->List Nat
 |.ptr i _=> [i]
 |.opt i _ _ _=> [i]
 |.ow i _ _ _=> [i]
 |.own i=> [i]
 |.mp i=> [i]
 |.agg l=>kw l
 |.tup l=>kw l
 |.fn _ l=>kw l
 |.cb _=> [1999999]
 | _=> []
def kw:List AV->List Nat
 | []=> []
 |a::l=>a.ids2++kw l
end
mutual
theorem AV.ids2_sub:∀(a:AV)(i:Nat),i∈a.ids->i∈a.ids2
 |.agg l,i,h=>by simp only[AV.ids,AV.ids2]at h⊢;exact zas l i h
 |.tup l,i,h=>by simp only[AV.ids,AV.ids2]at h⊢;exact zas l i h
 |.fn _ l,i,h=>by simp only[AV.ids,AV.ids2]at h⊢;exact zas l i h
 |.ptr _ _,_,h=>h
 |.opt _ _ _ _,_,h=>h
 |.ow _ _ _ _,_,h=>h
 |.own _,_,h=>h
 |.mp _,_,h=>h
 |.any,_,h=>h
 |.bool _,_,h=>h
 |.int _ _,_,h=>h
 |.str _,_,h=>h
 |.nilp,_,h=>h
 |.rp _ _ _,_,h=>h
 |.nilsl,_,h=>h
 |.sl _ _,_,h=>h
 |.nilf,_,h=>h
 |.nilm,_,h=>h
 |.ub _ _,_,h=>h
 |.cb _,_,h=>by simp[AV.ids]at h
 |.val _,_,h=>by simp[AV.ids]at h
theorem zas:∀(l:List AV)(i:Nat),i∈wk l->i∈kw l
 | [],_,h=>h
 |a::l,i,h=>by
  simp only[wk,kw,List.mem_append]at h⊢;exact h.imp (AV.ids2_sub a i) (zas l i)
end
def zev:Nat->List Nat->Bool
 | _,[]=>false
 |i,j::l=>match q0 i j with
  |true=>true
  |false=>zev i l
def nub:List Nat->List Nat
 | []=> []
 |i::l=>match zev i l with
  |true=>nub l
  |false=>i::nub l
def zvr:List Nat->List Nat->Bool
 | [],_=>true
 |i::l,m=>match zev i m with
  |true=>zvr l m
  |false=>false
def zde:List Nat->List Nat->Bool
 | [],_=>true
 |i::l,m=>match zev i m with
  |true=>false
  |false=>zde l m
def zc4:List (Nat×Blk)->List Nat
 | []=> []
 |(i,b)::r=>(match b with|.cells l=>wk l| _=> [])++zc4 r
def St.ids(Y:St):List Nat:=wk Y.sl++zc4 Y.hp
mutual
def AV.owns:AV->List Nat
 |.own i=> [i]
 |.agg l=>zdx l
 |.tup l=>zdx l
 |.fn _ l=>zdx l
 | _=> []
def zdx:List AV->List Nat
 | []=> []
 |a::l=>a.owns++zdx l
end
mutual
def AV.mapI(f:Nat->Nat):AV->AV
 |.ptr i o=>.ptr (f i) o
 |.opt i s j o=>.opt (f i) s j o
 |.ow i s j n=>.ow (f i) s j n
 |.own i=>.own (f i)
 |.mp i=>.mp (f i)
 |.agg l=>.agg (xw f l)
 |.tup l=>.tup (xw f l)
 |.fn g l=>.fn g (xw f l)
 |.any =>.any
 |.bool b=>.bool b
 |.int t n=>.int t n
 |.str s=>.str s
 |.nilp =>.nilp
 |.rp t x o=>.rp t x o
 |.nilsl =>.nilsl
 |.sl t ys=>.sl t ys
 |.nilf =>.nilf
 |.nilm =>.nilm
 |.ub p q=>.ub p q
 |.cb l=>.cb l
 |.val x=>.val x
def xw(f:Nat->Nat):List AV->List AV
 | []=> []
 |a::l=>a.mapI f::xw f l
end
def Blk.mapI(f:Nat->Nat):Blk->Blk
 |.cells l=>.cells (xw f l)
 |.free =>.free
 |.dead =>.dead
 |.buf e k xs=>.buf e k xs
 |.map a b es=>.map a b es
 |.gst J=>.gst J
def qeo(f:Nat->Nat):List Blk->List Blk
 | []=> []
 |b::l=>b.mapI f::qeo f l
def zew(f:Nat->Nat):List (Nat×Blk)->List (Nat×Blk)
 | []=> []
 |(i,b)::l=>(f i,b.mapI f)::zew f l
def cAV:Value->AV
 |.bool b=>.bool b
 |.int k n=>.int k n
 |.string s=>.str s.data.toList
 |.pointer none=>.nilp
 |.slice none 0 0=>.nilsl
 |.nilFunc =>.nilf
 |.map none=>.nilm
 | _=>.any
def zm(sl:List AV):Operand->AV
 |.tmp t=>sl.getD t .any
 |.const v=>cAV v
 |.global _=>.any
 |.func f=>.fn f []
def AV.cs:AV->List AV
 |.agg l=>l
 |a=> [a]
def AV.one:AV->Bool
 |.any =>false
 |.agg _=>false
 |.tup _=>false
 | _=>true
def zeq:List AV->Bool
 | []=>true
 |a::l=>match a.one with
  |true=>zeq l
  |false=>false
def zi2:AV->(Int->Prop)->Prop
 |.int .i64 n,k=>k n
 | _,_=>False
def qc3:AV->(Int->Prop)->Prop
 |.int .u32 n,k=>k n
 | _,_=>False
def zlz:AV->(Bool->Prop)->Prop
 |.bool n,k=>k n
 | _,_=>False
def qa9:AV->(zb7->Prop)->Prop
 |.str s,k=>k s
 | _,_=>False
def qc4:AV->(List Ex->Prop)->Prop
 |.sl .ex l,k=>k l
 |.nilsl,k=>k []
 | _,_=>False
def gEx:List AV->(Ex->List AV->Prop)->Prop
 |a::b::c::s::p::l::r,k=>zi2 a fun a=>zi2 b fun b=>zi2 c fun c=>qa9 s fun s=>zi2 p fun p=>qc4 l fun l=>k (.mk a ⟨b,c⟩ s p l) r
 | _,_=>False
def gLs:AV->(List Int->Prop)->Prop
 |.sl .u32 l,k=>k l
 |.nilsl,k=>k []
 | _,_=>False
def gIs:AV->(List Iv->Prop)->Prop
 |.sl .iv l,k=>k l
 |.nilsl,k=>k []
 | _,_=>False
def gDy:List AV->(Dy->List AV->Prop)->Prop
 |a::b::c::r,k=>zlz a fun a=>gLs b fun b=>zi2 c fun c=>k ⟨a,b,c⟩ r
 | _,_=>False
def gU8:AV->(Int->Prop)->Prop
 |.int .u8 n,k=>k n
 | _,_=>False
def gFl:List AV->(List Nat->Prop)->Prop
 | [],k=>k []
 |.rp .f0 n 0::r,k=>gFl r fun l=>k (n::l)
 | _,_=>False
def gFk:AV->(Option (Nat×List Nat)->Prop)->Prop
 |.nilf,k=>k none
 |.fn g l,k=>gFl l fun l=>k (some (g,l))
 | _,_=>False
def qf:(k:Elt)->List AV->(k.T->Prop)->Prop
 |.ex,l,k=>gEx l fun e r=>match r with| []=>k e| _=>False
 |.str,[s],k=>qa9 s k
 |.int,[n],k=>zi2 n k
 |.bool,[n],k=>zlz n k
 |.u32,[n],k=>qc3 n k
 |.ls,[n],k=>gLs n k
 |.dy,l,k=>gDy l fun d r=>match r with| []=>k d| _=>False
 |.iv,l,k=>gDy l fun a r=>gDy r fun b r=>match r with| [x]=>zlz x fun x=>k ⟨a,b,x⟩| _=>False
 |.ki,s::l,k=>zi2 s fun s=>gDy l fun a r=>gDy r fun b r=>match r with| [x]=>zlz x fun x=>k (s,⟨a,b,x⟩)| _=>False
 |.vs,[n],k=>gIs n k
 |.u8,[n],k=>gU8 n k
 |.fk,[n],k=>gFk n k
 |.dd,l,k=>gDy l fun a r=>gDy r fun b r=>match r with| []=>k (a,b)| _=>False
 |.rat,[a,b],k=>zi2 a fun a=>zi2 b fun b=>k ⟨a,b⟩
 |.op,[a,b,c,d,e,f],k=>zi2 a fun a=>zi2 b fun b=>zi2 c fun c=>zi2 d fun d=>zi2 e fun e=>zi2 f fun f=>k ⟨a,b,c,d,⟨e,f⟩⟩
 |.eqn,s::l,k=>qa9 s fun s=>gEx l fun e r=>match r with| []=>k ⟨s,e⟩| _=>False
 |.ex2,l,k=>gEx l fun a r=>gEx r fun b r=>match r with| []=>k (a,b)| _=>False
 | _,_,_=>False
def zff(k:Elt):List AV->(List k.T->Prop)->Prop
 | [],K=>K []
 |a::l,K=>qf k a.cs fun x=>zff k l fun xs=>K (x::xs)
def zz5:(k:Elt)->AV->(List k.T->Prop)->Prop
 |.ex,.sl .ex xs,K=>K xs
 |.str,.sl .str xs,K=>K xs
 |.int,.sl .int xs,K=>K xs
 |.rat,.sl .rat xs,K=>K xs
 |.op,.sl .op xs,K=>K xs
 |.eqn,.sl .eqn xs,K=>K xs
 |.ex2,.sl .ex2 xs,K=>K xs
 |.bool,.sl .bool xs,K=>K xs
 |.u32,.sl .u32 xs,K=>K xs
 |.ls,.sl .ls xs,K=>K xs
 |.dy,.sl .dy xs,K=>K xs
 |.iv,.sl .iv xs,K=>K xs
 |.ki,.sl .ki xs,K=>K xs
 |.vs,.sl .vs xs,K=>K xs
 |.dd,.sl .dd xs,K=>K xs
 |.u8,.sl .u8 xs,K=>K xs
 | _,_,_=>False
def zqo:(k:Elt)->k.T->k.T->Bool
 |.str,a,b=>a==b
 |.int,a,b=>a==b
 |.op,a,b=>a==b
 | _,_,_=>false
def zj3(kk:Elt){V:Type}(x:kk.T)(z:V):List (kk.T×V)->V
 | []=>z
 |(y,v)::r=>bif zqo kk x y then v else zj3 kk x z r
def qcy(kk:Elt){V:Type}(x:kk.T):List (kk.T×V)->Bool
 | []=>false
 |(y,_)::r=>zqo kk x y||qcy kk x r
def qcx(kk:Elt){V:Type}(x:kk.T)(u:V):List (kk.T×V)->List (kk.T×V)
 | []=> [(x,u)]
 |(y,v)::r=>bif zqo kk x y then(x,u)::r else(y,v)::qcx kk x u r
