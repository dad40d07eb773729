/- What an operation yields can be drawn out of the execution: effO is a value and blocks, handed on. -/
import Derived.Test.YtlbmkjbgfkgcmaaGreatDoorSSxO
set_option linter.all false
open Nat renaming beq->q0
namespace Go.Sx
open Go
def Out{α:Type}(F:(α->Prop)->Prop):Prop:=∀E:α->Prop,F E->∃x,E x/\∀E':α->Prop,E' x->F E'
def qe(F:(AV->List Blk->Prop)->Prop):Prop:=∀E:AV->List Blk->Prop,F E->∃r bs,E r bs/\∀E':AV->List Blk->Prop,E' r bs->F E'
theorem Out.pure{α:Type}(x:α):Out fun E:α->Prop=>E x:=fun _ h=>⟨x,h,fun _ h=>h⟩
theorem Out.no{α:Type}:Out fun _:α->Prop=>False:=fun _ h=>h.elim
theorem Out.bind{α β:Type}{F:(α->Prop)->Prop}{G:α->(β->Prop)->Prop}(hF:Out F)(hG:∀x,Out (G x)):Out fun E=>F fun x=>G x E:=fun E h=>by
 obtain⟨x,h1,h2⟩:=hF _ h;obtain⟨y,h3,h4⟩:=hG x E h1;exact⟨y,h3,fun E' he=>h2 _ (h4 E' he)⟩
theorem Out.and{α:Type}{p:Prop}{F:(α->Prop)->Prop}(hF:Out F):Out fun E=>p/\F E:=fun E h=>by
 obtain⟨x,h1,h2⟩:=hF E h.2;exact⟨x,h1,fun E' he=>⟨h.1,h2 E' he⟩⟩
theorem qe.pure(r:AV)(bs:List Blk):qe fun E=>E r bs:=fun _ h=>⟨r,bs,h,fun _ h=>h⟩
theorem qe.no:qe fun _=>False:=fun _ h=>h.elim
theorem qe.bind{α:Type}{F:(α->Prop)->Prop}{G:α->(AV->List Blk->Prop)->Prop}(hF:Out F)(hG:∀x,qe (G x)):qe fun E=>F fun x=>G x E:=fun E h=>by
 obtain⟨x,h1,h2⟩:=hF _ h;obtain⟨y,bs,h3,h4⟩:=hG x E h1;exact⟨y,bs,h3,fun E' he=>h2 _ (h4 E' he)⟩
theorem qe.and{p:Prop}{F:(AV->List Blk->Prop)->Prop}(hF:qe F):qe fun E=>p/\F E:=fun E h=>by
 obtain⟨x,bs,h1,h2⟩:=hF E h.2;exact⟨x,bs,h1,fun E' he=>⟨h.1,h2 E' he⟩⟩
theorem qe.idx{α:Type}(xs:List α)(j:Nat){p:Prop}(hp:p->j<xs.length){G:α->(AV->List Blk->Prop)->Prop}(hG:∀x,qe (G x)):qe fun E=>p/\∀x,xs[j]? =some x->G x E:=fun E h=>by
 have hj:=hp h.1;have hx:xs[j]? =some xs[j]:=List.getElem?_eq_getElem hj;obtain⟨r,bs,h1,h2⟩:=hG _ E (h.2 _ hx);exact⟨r,bs,h1,fun E' he=>⟨h.1,fun y hy=>by rw[hx]at hy;cases hy;exact h2 E' he⟩⟩
theorem zqv:∀(T:List (Nat×TI))(t:Nat),Out (tgL T t)
 | [],_=>Out.no
 |(a,i)::r,t=>by
  intro E h;simp only[tgL]at h⊢
  cases e:q0 a t with
  |true=>simp only[e]at h⊢;exact⟨i,h,fun _ h=>h⟩
  |false=>simp only[e]at h⊢;exact zqv r t E h
theorem vj(T:Tab)(t:Nat):Out (tgK T t):=zqv T.ty t
theorem zjm(l:List AV):Out (zjn l):=fun E h=>⟨l,(vh l E).1 h,fun E' he=>(vh l E').2 he⟩
theorem zcx:∀(l:List AV)(o n:Nat),Out (cut l o n)
 |l,0,0=>by intro E h;cases l<;>(simp only[cut]at h⊢;exact⟨[],h,fun _ h=>h⟩)
 |a::l,0,n+1=>by
  have:=Out.bind (G:=fun r(k:List AV->Prop)=>k (a::r)) (zcx l 0 n) fun r=>Out.pure _
  intro E h;simp only[cut]at h⊢;exact this E h
 | [],0,_+1=>by intro E h;simp[cut]at h
 | _::l,off+1,n=>by intro E h;simp only[cut]at h⊢;exact zcx l off n E h
 | [],_+1,_=>by intro E h;simp[cut]at h
theorem zee:∀(l:List AV)(o:Nat)(m:List AV),Out (lay l o m)
 |l,0,[]=>by intro E h;cases l<;>(simp only[lay]at h⊢;exact⟨_,h,fun _ h=>h⟩)
 | _::l,0,b::m=>by
   have:=Out.bind (G:=fun r(k:List AV->Prop)=>k (b::r)) (zee l 0 m) fun r=>Out.pure _
   intro E h;simp only[lay]at h⊢;exact this E h
 | [],0,_::_=>by intro E h;simp[lay]at h
 |a::l,off+1,m=>by
  have:=Out.bind (G:=fun r(k:List AV->Prop)=>k (a::r)) (zee l off m) fun r=>Out.pure _
  intro E h;simp only[lay]at h⊢;exact this E h
 | [],_+1,m=>by intro E h;simp[lay]at h
theorem zsc(l:List AV):Out fun E:AV->Prop=>match l with
 | [a]=>E a
 | _=>False:=by
 intro E h;split at h
 .exact⟨_,h,fun _ h=>h⟩
 .exact h.elim
theorem zjh(i:TI)(l:List AV)(off:Nat):Out (ldK i l off):=by
 intro E h;unfold ldK at h⊢
 cases e:i.agg with
 |true=>simp only[e]at h⊢;exact Out.bind (G:=fun r(E:AV->Prop)=>E (.agg r)) (zcx l off i.sz) (fun r=>Out.pure _) E h
 |false=>simp only[e]at h⊢;exact Out.bind (zcx l off 1) (fun r=>zsc r) E h
theorem zki(l:List AV)(o s:Nat)(a:Bool):Out (zps l o s a):=by
 intro E h;unfold zps at h⊢
 cases a with
 |true=>exact Out.bind (G:=fun r(E:AV->Prop)=>E (.agg r)) (zcx l o s) (fun r=>Out.pure _) E h
 |false=>exact Out.bind (zcx l o 1) (fun r=>zsc r) E h
theorem zgt{G:Nat->Nat->Bool->(AV->List Blk->Prop)->Prop}(hG:∀o s a,qe (G o s a)):∀(fs:List (Nat×Nat×Bool))(f:Nat),qe fun E=>zch fs f fun o s a=>G o s a E
 |(o,s,a)::_,0=>by intro E h;simp only[zch]at h⊢;exact hG o s a E h
 |(_,_,_)::r,f+1=>by intro E h;simp only[zch]at h⊢;exact zgt hG r f E h
 | [],_=>by intro E h;simp[zch]at h
theorem zia{α:Type}{G:Nat->Nat->Bool->(α->Prop)->Prop}(hG:∀o s a,Out (G o s a)):∀(fs:List (Nat×Nat×Bool))(f:Nat),Out fun E=>zch fs f fun o s a=>G o s a E
 |(o,s,a)::_,0=>by intro E h;simp only[zch]at h⊢;exact hG o s a E h
 |(_,_,_)::r,f+1=>by intro E h;simp only[zch]at h⊢;exact zia hG r f E h
 | [],_=>by intro E h;simp[zch]at h
theorem zk7(fs:List (Nat×Nat×Bool)):∀(ps:List (Nat×AV))(z:List AV),Out (zk8 fs ps z)
 | [],z=>by intro E h;simp only[zk8]at h⊢;exact⟨z,h,fun _ h=>h⟩
 |(f,v)::r,z=>by
  intro E h;simp only[zk8]at h⊢;refine zia (fun o s _=>?_) fs f E h;intro E h;cases h1:zsu v.cs s<;>cases h2:zd7 v.cs<;>simp only[h1,h2]at h⊢
  exact Out.bind (zee z o v.cs) (fun z=>zk7 fs r z) E h
theorem zk9(s:Nat):∀(ps:List (Nat×AV))(z:List AV),Out (zla s ps z)
 | [],z=>by intro E h;simp only[zla]at h⊢;exact⟨z,h,fun _ h=>h⟩
 |(f,v)::r,z=>by
  intro E h;simp only[zla]at h⊢;cases h1:zsu v.cs s<;>cases h2:zd7 v.cs<;>simp only[h1,h2]at h⊢
  exact Out.bind (zee z (f*s) v.cs) (fun z=>zk9 s r z) E h
theorem wy(a:AV):Out (zh9 a):=by
 intro E h;unfold zh9 at h;split at h
 .exact⟨_,h,fun _ h=>h⟩
 .exact h.elim
theorem zdz(a:AV):Out (zk5 a):=by
 intro E h;unfold zk5 at h;split at h
 .exact⟨_,h,fun _ h=>h⟩
 .exact h.elim
theorem zwo(a:AV):Out (qch a):=by
 intro E h;unfold qch at h;split at h
 .exact⟨_,h,fun _ h=>h⟩
 .exact h.elim
theorem qau(a:AV):Out (gU8 a):=by
 intro E h;unfold gU8 at h;split at h
 .exact⟨_,h,fun _ h=>h⟩
 .exact h.elim
theorem ztb:∀l:List AV,Out (gFl l)
 | []=>fun E h=>⟨_,h,fun _ h=>h⟩
 |a::l=>fun E h=>by
  have ih:=ztb l;unfold gFl at h⊢;split at h
  .rename_i e;cases e
  .rename_i n r k e;injection e with e1 e2
   subst e1;subst e2;exact Out.bind ih (fun _=>Out.pure _) _ h
  .exact h.elim
theorem qax(a:AV):Out (gFk a):=by
 intro E h;unfold gFk at h⊢;split at h
 .exact⟨_,h,fun _ h=>h⟩
 .exact Out.bind (ztb _) (fun _=>Out.pure _) E h
 .exact h.elim
theorem zjk(a:AV):Out (qav a):=by
 intro E h;unfold qav at h;split at h
 .exact⟨_,h,fun _ h=>h⟩
 .exact h.elim
theorem zws(a:AV):Out (qci a):=by
 intro E h;unfold qci at h;split at h
 .exact⟨_,h,fun _ h=>h⟩
 .exact⟨_,h,fun _ h=>h⟩
 .exact h.elim
theorem zta(a:AV):Out (gLs a):=by
 intro E h;unfold gLs at h;split at h
 .exact⟨_,h,fun _ h=>h⟩
 .exact⟨_,h,fun _ h=>h⟩
 .exact h.elim
theorem qaw(a:AV):Out (gIs a):=by
 intro E h;unfold gIs at h;split at h
 .exact⟨_,h,fun _ h=>h⟩
 .exact⟨_,h,fun _ h=>h⟩
 .exact h.elim
theorem qaz(l:List AV):Out fun E:Dy×List AV->Prop=>gDy l fun e r=>E (e,r):=by
 intro E h;unfold gDy at h;split at h
 .exact Out.bind (zdz _) (fun _=>Out.bind (zta _) fun _=>Out.bind (wy _) fun _=>Out.pure (_,_)) E h
 .exact h.elim
theorem zaz{α:Type}{l:List AV}{G:Dy->List AV->(α->Prop)->Prop}(hG:∀e r,Out (G e r)):Out fun E=>gDy l fun e r=>G e r E:=
 Out.bind (F:=fun E:Dy×List AV->Prop=>gDy l fun e r=>E (e,r)) (G:=fun x=>G x.1 x.2) (qaz l) fun x=>hG _ _
theorem qay(l:List AV):Out fun E:Ex×List AV->Prop=>gEx l fun e r=>E (e,r):=by
 intro E h;unfold gEx at h;split at h
 .exact Out.bind (wy _) (fun _=>Out.bind (wy _) fun _=>Out.bind (wy _) fun _=>Out.bind (zjk _) fun _=>Out.bind (wy _) fun _=>
   Out.bind (zws _) fun _=>Out.pure (_,_)) E h
 .exact h.elim
theorem zfq{α:Type}{l:List AV}{G:Ex->List AV->(α->Prop)->Prop}(hG:∀e r,Out (G e r)):Out fun E=>gEx l fun e r=>G e r E:=
 Out.bind (F:=fun E:Ex×List AV->Prop=>gEx l fun e r=>E (e,r)) (G:=fun x=>G x.1 x.2) (qay l) fun x=>hG _ _
theorem yc:∀(k:Elt)(l:List AV),Out (qh k l)
 |.ex,l=>by
   intro E h;simp only[qh]at h⊢;refine zfq (fun e r=>?_) E h;intro E h
   cases r with
   |nil=>exact⟨_,h,fun _ h=>h⟩
   |cons _ _=>exact h.elim
 |.ls,[s]=>fun E h=>zta s E h
 |.ls,[]=>fun _ h=>False.elim h
 |.ls,_::_::_=>fun _ h=>False.elim h
 |.dy,l=>by
   intro E h;simp only[qh]at h⊢;refine zaz (fun e r=>?_) E h;intro E h
   cases r with
   |nil=>exact⟨_,h,fun _ h=>h⟩
   |cons _ _=>exact h.elim
 |.iv,l=>by
   intro E h;simp only[qh]at h⊢;refine zaz (fun e r=>zaz (fun e' r'=>?_)) E h;intro E h;split at h
   .exact Out.bind (zdz _) (fun _=>Out.pure _) E h
   .exact h.elim
 |.dd,l=>by
   intro E h;simp only[qh]at h⊢;refine zaz (fun e r=>zaz (fun e' r'=>?_)) E h;intro E h
   cases r' with
   |nil=>exact⟨_,h,fun _ h=>h⟩
   |cons _ _=>exact h.elim
 |.vs,[s]=>fun E h=>qaw s E h
 |.vs,[]=>fun _ h=>False.elim h
 |.vs,_::_::_=>fun _ h=>False.elim h
 |.ki,[]=>fun _ h=>False.elim h
 |.ki,s::l=>by
   intro E h;simp only[qh]at h⊢;refine Out.bind (wy s) (fun s=>zaz (fun e r=>zaz (fun e' r'=>?_))) E h;intro E h;split at h
   .exact Out.bind (zdz _) (fun _=>Out.pure _) E h
   .exact h.elim
 |.eqn,s::l=>by
   intro E h;simp only[qh]at h⊢;refine Out.bind (zjk s) (fun s=>zfq (fun e r=>?_)) E h;intro E h
   cases r with
   |nil=>exact⟨_,h,fun _ h=>h⟩
   |cons _ _=>exact h.elim
 |.ex2,l=>by
   intro E h;simp only[qh]at h⊢;refine zfq (fun e r=>zfq (fun e' r'=>?_)) E h;intro E h
   cases r' with
   |nil=>exact⟨_,h,fun _ h=>h⟩
   |cons _ _=>exact h.elim
 |.eqn,[]=>fun _ h=>False.elim h
 |.str,[s]=>fun E h=>zjk s E h
 |.str,[]=>fun _ h=>False.elim h
 |.str,_::_::_=>fun _ h=>False.elim h
 |.int,[s]=>fun E h=>wy s E h
 |.int,[]=>fun _ h=>False.elim h
 |.int,_::_::_=>fun _ h=>False.elim h
 |.bool,[s]=>fun E h=>zdz s E h
 |.bool,[]=>fun _ h=>False.elim h
 |.bool,_::_::_=>fun _ h=>False.elim h
 |.u8,[s]=>fun E h=>qau s E h
 |.u8,[]=>fun _ h=>False.elim h
 |.u8,_::_::_=>fun _ h=>False.elim h
 |.fk,[s]=>fun E h=>qax s E h
 |.fk,[]=>fun _ h=>False.elim h
 |.fk,_::_::_=>fun _ h=>False.elim h
 |.f0,l=>fun _ h=>by simp[qh]at h
 |.u32,[s]=>fun E h=>zwo s E h
 |.u32,[]=>fun _ h=>False.elim h
 |.u32,_::_::_=>fun _ h=>False.elim h
 |.rat,[a,b]=>fun E h=>Out.bind (wy a) (fun _=>Out.bind (wy b) fun _=>Out.pure _) E h
 |.rat,[]=>fun _ h=>False.elim h
 |.rat,[_]=>fun _ h=>False.elim h
 |.rat,_::_::_::_=>fun _ h=>False.elim h
 |.op,[a,b,c,d,e,f]=>fun E h=>Out.bind (wy a) (fun _=>Out.bind (wy b) fun _=>Out.bind (wy c) fun _=>Out.bind (wy d) fun _=>Out.bind (wy e) fun _=>Out.bind (wy f) fun _=>Out.pure _) E h
 |.op,[]=>fun _ h=>False.elim h
 |.op,[_]=>fun _ h=>False.elim h
 |.op,[_,_]=>fun _ h=>False.elim h
 |.op,[_,_,_]=>fun _ h=>False.elim h
 |.op,[_,_,_,_]=>fun _ h=>False.elim h
 |.op,[_,_,_,_,_]=>fun _ h=>False.elim h
 |.op,_::_::_::_::_::_::_::_=>fun _ h=>False.elim h
theorem zhr(k:Elt):∀l:List AV,Out (zey k l)
 | []=>by intro E h;simp only[zey]at h⊢;exact⟨_,h,fun _ h=>h⟩
 |a::l=>by
  intro E h;simp only[zey]at h⊢;exact Out.bind (yc k a.cs) (fun x=>Out.bind (G:=fun xs(K:List k.T->Prop)=>K (x::xs)) (zhr k l) fun xs=>Out.pure _) E h
theorem znp(k:Elt)(a:AV):Out (zzl k a):=by
 intro E h;unfold zzl at h;split at h<;>first|exact h.elim|exact⟨_,h,fun _ h=>h⟩
theorem ztk:∀(z l m:List AV),Out (eqZ z l m):=by
 intro z
 induction z with
 |nil=>
  intro l m
  cases l with
  |nil=>
   cases m with
   |nil=>exact fun E h=>⟨true,h,fun _ h=>h⟩
   |cons b m=>exact fun E h=>False.elim h
  |cons a l=>exact fun E h=>False.elim h
 |cons x z ih=>
  intro l m
  cases x with
  |int k n=>
   cases k<;>first|exact fun E h=>False.elim h|skip
   cases l with
   |nil=>exact fun E h=>False.elim h
   |cons a l=>
    cases a with
    |int k a=>
     cases k<;>first|exact fun E h=>False.elim h|skip
     cases m with
     |nil=>exact fun E h=>False.elim h
     |cons b m=>
      cases b with
      |int k b=>
       cases k<;>first|exact fun E h=>False.elim h|skip
       exact Out.bind (G:=fun r(k:Bool->Prop)=>k (a==b&&r)) (ih l m) (fun r=>Out.pure _)
      | _=>exact fun E h=>False.elim h
    | _=>exact fun E h=>False.elim h
  |str s=>
   cases l with
   |nil=>exact fun E h=>False.elim h
   |cons a l=>
    cases a with
    |str a=>
     cases m with
     |nil=>exact fun E h=>False.elim h
     |cons b m=>
      cases b with
      |str b=>exact Out.bind (G:=fun r(k:Bool->Prop)=>k (a==b&&r)) (ih l m) (fun r=>Out.pure _)
      | _=>exact fun E h=>False.elim h
    | _=>exact fun E h=>False.elim h
  |bool s=>
   cases l with
   |nil=>exact fun E h=>False.elim h
   |cons a l=>
    cases a with
    |bool a=>
     cases m with
     |nil=>exact fun E h=>False.elim h
     |cons b m=>
      cases b with
      |bool b=>exact Out.bind (G:=fun r(k:Bool->Prop)=>k (a==b&&r)) (ih l m) (fun r=>Out.pure _)
      | _=>exact fun E h=>False.elim h
    | _=>exact fun E h=>False.elim h
  | _=>exact fun E h=>False.elim h
theorem zji(o:BinOp)(k:IntKind)(a b:Int):Out (qaq o k a b):=by
 cases o<;>first|exact Out.pure _ |exact Out.and (Out.pure _)
theorem zu9(o:BinOp)(a b:zbw):Out (strB o a b):=by
 cases o<;>first|exact Out.pure _ |exact Out.and (Out.pure _)|exact Out.no
theorem zw4(i:TI)(o:BinOp)(x y:AV):Out (qbo i o x y):=by
 cases x<;>cases y<;>try exact Out.no
 case int.int k a k' b=>
  intro E h;cases o<;>simp only[qbo]at h⊢
  case shl=>exact zji _ _ _ _ E h
  case shr=>exact zji _ _ _ _ E h
  all_goals (cases hk:zmr k k'<;>simp only[hk]at h⊢;exact zji _ _ _ _ E h)
 case str.str a b=>exact zu9 _ _ _
 case bool.bool a b=>
  unfold qbo;cases q0 i.cls 6<;>cases o<;>first|exact Out.pure _ |exact Out.no
 case sl.nilsl k xs=>
  unfold qbo;cases q0 i.cls 3<;>cases o<;>first|exact Out.pure _ |exact Out.no
 case agg.agg l m=>
  intro E h;simp only[qbo]at h⊢;cases h1:i.eq<;>simp only[h1]at h⊢
  cases o<;>simp only at h⊢
  .exact Out.bind (G:=fun r(E:AV->Prop)=>E (.bool r)) (ztk i.z l m) (fun r=>Out.pure _) E h
  .exact Out.bind (G:=fun r(E:AV->Prop)=>E (.bool !r)) (ztk i.z l m) (fun r=>Out.pure _) E h
theorem zt7(c:CT)(A:List AV)(ids:List Nat)(bs:List Blk):qe (app c A ids bs):=by
 intro E h;obtain⟨bs',r,hc,hk⟩:=h;unfold app;split at hk
 .rename_i h1 h2 h3 h4 h5;exact⟨r,bs',hk,fun E' he=>⟨bs',r,hc,by rw[h1,h2,h3,h4,h5];exact he⟩⟩
 .exact hk.elim
theorem zlg:∀(n:Nat)(bs:List Blk),Out (zli n bs)
 |0,bs=>by intro E h;simp only[zli]at h⊢;exact⟨bs,h,fun _ h=>h⟩
 |n+1,[]=>by intro E h;simp[zli]at h
 |n+1,b::bs=>by
  intro E h;cases b<;>simp only[zli]at h⊢
  exact zlg n bs E h
theorem zw8(c:CT)(n dst:Nat)(A:List AV)(ids:List Nat)(bs:List Blk):qe (appN c n dst A ids bs):=by
 intro E h;unfold appN at h⊢;refine qe.bind (zlg n bs) (fun bs=>?_) E h;intro E h;obtain⟨bs',nbs,r,hc,hk⟩:=h;split at hk
 .rename_i h1 h2 h3 h4 h5 h6 h7 h8 h9 h10;exact⟨_,_,hk,fun E' he=>⟨bs',nbs,r,hc,by rw[h1,h2,h3,h4,h5,h6,h7,h8,h9,h10];exact he⟩⟩
 .exact hk.elim
theorem zb3(T:Tab)(t:Nat){G:Elt->Elt->TI->(AV->List Blk->Prop)->Prop}(hG:∀a b i,qe (G a b i)):qe fun E=>zhd T t fun a b i=>G a b i E:=by
 intro E h;unfold zhd at h⊢;refine qe.bind (vj T t) (fun i=>?_) E h;intro E h;split at h
 .refine qe.bind (vj T _) (fun j=>?_) E h;intro E h;split at h
  .refine qe.bind (vj T _) (fun v=>?_) E h;intro E h;split at h
   .split at h
    .rename_i e1 _ e2;simp only[e1,e2];exact hG _ _ _ E h
    .exact h.elim
   .exact h.elim
  .exact h.elim
 .exact h.elim
theorem zwa(T:Tab)(t:Nat)(x i:AV)(ok:Bool)(bs:List Blk):qe (lkOp T t x i ok bs):=by
 intro E h;unfold lkOp at h⊢;refine zb3 T t (fun kk vk v=>?_) E h;intro E h;split at h
 .split at h
  .rename_i h1 h2 h3;simp only[h1,h2,h3];refine qe.bind (yc _ _) (fun key=>qe.bind (yc _ _) (fun z=>qe.bind (zjh _ _ _) fun u=>?_)) E h;intro E h;cases ok
   .exact⟨_,_,h,fun _ h=>h⟩
   .exact⟨_,_,h,fun _ h=>h⟩
  .exact h.elim
 .exact h.elim
theorem zod(T:Tab)(t:Nat)(m x y:AV)(bs:List Blk):qe (qd2 T t m x y bs):=by
 intro E h;unfold qd2 at h⊢;refine zb3 T t (fun kk vk v=>?_) E h;intro E h;split at h
 .split at h
  .rename_i h1 h2 h3 h4;simp only[h1,h2,h3,h4];exact qe.bind (yc _ _) (fun key=>qe.bind (yc _ _) (fun z=>qe.pure _ _)) E h
  .exact h.elim
 .exact h.elim
theorem ux(x:Option AV)(d:Int):Out (zbp x d):=by
 intro E h;unfold zbp at h⊢;split at h
 .exact⟨_,h,fun _ h=>h⟩
 .exact⟨_,h,fun _ h=>h⟩
 .exact h.elim
theorem zve(i:TI)(x:AV)(lo hi mx:Option AV):qe (qb6 i x lo hi mx):=by
 intro E h;unfold qb6 at h⊢
 cases mx with
 |some y=>
  simp only at h⊢;split at h
  .split at h
   .rename_i e1 e2
    try simp only[e1,e2]
    exact qe.bind (ux _ _) (fun l=>qe.and (qe.pure _ _)) E h
   .exact h.elim
  .exact h.elim
 |none=>
  simp only at h⊢;cases x<;>simp only at h⊢
  case str s=>
   cases e:q0 i.cls 5<;>simp only[e]at h⊢
   exact qe.bind (ux _ _) (fun l=>qe.bind (ux _ _) fun u=>qe.and (qe.pure _ _)) E h
  case nilsl=>
   cases e:q0 i.cls 3<;>simp only[e]at h⊢
   exact qe.bind (ux _ _) (fun l=>qe.bind (ux _ _) fun u=>qe.and (qe.pure _ _)) E h
  case sl k xs=>
   cases e:q0 i.cls 3<;>cases e':q0 i.esz k.size<;>simp only[e,e']at h⊢
   exact qe.bind (ux _ _) (fun l=>qe.bind (ux _ _) fun u=>qe.and (qe.pure _ _)) E h
theorem zst(bs:List Blk):qe (zpw bs):=by
 intro E h;unfold zpw at h⊢;split at h
 .exact⟨_,_,h,fun _ h=>h⟩
 .exact h.elim
theorem zss(i:TI)(x:AV)(bs:List Blk):qe (zku i x bs):=by
 cases x<;>try exact qe.no
 case str s=>unfold zku;cases q0 i.cls 5<;>first|exact qe.pure _ _ |exact qe.no
 case nilsl=>unfold zku;cases q0 i.cls 3<;>first|exact qe.pure _ _ |exact qe.no
 case sl k xs=>unfold zku;cases q0 i.cls 3<;>first|exact qe.pure _ _ |exact qe.no
 case ow=>unfold zku;cases q0 i.cls 3<;>first|exact qe.pure _ _ |exact qe.no
 case own id=>
  intro E h;unfold zku at h⊢;simp only at h⊢;split at h
  .exact⟨_,_,h,fun _ h=>h⟩
  .exact h.elim
theorem zt8(T:Tab)(i:TI)(dst:Nat)(s x:AV)(bs:List Blk):qe (zw7 T i dst s x bs):=by
 intro E h;unfold zw7 at h;split at h
 .refine qe.bind (vj T _) (fun j=>?_) E h;intro E h;split at h
  .rename_i esz _ _ _ _ _ _ _ sz _ _ _ _ k _ _ bytes _;split at h
   .split at h
    .exact qe.bind (znp _ x) (fun ys=>qe.and (qe.pure _ _)) E h
    .split at h
     .rename_i h1 h2 h3;simp only[h1,h2,h3];exact qe.bind (znp _ x) (fun ys=>qe.and (qe.pure _ _)) E h
     .exact h.elim
    .exact h.elim
   .exact h.elim
  .exact h.elim
 .exact h.elim
set_option maxHeartbeats 1000000 in
theorem qa3(T:Tab)(C:Con)(op:Op)(dst:Nat)(ρ:Operand->AV)(ids:List Nat)(bs:List Blk):qe (ql T C op dst ρ ids bs):=by
 intro E h
 cases op with
 |move x=>exact⟨_,_,h,fun _ h=>h⟩
 |assign x=>exact⟨_,_,h,fun _ h=>h⟩
 |pick c a b=>
  simp only[ql]at h⊢;cases e:ρ c<;>simp only[e]at h⊢
  rename_i t;cases t
  .exact⟨_,_,h,fun _ h=>h⟩
  .exact⟨_,_,h,fun _ h=>h⟩
 |alloc t=>
  simp only[ql]at h⊢;split at h
  .exact qe.bind (vj T t) (fun i=>qe.pure _ _) E h
  .exact h.elim
 |box t x=>
  simp only[ql]at h⊢;split at h
  .rename_i e;(try simp only[e]);exact⟨_,_,h,fun _ h=>h⟩
  .exact h.elim
 |build t ps=>
  simp only[ql]at h⊢;refine qe.bind (vj T t) (fun i=>?_) E h;intro E h;split at h
  .exact qe.bind (zk7 _ _ _) (fun l=>qe.pure _ _) E h
  .exact qe.bind (zk9 _ _ _) (fun l=>qe.pure _ _) E h
  .exact h.elim
 |buildSlice t n ps=>
  simp only[ql]at h⊢;refine qe.bind (vj T t) (fun i=>?_) E h;intro E h;split at h
  .refine qe.bind (vj T _) (fun j=>?_) E h;intro E h;split at h
   .split at h
    .split at h
     .split at h
      .rename_i e;(try simp only[*]);exact⟨_,_,h,fun _ h=>h⟩
      .exact h.elim
     .split at h
      .try simp only[*]
       exact qe.bind (zhr _ _) (fun l=>qe.pure _ _) E h
      .exact h.elim
    .exact h.elim
   .exact h.elim
  .exact h.elim
 |makeSlice t l c=>
  simp only[ql]at h⊢;refine qe.bind (vj T t) (fun i=>?_) E h;intro E h;split at h
  .refine qe.bind (vj T _) (fun j=>?_) E h;intro E h;split at h
   .split at h
    .rename_i e1 e2 e3 e4 e5 _;simp only[e1,e2,e3,e4,e5];exact qe.bind (yc _ _) (fun x=>qe.and (qe.pure _ _)) E h
    .exact h.elim
   .exact h.elim
  .exact h.elim
 |load t p=>
  simp only[ql]at h⊢;cases e:ρ p<;>simp only[e]at h⊢
  case ptr i off=>
   split at h
   .exact qe.bind (vj T t) (fun i=>qe.bind (zjh i _ off) fun v=>qe.pure _ _) E h
   .exact h.elim
  case rp k x off=>exact qe.bind (vj T t) (fun i=>qe.bind (zjh i _ off) fun v=>qe.pure _ _) E h
  case opt i sz j off=>
   split at h
   .split at h
    .rename_i e;try simp only[e]
     exact qe.idx _ _ (fun h=>h) (fun x=>qe.bind (vj T t) (fun i=>qe.bind (zjh i _ off) fun v=>qe.pure _ _)) E h
    .exact h.elim
   .exact h.elim
 |store t p v=>
  simp only[ql]at h⊢;refine qe.bind (vj T t) (fun i=>?_) E h;intro E h;cases e1:zsu (ρ v).cs i.sz<;>cases e2:zd7 (ρ v).cs <;>simp only[e1,e2]at h⊢
  split at h
  .rename_i e;(try simp only[e]at h⊢);split at h
   .exact qe.bind (zee _ _ _) (fun l=>qe.pure _ _) E h
   .exact h.elim
  .rename_i e;(try simp only[e]at h⊢);split at h
   .split at h
    .rename_i e3 e4;try simp only[e3,e4]
     split at h
     .exact qe.bind (yc _ _) (fun l=>qe.and (qe.pure _ _)) E h
     .exact h.elim
    .rename_i e3 e4;try simp only[e3,e4]
     exact qe.idx _ _ (fun h=>h) (fun x=>qe.bind (zee _ _ _) fun l=>qe.bind (yc _ _) fun y=>qe.pure _ _) E h
    .exact h.elim
   .exact h.elim
  .exact h.elim
 |nilCheck x=>
  simp only[ql]at h⊢;cases e:ρ x<;>simp only[e]at h⊢ <;>exact⟨_,_,h,fun _ h=>h⟩
 |binOp o t x y ty=>
  simp only[ql]at h⊢;exact qe.bind (vj T t) (fun i=>qe.bind (zw4 _ _ _ _) fun v=>qe.pure _ _) E h
 |unOp o t x=>
  simp only[ql]at h⊢;cases o<;>cases e:ρ x<;>simp only[e]at h⊢ <;>exact⟨_,_,h,fun _ h=>h⟩
 |convert s d x=>
  simp only[ql]at h⊢;refine qe.bind (vj T s) (fun j=>qe.bind (vj T d) (fun i=>?_)) E h;intro E h;cases e:ρ x<;>simp only[e]at h⊢
  .split at h
   .exact⟨_,_,h,fun _ h=>h⟩
   .exact h.elim
  .split at h
   .rename_i e1 e2;(try simp only[e1,e2]);exact⟨_,_,h,fun _ h=>h⟩
   .exact h.elim
 |makeFunc f x y=>
  simp only[ql]at h⊢;split at h
  .rename_i e;(try simp only[e]);exact⟨_,_,h,fun _ h=>h⟩
  .exact h.elim
 |fieldAddr t x f=>
  simp only[ql]at h⊢;refine qe.bind (vj T t) (fun i=>?_) E h;intro E h;split at h
  .refine zgt (fun o s a=>?_) _ _ E h;intro E h;cases e:ρ x<;>simp only[e]at h⊢ <;>exact⟨_,_,h,fun _ h=>h⟩
  .exact h.elim
 |field t x f=>
  simp only[ql]at h⊢;refine qe.bind (vj T t) (fun i=>?_) E h;intro E h;split at h
  .rename_i e;try simp only[e]
   exact zgt (fun o s a=>qe.bind (zki _ _ _ _) fun v=>qe.pure _ _) _ _ E h
  .exact h.elim
 |indexAddr t x i=>
  simp only[ql]at h⊢;refine qe.bind (vj T t) (fun ti=>?_) E h;intro E h;cases e:ρ i<;>simp only[e]at h⊢
  rename_i kk n;split at h
  .cases e2:ρ x<;>simp only[e2]at h⊢
   .split at h
    .rename_i e3;try simp only[e3]
     exact qe.and (qe.pure _ _) E h
    .exact h.elim
   .split at h
    .rename_i e3;try simp only[e3]
     exact qe.idx _ _ (fun h=>O) (fun x=>qe.pure _ _) E h
    .exact h.elim
   .split at h
    .split at h
     .rename_i e3;try simp only[e3]
      exact qe.and (qe.pure _ _) E h
     .exact h.elim
    .exact h.elim
  .cases e2:ρ x<;>simp only[e2]at h⊢ <;>exact qe.and (qe.pure _ _) E h
  .exact h.elim
 |index t x i=>
  simp only[ql]at h⊢;refine qe.bind (vj T t) (fun ti=>?_) E h;intro E h;split at h
  .rename_i e1 e2 e3;try simp only[e1,e2,e3]
   exact qe.idx _ _ (fun h=>O) (fun x=>qe.pure _ _) E h
  .rename_i e1 e2 e3;try simp only[e1,e2,e3]
   split at h
   .rename_i e4;try simp only[e4]
    refine qe.bind (vj T _) (fun tj=>?_) E h;intro E h;exact qe.and (qe.bind (zki _ _ _ _) fun v=>qe.pure _ _) E h
   .exact h.elim
  .exact h.elim
 |extract x n=>
  simp only[ql]at h⊢;cases e:ρ x<;>simp only[e]at h⊢
  refine qe.bind (zcx _ _ _) (fun r=>?_) E h;intro E h;split at h
  .exact⟨_,_,h,fun _ h=>h⟩
  .exact h.elim
 |call c=>
  cases hc:c.callee with
  |value f=>
   simp only[ql,hc]at h⊢;cases e:ρ f<;>simp only[e]at h⊢
   case fn g caps=>
    cases e2:qcb T g<;>simp only[e2]at h⊢
    .exact qe.bind (zjm _) (fun A=>zt7 _ A ids bs) E h
    .exact qe.bind (zjm _) (fun A=>zw8 _ _ _ A ids bs) E h
   case cb l=>exact qe.bind (zjm _) (fun A=>zt7 _ A ids bs) E h
  |invoke r m=>simp[ql,hc]at h
  |builtin b=>
   cases b with
   |len=>
    simp only[ql,hc]at h⊢;split at h
    .rename_i e1 e2;try simp only[e1,e2]
     split at h
     .rename_i e3;try simp only[e3]
      exact zb3 T _ (fun _ _ _=>zst _) E h
     .rename_i e3;try simp only[e3]
      exact qe.bind (vj T _) (fun i=>zss _ _ _) E h
    .exact h.elim
   |append=>
    simp only[ql,hc]at h⊢;split at h
    .rename_i e1 e2;try simp only[e1,e2]
     split at h
     .rename_i e3;try simp only[e3]
      exact qe.bind (vj T _) (fun i=>zt8 _ _ _ _ _ _) E h
     .exact h.elim
    .exact h.elim
   |max=>
    simp only[ql,hc]at h⊢;split at h
    .rename_i e1;(try simp only[e1]);exact⟨_,_,h,fun _ h=>h⟩
    .rename_i e1;(try simp only[e1]);exact⟨_,_,h,fun _ h=>h⟩
    .exact h.elim
   |min=>
    simp only[ql,hc]at h⊢;split at h
    .rename_i e1;(try simp only[e1]);exact⟨_,_,h,fun _ h=>h⟩
    .exact h.elim
   | _=>simp[ql,hc]at h
 |makeMap t r=>
  simp only[ql]at h⊢;refine zb3 T t (fun kk vk v=>?_) E h;intro E h;split at h
  .rename_i e1;simp only[e1];exact⟨_,_,h,fun _ h=>h⟩
  .exact h.elim
 |lookup t x i ok=>exact zwa _ _ _ _ _ _ E h
 |mapUpdate t m k v=>exact zod _ _ _ _ _ _ E h
 |insert t m k v=>exact zod _ _ _ _ _ _ E h
 |slice t x lo hi mx=>
  simp only[ql]at h⊢;refine qe.bind (vj T t) (fun i=>?_) E h;intro E h
  cases hwn:qee T hi with
  |true=>
   simp only[hwn]at h⊢;split at h
   .rename_i e1 e2 e3 e4;try simp only[e1,e2,e3,e4]
    split at h
    .rename_i e5 e6;try simp only[e5,e6]
     exact qe.and (qe.pure _ _) E h
    .exact h.elim
   .exact h.elim
  |false=>simp only[hwn]at h⊢;exact zve _ _ _ _ _ E h
 | _=>exact False.elim h
