/- What an operation yields can be drawn out of the execution: effO is a value and blocks, handed on. -/
import Derived.Test.YthbgbmdmimejiaaGreatDoorMSxO
set_option linter.all false
open Nat renaming beq->q2
namespace Go.Sx
open Go
def Out{α:Type}(F:(α->Prop)->Prop):Prop:=∀E:α->Prop,F E->∃x,E x/\∀E':α->Prop,E' x->F E'
def qa(F:(AV->List Blk->Prop)->Prop):Prop:=∀E:AV->List Blk->Prop,F E->∃r bs,E r bs/\∀E':AV->List Blk->Prop,E' r bs->F E'
theorem Out.pure{α:Type}(x:α):Out fun E:α->Prop=>E x:=fun _ h=>⟨x,h,fun _ h=>h⟩
theorem Out.no{α:Type}:Out fun _:α->Prop=>False:=fun _ h=>h.elim
theorem Out.bind{α β:Type}{F:(α->Prop)->Prop}{G:α->(β->Prop)->Prop}(hF:Out F)(hG:∀x,Out (G x)):Out fun E=>F fun x=>G x E:=fun E h=>by
 obtain⟨x,h1,h2⟩:=hF _ h;obtain⟨y,h3,h4⟩:=hG x E h1;exact⟨y,h3,fun E' he=>h2 _ (h4 E' he)⟩
theorem Out.and{α:Type}{p:Prop}{F:(α->Prop)->Prop}(hF:Out F):Out fun E=>p/\F E:=fun E h=>by
 obtain⟨x,h1,h2⟩:=hF E h.2;exact⟨x,h1,fun E' he=>⟨h.1,h2 E' he⟩⟩
theorem qa.pure(r:AV)(bs:List Blk):qa fun E=>E r bs:=fun _ h=>⟨r,bs,h,fun _ h=>h⟩
theorem qa.no:qa fun _=>False:=fun _ h=>h.elim
theorem qa.bind{α:Type}{F:(α->Prop)->Prop}{G:α->(AV->List Blk->Prop)->Prop}(hF:Out F)(hG:∀x,qa (G x)):qa fun E=>F fun x=>G x E:=fun E h=>by
 obtain⟨x,h1,h2⟩:=hF _ h;obtain⟨y,bs,h3,h4⟩:=hG x E h1;exact⟨y,bs,h3,fun E' he=>h2 _ (h4 E' he)⟩
theorem qa.and{p:Prop}{F:(AV->List Blk->Prop)->Prop}(hF:qa F):qa fun E=>p/\F E:=fun E h=>by
 obtain⟨x,bs,h1,h2⟩:=hF E h.2;exact⟨x,bs,h1,fun E' he=>⟨h.1,h2 E' he⟩⟩
theorem qa.idx{α:Type}(xs:List α)(j:Nat){p:Prop}(hp:p->j<xs.length){G:α->(AV->List Blk->Prop)->Prop}(hG:∀x,qa (G x)):qa fun E=>p/\∀x,xs[j]? =some x->G x E:=fun E h=>by
 have hj:=hp h.1;have hx:xs[j]? =some xs[j]:=List.getElem?_eq_getElem hj;obtain⟨r,bs,h1,h2⟩:=hG _ E (h.2 _ hx);exact⟨r,bs,h1,fun E' he=>⟨h.1,fun y hy=>by rw[hx]at hy;cases hy;exact h2 E' he⟩⟩
theorem zt7:∀(T:List (Nat×TI))(t:Nat),Out (tgL T t)
 | [],_=>Out.no
 |(a,i)::r,t=>by
  intro E h;simp only[tgL]at h⊢
  cases e:q2 a t with
  |true=>simp only[e]at h⊢;exact⟨i,h,fun _ h=>h⟩
  |false=>simp only[e]at h⊢;exact zt7 r t E h
theorem wb(T:Tab)(t:Nat):Out (tgK T t):=zt7 T.ty t
theorem zlt(l:List AV):Out (zl9 l):=fun E h=>⟨l,(wj l E).1 h,fun E' he=>(wj l E').2 he⟩
theorem zd4:∀(l:List AV)(o n:Nat),Out (cut l o n)
 |l,0,0=>by intro E h;cases l<;>(simp only[cut]at h⊢;exact⟨[],h,fun _ h=>h⟩)
 |a::l,0,n+1=>by
  have:=Out.bind (G:=fun r(k:List AV->Prop)=>k (a::r)) (zd4 l 0 n) fun r=>Out.pure _
  intro E h;simp only[cut]at h⊢;exact this E h
 | [],0,_+1=>by intro E h;simp[cut]at h
 | _::l,off+1,n=>by intro E h;simp only[cut]at h⊢;exact zd4 l off n E h
 | [],_+1,_=>by intro E h;simp[cut]at h
theorem zh4:∀(l:List AV)(o:Nat)(m:List AV),Out (lay l o m)
 |l,0,[]=>by intro E h;cases l<;>(simp only[lay]at h⊢;exact⟨_,h,fun _ h=>h⟩)
 | _::l,0,b::m=>by
   have:=Out.bind (G:=fun r(k:List AV->Prop)=>k (b::r)) (zh4 l 0 m) fun r=>Out.pure _
   intro E h;simp only[lay]at h⊢;exact this E h
 | [],0,_::_=>by intro E h;simp[lay]at h
 |a::l,off+1,m=>by
  have:=Out.bind (G:=fun r(k:List AV->Prop)=>k (a::r)) (zh4 l off m) fun r=>Out.pure _
  intro E h;simp only[lay]at h⊢;exact this E h
 | [],_+1,m=>by intro E h;simp[lay]at h
theorem zv2(l:List AV):Out fun E:AV->Prop=>match l with
 | [a]=>E a
 | _=>False:=by
 intro E h;split at h
 .exact⟨_,h,fun _ h=>h⟩
 .exact h.elim
theorem zlm(i:TI)(l:List AV)(off:Nat):Out (ldK i l off):=by
 intro E h;unfold ldK at h⊢
 cases e:i.agg with
 |true=>simp only[e]at h⊢;exact Out.bind (G:=fun r(E:AV->Prop)=>E (.agg r)) (zd4 l off i.sz) (fun r=>Out.pure _) E h
 |false=>simp only[e]at h⊢;exact Out.bind (zd4 l off 1) (fun r=>zv2 r) E h
theorem zmv(l:List AV)(o s:Nat)(a:Bool):Out (zs0 l o s a):=by
 intro E h;unfold zs0 at h⊢
 cases a with
 |true=>exact Out.bind (G:=fun r(E:AV->Prop)=>E (.agg r)) (zd4 l o s) (fun r=>Out.pure _) E h
 |false=>exact Out.bind (zd4 l o 1) (fun r=>zv2 r) E h
theorem zik{G:Nat->Nat->Bool->(AV->List Blk->Prop)->Prop}(hG:∀o s a,qa (G o s a)):∀(fs:List (Nat×Nat×Bool))(f:Nat),qa fun E=>zdo fs f fun o s a=>G o s a E
 |(o,s,a)::_,0=>by intro E h;simp only[zdo]at h⊢;exact hG o s a E h
 |(_,_,_)::r,f+1=>by intro E h;simp only[zdo]at h⊢;exact zik hG r f E h
 | [],_=>by intro E h;simp[zdo]at h
theorem zka{α:Type}{G:Nat->Nat->Bool->(α->Prop)->Prop}(hG:∀o s a,Out (G o s a)):∀(fs:List (Nat×Nat×Bool))(f:Nat),Out fun E=>zdo fs f fun o s a=>G o s a E
 |(o,s,a)::_,0=>by intro E h;simp only[zdo]at h⊢;exact hG o s a E h
 |(_,_,_)::r,f+1=>by intro E h;simp only[zdo]at h⊢;exact zka hG r f E h
 | [],_=>by intro E h;simp[zdo]at h
theorem zno(fs:List (Nat×Nat×Bool)):∀(ps:List (Nat×AV))(z:List AV),Out (znp fs ps z)
 | [],z=>by intro E h;simp only[znp]at h⊢;exact⟨z,h,fun _ h=>h⟩
 |(f,v)::r,z=>by
  intro E h;simp only[znp]at h⊢;refine zka (fun o s _=>?_) fs f E h;intro E h;cases h1:zwk v.cs s<;>cases h2:zfp v.cs<;>simp only[h1,h2]at h⊢
  exact Out.bind (zh4 z o v.cs) (fun z=>zno fs r z) E h
theorem znq(s:Nat):∀(ps:List (Nat×AV))(z:List AV),Out (znr s ps z)
 | [],z=>by intro E h;simp only[znr]at h⊢;exact⟨z,h,fun _ h=>h⟩
 |(f,v)::r,z=>by
  intro E h;simp only[znr]at h⊢;cases h1:zwk v.cs s<;>cases h2:zfp v.cs<;>simp only[h1,h2]at h⊢
  exact Out.bind (zh4 z (f*s) v.cs) (fun z=>znq s r z) E h
theorem jk(a:AV):Out (zj9 a):=by
 intro E h;unfold zj9 at h;split at h
 .exact⟨_,h,fun _ h=>h⟩
 .exact h.elim
theorem ze4(a:AV):Out (znl a):=by
 intro E h;unfold znl at h;split at h
 .exact⟨_,h,fun _ h=>h⟩
 .exact h.elim
theorem qar(a:AV):Out (qhv a):=by
 intro E h;unfold qhv at h;split at h
 .exact⟨_,h,fun _ h=>h⟩
 .exact h.elim
theorem zlr(a:AV):Out (qfy a):=by
 intro E h;unfold qfy at h;split at h
 .exact⟨_,h,fun _ h=>h⟩
 .exact h.elim
theorem qau(a:AV):Out (qhw a):=by
 intro E h;unfold qhw at h;split at h
 .exact⟨_,h,fun _ h=>h⟩
 .exact⟨_,h,fun _ h=>h⟩
 .exact h.elim
theorem zw0(a:AV):Out (gLs a):=by
 intro E h;unfold gLs at h;split at h
 .exact⟨_,h,fun _ h=>h⟩
 .exact⟨_,h,fun _ h=>h⟩
 .exact h.elim
theorem qfz(a:AV):Out (gIs a):=by
 intro E h;unfold gIs at h;split at h
 .exact⟨_,h,fun _ h=>h⟩
 .exact⟨_,h,fun _ h=>h⟩
 .exact h.elim
theorem qf1(l:List AV):Out fun E:Dy×List AV->Prop=>gDy l fun e r=>E (e,r):=by
 intro E h;unfold gDy at h;split at h
 .exact Out.bind (ze4 _) (fun _=>Out.bind (zw0 _) fun _=>Out.bind (jk _) fun _=>Out.pure (_,_)) E h
 .exact h.elim
theorem zbw{α:Type}{l:List AV}{G:Dy->List AV->(α->Prop)->Prop}(hG:∀e r,Out (G e r)):Out fun E=>gDy l fun e r=>G e r E:=
 Out.bind (F:=fun E:Dy×List AV->Prop=>gDy l fun e r=>E (e,r)) (G:=fun x=>G x.1 x.2) (qf1 l) fun x=>hG _ _
theorem qf0(l:List AV):Out fun E:Ex×List AV->Prop=>gEx l fun e r=>E (e,r):=by
 intro E h;unfold gEx at h;split at h
 .exact Out.bind (jk _) (fun _=>Out.bind (jk _) fun _=>Out.bind (jk _) fun _=>Out.bind (zlr _) fun _=>Out.bind (jk _) fun _=>
   Out.bind (qau _) fun _=>Out.pure (_,_)) E h
 .exact h.elim
theorem zhb{α:Type}{l:List AV}{G:Ex->List AV->(α->Prop)->Prop}(hG:∀e r,Out (G e r)):Out fun E=>gEx l fun e r=>G e r E:=
 Out.bind (F:=fun E:Ex×List AV->Prop=>gEx l fun e r=>E (e,r)) (G:=fun x=>G x.1 x.2) (qf0 l) fun x=>hG _ _
theorem zal:∀(k:Elt)(l:List AV),Out (qx k l)
 |.ex,l=>by
   intro E h;simp only[qx]at h⊢;refine zhb (fun e r=>?_) E h;intro E h
   cases r with
   |nil=>exact⟨_,h,fun _ h=>h⟩
   |cons _ _=>exact h.elim
 |.ls,[s]=>fun E h=>zw0 s E h
 |.ls,[]=>fun _ h=>False.elim h
 |.ls,_::_::_=>fun _ h=>False.elim h
 |.dy,l=>by
   intro E h;simp only[qx]at h⊢;refine zbw (fun e r=>?_) E h;intro E h
   cases r with
   |nil=>exact⟨_,h,fun _ h=>h⟩
   |cons _ _=>exact h.elim
 |.iv,l=>by
   intro E h;simp only[qx]at h⊢;refine zbw (fun e r=>zbw (fun e' r'=>?_)) E h;intro E h;split at h
   .exact Out.bind (ze4 _) (fun _=>Out.pure _) E h
   .exact h.elim
 |.dd,l=>by
   intro E h;simp only[qx]at h⊢;refine zbw (fun e r=>zbw (fun e' r'=>?_)) E h;intro E h
   cases r' with
   |nil=>exact⟨_,h,fun _ h=>h⟩
   |cons _ _=>exact h.elim
 |.vs,[s]=>fun E h=>qfz s E h
 |.vs,[]=>fun _ h=>False.elim h
 |.vs,_::_::_=>fun _ h=>False.elim h
 |.ki,[]=>fun _ h=>False.elim h
 |.ki,s::l=>by
   intro E h;simp only[qx]at h⊢;refine Out.bind (jk s) (fun s=>zbw (fun e r=>zbw (fun e' r'=>?_))) E h;intro E h;split at h
   .exact Out.bind (ze4 _) (fun _=>Out.pure _) E h
   .exact h.elim
 |.eqn,s::l=>by
   intro E h;simp only[qx]at h⊢;refine Out.bind (zlr s) (fun s=>zhb (fun e r=>?_)) E h;intro E h
   cases r with
   |nil=>exact⟨_,h,fun _ h=>h⟩
   |cons _ _=>exact h.elim
 |.ex2,l=>by
   intro E h;simp only[qx]at h⊢;refine zhb (fun e r=>zhb (fun e' r'=>?_)) E h;intro E h
   cases r' with
   |nil=>exact⟨_,h,fun _ h=>h⟩
   |cons _ _=>exact h.elim
 |.eqn,[]=>fun _ h=>False.elim h
 |.str,[s]=>fun E h=>zlr s E h
 |.str,[]=>fun _ h=>False.elim h
 |.str,_::_::_=>fun _ h=>False.elim h
 |.int,[s]=>fun E h=>jk s E h
 |.int,[]=>fun _ h=>False.elim h
 |.int,_::_::_=>fun _ h=>False.elim h
 |.bool,[s]=>fun E h=>ze4 s E h
 |.bool,[]=>fun _ h=>False.elim h
 |.bool,_::_::_=>fun _ h=>False.elim h
 |.u32,[s]=>fun E h=>qar s E h
 |.u32,[]=>fun _ h=>False.elim h
 |.u32,_::_::_=>fun _ h=>False.elim h
 |.rat,[a,b]=>fun E h=>Out.bind (jk a) (fun _=>Out.bind (jk b) fun _=>Out.pure _) E h
 |.rat,[]=>fun _ h=>False.elim h
 |.rat,[_]=>fun _ h=>False.elim h
 |.rat,_::_::_::_=>fun _ h=>False.elim h
 |.op,[a,b,c,d,e,f]=>fun E h=>Out.bind (jk a) (fun _=>Out.bind (jk b) fun _=>Out.bind (jk c) fun _=>Out.bind (jk d) fun _=>Out.bind (jk e) fun _=>Out.bind (jk f) fun _=>Out.pure _) E h
 |.op,[]=>fun _ h=>False.elim h
 |.op,[_]=>fun _ h=>False.elim h
 |.op,[_,_]=>fun _ h=>False.elim h
 |.op,[_,_,_]=>fun _ h=>False.elim h
 |.op,[_,_,_,_]=>fun _ h=>False.elim h
 |.op,[_,_,_,_,_]=>fun _ h=>False.elim h
 |.op,_::_::_::_::_::_::_::_=>fun _ h=>False.elim h
theorem zjo(k:Elt):∀l:List AV,Out (zgc k l)
 | []=>by intro E h;simp only[zgc]at h⊢;exact⟨_,h,fun _ h=>h⟩
 |a::l=>by
  intro E h;simp only[zgc]at h⊢;exact Out.bind (zal k a.cs) (fun x=>Out.bind (G:=fun xs(K:List k.T->Prop)=>K (x::xs)) (zjo k l) fun xs=>Out.pure _) E h
theorem zp7(k:Elt)(a:AV):Out (qek k a):=by
 intro E h;unfold qek at h;split at h<;>first|exact h.elim|exact⟨_,h,fun _ h=>h⟩
theorem zxf:∀(z l m:List AV),Out (eqZ z l m):=by
 intro z
 induction z with
 |nil=>
  intro l m
  cases l with
  |nil=>
   cases m with
   |nil=>exact fun E h=>⟨true,h,fun _ h=>h⟩
   |cons b m=>exact fun E h=>False.elim h
  |cons a l=>exact fun E h=>False.elim h
 |cons x z ih=>
  intro l m
  cases x with
  |int k n=>
   cases k<;>first|exact fun E h=>False.elim h|skip
   cases l with
   |nil=>exact fun E h=>False.elim h
   |cons a l=>
    cases a with
    |int k a=>
     cases k<;>first|exact fun E h=>False.elim h|skip
     cases m with
     |nil=>exact fun E h=>False.elim h
     |cons b m=>
      cases b with
      |int k b=>
       cases k<;>first|exact fun E h=>False.elim h|skip
       exact Out.bind (G:=fun r(k:Bool->Prop)=>k (a==b&&r)) (ih l m) (fun r=>Out.pure _)
      | _=>exact fun E h=>False.elim h
    | _=>exact fun E h=>False.elim h
  |str s=>
   cases l with
   |nil=>exact fun E h=>False.elim h
   |cons a l=>
    cases a with
    |str a=>
     cases m with
     |nil=>exact fun E h=>False.elim h
     |cons b m=>
      cases b with
      |str b=>exact Out.bind (G:=fun r(k:Bool->Prop)=>k (a==b&&r)) (ih l m) (fun r=>Out.pure _)
      | _=>exact fun E h=>False.elim h
    | _=>exact fun E h=>False.elim h
  |bool s=>
   cases l with
   |nil=>exact fun E h=>False.elim h
   |cons a l=>
    cases a with
    |bool a=>
     cases m with
     |nil=>exact fun E h=>False.elim h
     |cons b m=>
      cases b with
      |bool b=>exact Out.bind (G:=fun r(k:Bool->Prop)=>k (a==b&&r)) (ih l m) (fun r=>Out.pure _)
      | _=>exact fun E h=>False.elim h
    | _=>exact fun E h=>False.elim h
  | _=>exact fun E h=>False.elim h
theorem zlp(o:BinOp)(k:IntKind)(a b:Int):Out (qfv o k a b):=by
 cases o<;>first|exact Out.pure _ |exact Out.and (Out.pure _)
theorem zzi(o:BinOp)(a b:zn):Out (strB o a b):=by
 cases o<;>first|exact Out.pure _ |exact Out.and (Out.pure _)|exact Out.no
theorem qa8(i:TI)(o:BinOp)(x y:AV):Out (qgy i o x y):=by
 cases x<;>cases y<;>try exact Out.no
 case int.int k a k' b=>
  intro E h;cases o<;>simp only[qgy]at h⊢
  case shl=>exact zlp _ _ _ _ E h
  case shr=>exact zlp _ _ _ _ E h
  all_goals (cases hk:zpa k k'<;>simp only[hk]at h⊢;exact zlp _ _ _ _ E h)
 case str.str a b=>exact zzi _ _ _
 case bool.bool a b=>
  unfold qgy;cases q2 i.cls 6<;>cases o<;>first|exact Out.pure _ |exact Out.no
 case sl.nilsl k xs=>
  unfold qgy;cases q2 i.cls 3<;>cases o<;>first|exact Out.pure _ |exact Out.no
 case agg.agg l m=>
  intro E h;simp only[qgy]at h⊢;cases h1:i.eq<;>simp only[h1]at h⊢
  cases o<;>simp only at h⊢
  .exact Out.bind (G:=fun r(E:AV->Prop)=>E (.bool r)) (zxf i.z l m) (fun r=>Out.pure _) E h
  .exact Out.bind (G:=fun r(E:AV->Prop)=>E (.bool !r)) (zxf i.z l m) (fun r=>Out.pure _) E h
theorem zyd(c:CT)(A:List AV)(ids:List Nat)(bs:List Blk):qa (app c A ids bs):=by
 intro E h;obtain⟨bs',r,hc,hk⟩:=h;unfold app;split at hk
 .rename_i h1 h2 h3 h4 h5;exact⟨r,bs',hk,fun E' he=>⟨bs',r,hc,by rw[h1,h2,h3,h4,h5];exact he⟩⟩
 .exact hk.elim
theorem znw:∀(n:Nat)(bs:List Blk),Out (zny n bs)
 |0,bs=>by intro E h;simp only[zny]at h⊢;exact⟨bs,h,fun _ h=>h⟩
 |n+1,[]=>by intro E h;simp[zny]at h
 |n+1,b::bs=>by
  intro E h;cases b<;>simp only[zny]at h⊢
  exact znw n bs E h
theorem qbb(c:CT)(n dst:Nat)(A:List AV)(ids:List Nat)(bs:List Blk):qa (appN c n dst A ids bs):=by
 intro E h;unfold appN at h⊢;refine qa.bind (znw n bs) (fun bs=>?_) E h;intro E h;obtain⟨bs',nbs,r,hc,hk⟩:=h;split at hk
 .rename_i h1 h2 h3 h4 h5 h6 h7 h8 h9 h10;exact⟨_,_,hk,fun E' he=>⟨bs',nbs,r,hc,by rw[h1,h2,h3,h4,h5,h6,h7,h8,h9,h10];exact he⟩⟩
 .exact hk.elim
theorem zda(T:Tab)(t:Nat){G:Elt->Elt->TI->(AV->List Blk->Prop)->Prop}(hG:∀a b i,qa (G a b i)):qa fun E=>zjc T t fun a b i=>G a b i E:=by
 intro E h;unfold zjc at h⊢;refine qa.bind (wb T t) (fun i=>?_) E h;intro E h;split at h
 .refine qa.bind (wb T _) (fun j=>?_) E h;intro E h;split at h
  .refine qa.bind (wb T _) (fun v=>?_) E h;intro E h;split at h
   .split at h
    .rename_i e1 _ e2;simp only[e1,e2];exact hG _ _ _ E h
    .exact h.elim
   .exact h.elim
  .exact h.elim
 .exact h.elim
theorem qai(T:Tab)(t:Nat)(x i:AV)(ok:Bool)(bs:List Blk):qa (lkOp T t x i ok bs):=by
 intro E h;unfold lkOp at h⊢;refine zda T t (fun kk vk v=>?_) E h;intro E h;split at h
 .split at h
  .rename_i h1 h2 h3;simp only[h1,h2,h3];refine qa.bind (zal _ _) (fun key=>qa.bind (zal _ _) (fun z=>qa.bind (zlm _ _ _) fun u=>?_)) E h;intro E h;cases ok
   .exact⟨_,_,h,fun _ h=>h⟩
   .exact⟨_,_,h,fun _ h=>h⟩
  .exact h.elim
 .exact h.elim
theorem zqz(T:Tab)(t:Nat)(m x y:AV)(bs:List Blk):qa (qj9 T t m x y bs):=by
 intro E h;unfold qj9 at h⊢;refine zda T t (fun kk vk v=>?_) E h;intro E h;split at h
 .split at h
  .rename_i h1 h2 h3 h4;simp only[h1,h2,h3,h4];exact qa.bind (zal _ _) (fun key=>qa.bind (zal _ _) (fun z=>qa.pure _ _)) E h
  .exact h.elim
 .exact h.elim
theorem yz(x:Option AV)(d:Int):Out (zc1 x d):=by
 intro E h;unfold zc1 at h⊢;split at h
 .exact⟨_,h,fun _ h=>h⟩
 .exact⟨_,h,fun _ h=>h⟩
 .exact h.elim
theorem zzo(i:TI)(x:AV)(lo hi mx:Option AV):qa (qhk i x lo hi mx):=by
 intro E h;unfold qhk at h⊢
 cases mx with
 |some y=>
  simp only at h⊢;split at h
  .split at h
   .rename_i e1 e2
    try simp only[e1,e2]
    exact qa.bind (yz _ _) (fun l=>qa.and (qa.pure _ _)) E h
   .exact h.elim
  .exact h.elim
 |none=>
  simp only at h⊢;cases x<;>simp only at h⊢
  case str s=>
   cases e:q2 i.cls 5<;>simp only[e]at h⊢
   exact qa.bind (yz _ _) (fun l=>qa.bind (yz _ _) fun u=>qa.and (qa.pure _ _)) E h
  case nilsl=>
   cases e:q2 i.cls 3<;>simp only[e]at h⊢
   exact qa.bind (yz _ _) (fun l=>qa.bind (yz _ _) fun u=>qa.and (qa.pure _ _)) E h
  case sl k xs=>
   cases e:q2 i.cls 3<;>cases e':q2 i.esz k.size<;>simp only[e,e']at h⊢
   exact qa.bind (yz _ _) (fun l=>qa.bind (yz _ _) fun u=>qa.and (qa.pure _ _)) E h
theorem zwj(bs:List Blk):qa (zs6 bs):=by
 intro E h;unfold zs6 at h⊢;split at h
 .exact⟨_,_,h,fun _ h=>h⟩
 .exact h.elim
theorem zwi(i:TI)(x:AV)(bs:List Blk):qa (zna i x bs):=by
 cases x<;>try exact qa.no
 case str s=>unfold zna;cases q2 i.cls 5<;>first|exact qa.pure _ _ |exact qa.no
 case nilsl=>unfold zna;cases q2 i.cls 3<;>first|exact qa.pure _ _ |exact qa.no
 case sl k xs=>unfold zna;cases q2 i.cls 3<;>first|exact qa.pure _ _ |exact qa.no
 case ow=>unfold zna;cases q2 i.cls 3<;>first|exact qa.pure _ _ |exact qa.no
 case own id=>
  intro E h;unfold zna at h⊢;simp only at h⊢;split at h
  .exact⟨_,_,h,fun _ h=>h⟩
  .exact h.elim
theorem zye(T:Tab)(i:TI)(dst:Nat)(s x:AV)(bs:List Blk):qa (qba T i dst s x bs):=by
 intro E h;unfold qba at h;split at h
 .refine qa.bind (wb T _) (fun j=>?_) E h;intro E h;split at h
  .rename_i esz _ _ _ _ _ _ _ sz _ _ _ _ k _ _ bytes _;split at h
   .split at h
    .exact qa.bind (zp7 _ x) (fun ys=>qa.and (qa.pure _ _)) E h
    .split at h
     .rename_i h1 h2 h3;simp only[h1,h2,h3];exact qa.bind (zp7 _ x) (fun ys=>qa.and (qa.pure _ _)) E h
     .exact h.elim
    .exact h.elim
   .exact h.elim
  .exact h.elim
 .exact h.elim
set_option maxHeartbeats 1000000 in
theorem qgb(T:Tab)(C:Con)(op:Op)(dst:Nat)(ρ:Operand->AV)(ids:List Nat)(bs:List Blk):qa (qj T C op dst ρ ids bs):=by
 intro E h
 cases op with
 |move x=>exact⟨_,_,h,fun _ h=>h⟩
 |assign x=>exact⟨_,_,h,fun _ h=>h⟩
 |pick c a b=>
  simp only[qj]at h⊢;cases e:ρ c<;>simp only[e]at h⊢
  rename_i t;cases t
  .exact⟨_,_,h,fun _ h=>h⟩
  .exact⟨_,_,h,fun _ h=>h⟩
 |alloc t=>
  simp only[qj]at h⊢;split at h
  .exact qa.bind (wb T t) (fun i=>qa.pure _ _) E h
  .exact h.elim
 |box t x=>
  simp only[qj]at h⊢;split at h
  .rename_i e;(try simp only[e]);exact⟨_,_,h,fun _ h=>h⟩
  .exact h.elim
 |build t ps=>
  simp only[qj]at h⊢;refine qa.bind (wb T t) (fun i=>?_) E h;intro E h;split at h
  .exact qa.bind (zno _ _ _) (fun l=>qa.pure _ _) E h
  .exact qa.bind (znq _ _ _) (fun l=>qa.pure _ _) E h
  .exact h.elim
 |buildSlice t n ps=>
  simp only[qj]at h⊢;refine qa.bind (wb T t) (fun i=>?_) E h;intro E h;split at h
  .refine qa.bind (wb T _) (fun j=>?_) E h;intro E h;split at h
   .split at h
    .split at h
     .split at h
      .rename_i e;(try simp only[*]);exact⟨_,_,h,fun _ h=>h⟩
      .exact h.elim
     .split at h
      .try simp only[*]
       exact qa.bind (zjo _ _) (fun l=>qa.pure _ _) E h
      .exact h.elim
    .exact h.elim
   .exact h.elim
  .exact h.elim
 |makeSlice t l c=>
  simp only[qj]at h⊢;refine qa.bind (wb T t) (fun i=>?_) E h;intro E h;split at h
  .refine qa.bind (wb T _) (fun j=>?_) E h;intro E h;split at h
   .split at h
    .rename_i e1 e2 e3 e4 e5 _;simp only[e1,e2,e3,e4,e5];exact qa.bind (zal _ _) (fun x=>qa.and (qa.pure _ _)) E h
    .exact h.elim
   .exact h.elim
  .exact h.elim
 |load t p=>
  simp only[qj]at h⊢;cases e:ρ p<;>simp only[e]at h⊢
  case ptr i off=>
   split at h
   .exact qa.bind (wb T t) (fun i=>qa.bind (zlm i _ off) fun v=>qa.pure _ _) E h
   .exact h.elim
  case rp k x off=>exact qa.bind (wb T t) (fun i=>qa.bind (zlm i _ off) fun v=>qa.pure _ _) E h
  case opt i sz j off=>
   split at h
   .split at h
    .rename_i e;try simp only[e]
     exact qa.idx _ _ (fun h=>h) (fun x=>qa.bind (wb T t) (fun i=>qa.bind (zlm i _ off) fun v=>qa.pure _ _)) E h
    .exact h.elim
   .exact h.elim
 |store t p v=>
  simp only[qj]at h⊢;refine qa.bind (wb T t) (fun i=>?_) E h;intro E h;cases e1:zwk (ρ v).cs i.sz<;>cases e2:zfp (ρ v).cs <;>simp only[e1,e2]at h⊢
  split at h
  .rename_i e;(try simp only[e]at h⊢);split at h
   .exact qa.bind (zh4 _ _ _) (fun l=>qa.pure _ _) E h
   .exact h.elim
  .rename_i e;(try simp only[e]at h⊢);split at h
   .split at h
    .rename_i e3 e4;try simp only[e3,e4]
     exact qa.bind (zal _ _) (fun l=>qa.and (qa.pure _ _)) E h
    .exact h.elim
   .exact h.elim
  .exact h.elim
 |nilCheck x=>
  simp only[qj]at h⊢;cases e:ρ x<;>simp only[e]at h⊢ <;>exact⟨_,_,h,fun _ h=>h⟩
 |binOp o t x y ty=>
  simp only[qj]at h⊢;exact qa.bind (wb T t) (fun i=>qa.bind (qa8 _ _ _ _) fun v=>qa.pure _ _) E h
 |unOp o t x=>
  simp only[qj]at h⊢;cases o<;>cases e:ρ x<;>simp only[e]at h⊢ <;>exact⟨_,_,h,fun _ h=>h⟩
 |convert s d x=>
  simp only[qj]at h⊢;refine qa.bind (wb T s) (fun j=>qa.bind (wb T d) (fun i=>?_)) E h;intro E h;cases e:ρ x<;>simp only[e]at h⊢
  .split at h
   .exact⟨_,_,h,fun _ h=>h⟩
   .exact h.elim
  .split at h
   .rename_i e1 e2;(try simp only[e1,e2]);exact⟨_,_,h,fun _ h=>h⟩
   .exact h.elim
 |makeFunc f x y=>
  simp only[qj]at h⊢;split at h
  .rename_i e;(try simp only[e]);exact⟨_,_,h,fun _ h=>h⟩
  .exact h.elim
 |fieldAddr t x f=>
  simp only[qj]at h⊢;refine qa.bind (wb T t) (fun i=>?_) E h;intro E h;split at h
  .refine zik (fun o s a=>?_) _ _ E h;intro E h;cases e:ρ x<;>simp only[e]at h⊢ <;>exact⟨_,_,h,fun _ h=>h⟩
  .exact h.elim
 |field t x f=>
  simp only[qj]at h⊢;refine qa.bind (wb T t) (fun i=>?_) E h;intro E h;split at h
  .rename_i e;try simp only[e]
   exact zik (fun o s a=>qa.bind (zmv _ _ _ _) fun v=>qa.pure _ _) _ _ E h
  .exact h.elim
 |indexAddr t x i=>
  simp only[qj]at h⊢;refine qa.bind (wb T t) (fun ti=>?_) E h;intro E h;cases e:ρ i<;>simp only[e]at h⊢
  rename_i kk n;split at h
  .cases e2:ρ x<;>simp only[e2]at h⊢
   .split at h
    .rename_i e3;try simp only[e3]
     exact qa.and (qa.pure _ _) E h
    .exact h.elim
   .split at h
    .rename_i e3;try simp only[e3]
     exact qa.idx _ _ (fun h=>O) (fun x=>qa.pure _ _) E h
    .exact h.elim
   .split at h
    .split at h
     .rename_i e3;try simp only[e3]
      exact qa.and (qa.pure _ _) E h
     .exact h.elim
    .exact h.elim
  .cases e2:ρ x<;>simp only[e2]at h⊢ <;>exact qa.and (qa.pure _ _) E h
  .exact h.elim
 |index t x i=>
  simp only[qj]at h⊢;refine qa.bind (wb T t) (fun ti=>?_) E h;intro E h;split at h
  .rename_i e1 e2 e3;try simp only[e1,e2,e3]
   exact qa.idx _ _ (fun h=>O) (fun x=>qa.pure _ _) E h
  .rename_i e1 e2 e3;try simp only[e1,e2,e3]
   split at h
   .rename_i e4;try simp only[e4]
    refine qa.bind (wb T _) (fun tj=>?_) E h;intro E h;exact qa.and (qa.bind (zmv _ _ _ _) fun v=>qa.pure _ _) E h
   .exact h.elim
  .exact h.elim
 |extract x n=>
  simp only[qj]at h⊢;cases e:ρ x<;>simp only[e]at h⊢
  refine qa.bind (zd4 _ _ _) (fun r=>?_) E h;intro E h;split at h
  .exact⟨_,_,h,fun _ h=>h⟩
  .exact h.elim
 |call c=>
  cases hc:c.callee with
  |value f=>
   simp only[qj,hc]at h⊢;cases e:ρ f<;>simp only[e]at h⊢
   case fn g caps=>
    cases e2:qhp T g<;>simp only[e2]at h⊢
    .exact qa.bind (zlt _) (fun A=>zyd _ A ids bs) E h
    .exact qa.bind (zlt _) (fun A=>qbb _ _ _ A ids bs) E h
   case cb l=>exact qa.bind (zlt _) (fun A=>zyd _ A ids bs) E h
  |invoke r m=>simp[qj,hc]at h
  |builtin b=>
   cases b with
   |len=>
    simp only[qj,hc]at h⊢;split at h
    .rename_i e1 e2;try simp only[e1,e2]
     split at h
     .rename_i e3;try simp only[e3]
      exact zda T _ (fun _ _ _=>zwj _) E h
     .rename_i e3;try simp only[e3]
      exact qa.bind (wb T _) (fun i=>zwi _ _ _) E h
    .exact h.elim
   |append=>
    simp only[qj,hc]at h⊢;split at h
    .rename_i e1 e2;try simp only[e1,e2]
     split at h
     .rename_i e3;try simp only[e3]
      exact qa.bind (wb T _) (fun i=>zye _ _ _ _ _ _) E h
     .exact h.elim
    .exact h.elim
   |max=>
    simp only[qj,hc]at h⊢;split at h
    .rename_i e1;(try simp only[e1]);exact⟨_,_,h,fun _ h=>h⟩
    .rename_i e1;(try simp only[e1]);exact⟨_,_,h,fun _ h=>h⟩
    .exact h.elim
   |min=>
    simp only[qj,hc]at h⊢;split at h
    .rename_i e1;(try simp only[e1]);exact⟨_,_,h,fun _ h=>h⟩
    .exact h.elim
   | _=>simp[qj,hc]at h
 |makeMap t r=>
  simp only[qj]at h⊢;refine zda T t (fun kk vk v=>?_) E h;intro E h;split at h
  .rename_i e1;simp only[e1];exact⟨_,_,h,fun _ h=>h⟩
  .exact h.elim
 |lookup t x i ok=>exact qai _ _ _ _ _ _ E h
 |mapUpdate t m k v=>exact zqz _ _ _ _ _ _ E h
 |insert t m k v=>exact zqz _ _ _ _ _ _ E h
 |slice t x lo hi mx=>
  simp only[qj]at h⊢;refine qa.bind (wb T t) (fun i=>?_) E h;intro E h
  cases hwn:qku T hi with
  |true=>
   simp only[hwn]at h⊢;split at h
   .rename_i e1 e2 e3 e4;try simp only[e1,e2,e3,e4]
    split at h
    .rename_i e5 e6;try simp only[e5,e6]
     exact qa.and (qa.pure _ _) E h
    .exact h.elim
   .exact h.elim
  |false=>simp only[hwn]at h⊢;exact zzo _ _ _ _ _ E h
 | _=>exact False.elim h
