/- What an operation yields can be drawn out of the execution: effO is a value and blocks, handed on. -/
import Derived.Test.YtbolipecnhlnnaaGreatDoorLSxO
set_option linter.all false
open Nat renaming beq->q0
namespace Go.Sx
open Go
def Out{α:Type}(F:(α->Prop)->Prop):Prop:=∀E:α->Prop,F E->∃x,E x/\∀E':α->Prop,E' x->F E'
def qi(F:(AV->List Blk->Prop)->Prop):Prop:=∀E:AV->List Blk->Prop,F E->∃r bs,E r bs/\∀E':AV->List Blk->Prop,E' r bs->F E'
theorem Out.pure{α:Type}(x:α):Out fun E:α->Prop=>E x:=fun _ h=>⟨x,h,fun _ h=>h⟩
theorem Out.no{α:Type}:Out fun _:α->Prop=>False:=fun _ h=>h.elim
theorem Out.bind{α β:Type}{F:(α->Prop)->Prop}{G:α->(β->Prop)->Prop}(hF:Out F)(hG:∀x,Out (G x)):Out fun E=>F fun x=>G x E:=fun E h=>by
 obtain⟨x,h1,h2⟩:=hF _ h;obtain⟨y,h3,h4⟩:=hG x E h1;exact⟨y,h3,fun E' he=>h2 _ (h4 E' he)⟩
theorem Out.and{α:Type}{p:Prop}{F:(α->Prop)->Prop}(hF:Out F):Out fun E=>p/\F E:=fun E h=>by
 obtain⟨x,h1,h2⟩:=hF E h.2;exact⟨x,h1,fun E' he=>⟨h.1,h2 E' he⟩⟩
theorem qi.pure(r:AV)(bs:List Blk):qi fun E=>E r bs:=fun _ h=>⟨r,bs,h,fun _ h=>h⟩
theorem qi.no:qi fun _=>False:=fun _ h=>h.elim
theorem qi.bind{α:Type}{F:(α->Prop)->Prop}{G:α->(AV->List Blk->Prop)->Prop}(hF:Out F)(hG:∀x,qi (G x)):qi fun E=>F fun x=>G x E:=fun E h=>by
 obtain⟨x,h1,h2⟩:=hF _ h;obtain⟨y,bs,h3,h4⟩:=hG x E h1;exact⟨y,bs,h3,fun E' he=>h2 _ (h4 E' he)⟩
theorem qi.and{p:Prop}{F:(AV->List Blk->Prop)->Prop}(hF:qi F):qi fun E=>p/\F E:=fun E h=>by
 obtain⟨x,bs,h1,h2⟩:=hF E h.2;exact⟨x,bs,h1,fun E' he=>⟨h.1,h2 E' he⟩⟩
theorem qi.idx{α:Type}(xs:List α)(j:Nat){p:Prop}(hp:p->j<xs.length){G:α->(AV->List Blk->Prop)->Prop}(hG:∀x,qi (G x)):qi fun E=>p/\∀x,xs[j]? =some x->G x E:=fun E h=>by
 have hj:=hp h.1;have hx:xs[j]? =some xs[j]:=List.getElem?_eq_getElem hj;obtain⟨r,bs,h1,h2⟩:=hG _ E (h.2 _ hx);exact⟨r,bs,h1,fun E' he=>⟨h.1,fun y hy=>by rw[hx]at hy;cases hy;exact h2 E' he⟩⟩
theorem zsa:∀(T:List (Nat×TI))(t:Nat),Out (tgL T t)
 | [],_=>Out.no
 |(a,i)::r,t=>by
  intro E h;simp only[tgL]at h⊢
  cases e:q0 a t with
  |true=>simp only[e]at h⊢;exact⟨i,h,fun _ h=>h⟩
  |false=>simp only[e]at h⊢;exact zsa r t E h
theorem vn(T:Tab)(t:Nat):Out (tgK T t):=zsa T.ty t
theorem zk1(l:List AV):Out (zjk l):=fun E h=>⟨l,(ve l E).1 h,fun E' he=>(ve l E').2 he⟩
theorem zdk:∀(l:List AV)(o n:Nat),Out (cut l o n)
 |l,0,0=>by intro E h;cases l<;>(simp only[cut]at h⊢;exact⟨[],h,fun _ h=>h⟩)
 |a::l,0,n+1=>by
  have:=Out.bind (G:=fun r(k:List AV->Prop)=>k (a::r)) (zdk l 0 n) fun r=>Out.pure _
  intro E h;simp only[cut]at h⊢;exact this E h
 | [],0,_+1=>by intro E h;simp[cut]at h
 | _::l,off+1,n=>by intro E h;simp only[cut]at h⊢;exact zdk l off n E h
 | [],_+1,_=>by intro E h;simp[cut]at h
theorem zhh:∀(l:List AV)(o:Nat)(m:List AV),Out (lay l o m)
 |l,0,[]=>by intro E h;cases l<;>(simp only[lay]at h⊢;exact⟨_,h,fun _ h=>h⟩)
 | _::l,0,b::m=>by
   have:=Out.bind (G:=fun r(k:List AV->Prop)=>k (b::r)) (zhh l 0 m) fun r=>Out.pure _
   intro E h;simp only[lay]at h⊢;exact this E h
 | [],0,_::_=>by intro E h;simp[lay]at h
 |a::l,off+1,m=>by
  have:=Out.bind (G:=fun r(k:List AV->Prop)=>k (a::r)) (zhh l off m) fun r=>Out.pure _
  intro E h;simp only[lay]at h⊢;exact this E h
 | [],_+1,m=>by intro E h;simp[lay]at h
theorem zt0(l:List AV):Out fun E:AV->Prop=>match l with
 | [a]=>E a
 | _=>False:=by
 intro E h;split at h
 .exact⟨_,h,fun _ h=>h⟩
 .exact h.elim
theorem zkv(i:TI)(l:List AV)(off:Nat):Out (ldK i l off):=by
 intro E h;unfold ldK at h⊢
 cases e:i.agg with
 |true=>simp only[e]at h⊢;exact Out.bind (G:=fun r(E:AV->Prop)=>E (.agg r)) (zdk l off i.sz) (fun r=>Out.pure _) E h
 |false=>simp only[e]at h⊢;exact Out.bind (zdk l off 1) (fun r=>zt0 r) E h
theorem zl0(l:List AV)(o s:Nat)(a:Bool):Out (zrc l o s a):=by
 intro E h;unfold zrc at h⊢
 cases a with
 |true=>exact Out.bind (G:=fun r(E:AV->Prop)=>E (.agg r)) (zdk l o s) (fun r=>Out.pure _) E h
 |false=>exact Out.bind (zdk l o 1) (fun r=>zt0 r) E h
theorem zhx{G:Nat->Nat->Bool->(AV->List Blk->Prop)->Prop}(hG:∀o s a,qi (G o s a)):∀(fs:List (Nat×Nat×Bool))(f:Nat),qi fun E=>zc7 fs f fun o s a=>G o s a E
 |(o,s,a)::_,0=>by intro E h;simp only[zc7]at h⊢;exact hG o s a E h
 |(_,_,_)::r,f+1=>by intro E h;simp only[zc7]at h⊢;exact zhx hG r f E h
 | [],_=>by intro E h;simp[zc7]at h
theorem zjl{α:Type}{G:Nat->Nat->Bool->(α->Prop)->Prop}(hG:∀o s a,Out (G o s a)):∀(fs:List (Nat×Nat×Bool))(f:Nat),Out fun E=>zc7 fs f fun o s a=>G o s a E
 |(o,s,a)::_,0=>by intro E h;simp only[zc7]at h⊢;exact hG o s a E h
 |(_,_,_)::r,f+1=>by intro E h;simp only[zc7]at h⊢;exact zjl hG r f E h
 | [],_=>by intro E h;simp[zc7]at h
theorem zmv(fs:List (Nat×Nat×Bool)):∀(ps:List (Nat×AV))(z:List AV),Out (zmw fs ps z)
 | [],z=>by intro E h;simp only[zmw]at h⊢;exact⟨z,h,fun _ h=>h⟩
 |(f,v)::r,z=>by
  intro E h;simp only[zmw]at h⊢;refine zjl (fun o s _=>?_) fs f E h;intro E h;cases h1:zuh v.cs s<;>cases h2:zfh v.cs<;>simp only[h1,h2]at h⊢
  exact Out.bind (zhh z o v.cs) (fun z=>zmv fs r z) E h
theorem zmx(s:Nat):∀(ps:List (Nat×AV))(z:List AV),Out (zmy s ps z)
 | [],z=>by intro E h;simp only[zmy]at h⊢;exact⟨z,h,fun _ h=>h⟩
 |(f,v)::r,z=>by
  intro E h;simp only[zmy]at h⊢;cases h1:zuh v.cs s<;>cases h2:zfh v.cs<;>simp only[h1,h2]at h⊢
  exact Out.bind (zhh z (f*s) v.cs) (fun z=>zmx s r z) E h
theorem wz(a:AV):Out (zjj a):=by
 intro E h;unfold zjj at h;split at h
 .exact⟨_,h,fun _ h=>h⟩
 .exact h.elim
theorem zer(a:AV):Out (zmr a):=by
 intro E h;unfold zmr at h;split at h
 .exact⟨_,h,fun _ h=>h⟩
 .exact h.elim
theorem zyv(a:AV):Out (qfo a):=by
 intro E h;unfold qfo at h;split at h
 .exact⟨_,h,fun _ h=>h⟩
 .exact h.elim
theorem zkz(a:AV):Out (qdy a):=by
 intro E h;unfold qdy at h;split at h
 .exact⟨_,h,fun _ h=>h⟩
 .exact h.elim
theorem zyy(a:AV):Out (qfp a):=by
 intro E h;unfold qfp at h;split at h
 .exact⟨_,h,fun _ h=>h⟩
 .exact⟨_,h,fun _ h=>h⟩
 .exact h.elim
theorem zuy(a:AV):Out (gLs a):=by
 intro E h;unfold gLs at h;split at h
 .exact⟨_,h,fun _ h=>h⟩
 .exact⟨_,h,fun _ h=>h⟩
 .exact h.elim
theorem qdz(a:AV):Out (gIs a):=by
 intro E h;unfold gIs at h;split at h
 .exact⟨_,h,fun _ h=>h⟩
 .exact⟨_,h,fun _ h=>h⟩
 .exact h.elim
theorem qd1(l:List AV):Out fun E:Dy×List AV->Prop=>gDy l fun e r=>E (e,r):=by
 intro E h;unfold gDy at h;split at h
 .exact Out.bind (zer _) (fun _=>Out.bind (zuy _) fun _=>Out.bind (wz _) fun _=>Out.pure (_,_)) E h
 .exact h.elim
theorem zbg{α:Type}{l:List AV}{G:Dy->List AV->(α->Prop)->Prop}(hG:∀e r,Out (G e r)):Out fun E=>gDy l fun e r=>G e r E:=
 Out.bind (F:=fun E:Dy×List AV->Prop=>gDy l fun e r=>E (e,r)) (G:=fun x=>G x.1 x.2) (qd1 l) fun x=>hG _ _
theorem qd0(l:List AV):Out fun E:Ex×List AV->Prop=>gEx l fun e r=>E (e,r):=by
 intro E h;unfold gEx at h;split at h
 .exact Out.bind (wz _) (fun _=>Out.bind (wz _) fun _=>Out.bind (wz _) fun _=>Out.bind (zkz _) fun _=>Out.bind (wz _) fun _=>
   Out.bind (zyy _) fun _=>Out.pure (_,_)) E h
 .exact h.elim
theorem zgu{α:Type}{l:List AV}{G:Ex->List AV->(α->Prop)->Prop}(hG:∀e r,Out (G e r)):Out fun E=>gEx l fun e r=>G e r E:=
 Out.bind (F:=fun E:Ex×List AV->Prop=>gEx l fun e r=>E (e,r)) (G:=fun x=>G x.1 x.2) (qd0 l) fun x=>hG _ _
theorem xp:∀(k:Elt)(l:List AV),Out (qx k l)
 |.ex,l=>by
   intro E h;simp only[qx]at h⊢;refine zgu (fun e r=>?_) E h;intro E h
   cases r with
   |nil=>exact⟨_,h,fun _ h=>h⟩
   |cons _ _=>exact h.elim
 |.ls,[s]=>fun E h=>zuy s E h
 |.ls,[]=>fun _ h=>False.elim h
 |.ls,_::_::_=>fun _ h=>False.elim h
 |.dy,l=>by
   intro E h;simp only[qx]at h⊢;refine zbg (fun e r=>?_) E h;intro E h
   cases r with
   |nil=>exact⟨_,h,fun _ h=>h⟩
   |cons _ _=>exact h.elim
 |.iv,l=>by
   intro E h;simp only[qx]at h⊢;refine zbg (fun e r=>zbg (fun e' r'=>?_)) E h;intro E h;split at h
   .exact Out.bind (zer _) (fun _=>Out.pure _) E h
   .exact h.elim
 |.dd,l=>by
   intro E h;simp only[qx]at h⊢;refine zbg (fun e r=>zbg (fun e' r'=>?_)) E h;intro E h
   cases r' with
   |nil=>exact⟨_,h,fun _ h=>h⟩
   |cons _ _=>exact h.elim
 |.vs,[s]=>fun E h=>qdz s E h
 |.vs,[]=>fun _ h=>False.elim h
 |.vs,_::_::_=>fun _ h=>False.elim h
 |.ki,[]=>fun _ h=>False.elim h
 |.ki,s::l=>by
   intro E h;simp only[qx]at h⊢;refine Out.bind (wz s) (fun s=>zbg (fun e r=>zbg (fun e' r'=>?_))) E h;intro E h;split at h
   .exact Out.bind (zer _) (fun _=>Out.pure _) E h
   .exact h.elim
 |.eqn,s::l=>by
   intro E h;simp only[qx]at h⊢;refine Out.bind (zkz s) (fun s=>zgu (fun e r=>?_)) E h;intro E h
   cases r with
   |nil=>exact⟨_,h,fun _ h=>h⟩
   |cons _ _=>exact h.elim
 |.ex2,l=>by
   intro E h;simp only[qx]at h⊢;refine zgu (fun e r=>zgu (fun e' r'=>?_)) E h;intro E h
   cases r' with
   |nil=>exact⟨_,h,fun _ h=>h⟩
   |cons _ _=>exact h.elim
 |.eqn,[]=>fun _ h=>False.elim h
 |.str,[s]=>fun E h=>zkz s E h
 |.str,[]=>fun _ h=>False.elim h
 |.str,_::_::_=>fun _ h=>False.elim h
 |.int,[s]=>fun E h=>wz s E h
 |.int,[]=>fun _ h=>False.elim h
 |.int,_::_::_=>fun _ h=>False.elim h
 |.bool,[s]=>fun E h=>zer s E h
 |.bool,[]=>fun _ h=>False.elim h
 |.bool,_::_::_=>fun _ h=>False.elim h
 |.u32,[s]=>fun E h=>zyv s E h
 |.u32,[]=>fun _ h=>False.elim h
 |.u32,_::_::_=>fun _ h=>False.elim h
 |.rat,[a,b]=>fun E h=>Out.bind (wz a) (fun _=>Out.bind (wz b) fun _=>Out.pure _) E h
 |.rat,[]=>fun _ h=>False.elim h
 |.rat,[_]=>fun _ h=>False.elim h
 |.rat,_::_::_::_=>fun _ h=>False.elim h
 |.op,[a,b,c,d,e,f]=>fun E h=>Out.bind (wz a) (fun _=>Out.bind (wz b) fun _=>Out.bind (wz c) fun _=>Out.bind (wz d) fun _=>Out.bind (wz e) fun _=>Out.bind (wz f) fun _=>Out.pure _) E h
 |.op,[]=>fun _ h=>False.elim h
 |.op,[_]=>fun _ h=>False.elim h
 |.op,[_,_]=>fun _ h=>False.elim h
 |.op,[_,_,_]=>fun _ h=>False.elim h
 |.op,[_,_,_,_]=>fun _ h=>False.elim h
 |.op,[_,_,_,_,_]=>fun _ h=>False.elim h
 |.op,_::_::_::_::_::_::_::_=>fun _ h=>False.elim h
theorem zi4(k:Elt):∀l:List AV,Out (zf1 k l)
 | []=>by intro E h;simp only[zf1]at h⊢;exact⟨_,h,fun _ h=>h⟩
 |a::l=>by
  intro E h;simp only[zf1]at h⊢;exact Out.bind (xp k a.cs) (fun x=>Out.bind (G:=fun xs(K:List k.T->Prop)=>K (x::xs)) (zi4 k l) fun xs=>Out.pure _) E h
theorem zpc(k:Elt)(a:AV):Out (qcl k a):=by
 intro E h;unfold qcl at h;split at h<;>first|exact h.elim|exact⟨_,h,fun _ h=>h⟩
theorem zu4:∀(z l m:List AV),Out (eqZ z l m):=by
 intro z
 induction z with
 |nil=>
  intro l m
  cases l with
  |nil=>
   cases m with
   |nil=>exact fun E h=>⟨true,h,fun _ h=>h⟩
   |cons b m=>exact fun E h=>False.elim h
  |cons a l=>exact fun E h=>False.elim h
 |cons x z ih=>
  intro l m
  cases x with
  |int k n=>
   cases k<;>first|exact fun E h=>False.elim h|skip
   cases l with
   |nil=>exact fun E h=>False.elim h
   |cons a l=>
    cases a with
    |int k a=>
     cases k<;>first|exact fun E h=>False.elim h|skip
     cases m with
     |nil=>exact fun E h=>False.elim h
     |cons b m=>
      cases b with
      |int k b=>
       cases k<;>first|exact fun E h=>False.elim h|skip
       exact Out.bind (G:=fun r(k:Bool->Prop)=>k (a==b&&r)) (ih l m) (fun r=>Out.pure _)
      | _=>exact fun E h=>False.elim h
    | _=>exact fun E h=>False.elim h
  |str s=>
   cases l with
   |nil=>exact fun E h=>False.elim h
   |cons a l=>
    cases a with
    |str a=>
     cases m with
     |nil=>exact fun E h=>False.elim h
     |cons b m=>
      cases b with
      |str b=>exact Out.bind (G:=fun r(k:Bool->Prop)=>k (a==b&&r)) (ih l m) (fun r=>Out.pure _)
      | _=>exact fun E h=>False.elim h
    | _=>exact fun E h=>False.elim h
  |bool s=>
   cases l with
   |nil=>exact fun E h=>False.elim h
   |cons a l=>
    cases a with
    |bool a=>
     cases m with
     |nil=>exact fun E h=>False.elim h
     |cons b m=>
      cases b with
      |bool b=>exact Out.bind (G:=fun r(k:Bool->Prop)=>k (a==b&&r)) (ih l m) (fun r=>Out.pure _)
      | _=>exact fun E h=>False.elim h
    | _=>exact fun E h=>False.elim h
  | _=>exact fun E h=>False.elim h
theorem zkw(o:BinOp)(k:IntKind)(a b:Int):Out (qdw o k a b):=by
 cases o<;>first|exact Out.pure _ |exact Out.and (Out.pure _)
theorem zw1(o:BinOp)(a b:ze4):Out (strB o a b):=by
 cases o<;>first|exact Out.pure _ |exact Out.and (Out.pure _)|exact Out.no
theorem zzd(i:TI)(o:BinOp)(x y:AV):Out (qew i o x y):=by
 cases x<;>cases y<;>try exact Out.no
 case int.int k a k' b=>
  intro E h;cases o<;>simp only[qew]at h⊢
  case shl=>exact zkw _ _ _ _ E h
  case shr=>exact zkw _ _ _ _ E h
  all_goals (cases hk:zoi k k'<;>simp only[hk]at h⊢;exact zkw _ _ _ _ E h)
 case str.str a b=>exact zw1 _ _ _
 case bool.bool a b=>
  unfold qew;cases q0 i.cls 6<;>cases o<;>first|exact Out.pure _ |exact Out.no
 case sl.nilsl k xs=>
  unfold qew;cases q0 i.cls 3<;>cases o<;>first|exact Out.pure _ |exact Out.no
 case agg.agg l m=>
  intro E h;simp only[qew]at h⊢;cases h1:i.eq<;>simp only[h1]at h⊢
  cases o<;>simp only at h⊢
  .exact Out.bind (G:=fun r(E:AV->Prop)=>E (.bool r)) (zu4 i.z l m) (fun r=>Out.pure _) E h
  .exact Out.bind (G:=fun r(E:AV->Prop)=>E (.bool !r)) (zu4 i.z l m) (fun r=>Out.pure _) E h
theorem zv7(c:CT)(A:List AV)(ids:List Nat)(bs:List Blk):qi (app c A ids bs):=by
 intro E h;obtain⟨bs',r,hc,hk⟩:=h;unfold app;split at hk
 .rename_i h1 h2 h3 h4 h5;exact⟨r,bs',hk,fun E' he=>⟨bs',r,hc,by rw[h1,h2,h3,h4,h5];exact he⟩⟩
 .exact hk.elim
theorem zm2:∀(n:Nat)(bs:List Blk),Out (zm4 n bs)
 |0,bs=>by intro E h;simp only[zm4]at h⊢;exact⟨bs,h,fun _ h=>h⟩
 |n+1,[]=>by intro E h;simp[zm4]at h
 |n+1,b::bs=>by
  intro E h;cases b<;>simp only[zm4]at h⊢
  exact zm2 n bs E h
theorem zzi(c:CT)(n dst:Nat)(A:List AV)(ids:List Nat)(bs:List Blk):qi (appN c n dst A ids bs):=by
 intro E h;unfold appN at h⊢;refine qi.bind (zm2 n bs) (fun bs=>?_) E h;intro E h;obtain⟨bs',nbs,r,hc,hk⟩:=h;split at hk
 .rename_i h1 h2 h3 h4 h5 h6 h7 h8 h9 h10;exact⟨_,_,hk,fun E' he=>⟨bs',nbs,r,hc,by rw[h1,h2,h3,h4,h5,h6,h7,h8,h9,h10];exact he⟩⟩
 .exact hk.elim
theorem zcq(T:Tab)(t:Nat){G:Elt->Elt->TI->(AV->List Blk->Prop)->Prop}(hG:∀a b i,qi (G a b i)):qi fun E=>zin T t fun a b i=>G a b i E:=by
 intro E h;unfold zin at h⊢;refine qi.bind (vn T t) (fun i=>?_) E h;intro E h;split at h
 .refine qi.bind (vn T _) (fun j=>?_) E h;intro E h;split at h
  .refine qi.bind (vn T _) (fun v=>?_) E h;intro E h;split at h
   .split at h
    .rename_i e1 _ e2;simp only[e1,e2];exact hG _ _ _ E h
    .exact h.elim
   .exact h.elim
  .exact h.elim
 .exact h.elim
theorem zye(T:Tab)(t:Nat)(x i:AV)(ok:Bool)(bs:List Blk):qi (lkOp T t x i ok bs):=by
 intro E h;unfold lkOp at h⊢;refine zcq T t (fun kk vk v=>?_) E h;intro E h;split at h
 .split at h
  .rename_i h1 h2 h3;simp only[h1,h2,h3];refine qi.bind (xp _ _) (fun key=>qi.bind (xp _ _) (fun z=>qi.bind (zkv _ _ _) fun u=>?_)) E h;intro E h;cases ok
   .exact⟨_,_,h,fun _ h=>h⟩
   .exact⟨_,_,h,fun _ h=>h⟩
  .exact h.elim
 .exact h.elim
theorem zpz(T:Tab)(t:Nat)(m x y:AV)(bs:List Blk):qi (qha T t m x y bs):=by
 intro E h;unfold qha at h⊢;refine zcq T t (fun kk vk v=>?_) E h;intro E h;split at h
 .split at h
  .rename_i h1 h2 h3 h4;simp only[h1,h2,h3,h4];exact qi.bind (xp _ _) (fun key=>qi.bind (xp _ _) (fun z=>qi.pure _ _)) E h
  .exact h.elim
 .exact h.elim
theorem ye(x:Option AV)(d:Int):Out (zcg x d):=by
 intro E h;unfold zcg at h⊢;split at h
 .exact⟨_,h,fun _ h=>h⟩
 .exact⟨_,h,fun _ h=>h⟩
 .exact h.elim
theorem zw6(i:TI)(x:AV)(lo hi mx:Option AV):qi (qfc i x lo hi mx):=by
 intro E h;unfold qfc at h⊢
 cases mx with
 |some y=>
  simp only at h⊢;split at h
  .split at h
   .rename_i e1 e2
    try simp only[e1,e2]
    exact qi.bind (ye _ _) (fun l=>qi.and (qi.pure _ _)) E h
   .exact h.elim
  .exact h.elim
 |none=>
  simp only at h⊢;cases x<;>simp only at h⊢
  case str s=>
   cases e:q0 i.cls 5<;>simp only[e]at h⊢
   exact qi.bind (ye _ _) (fun l=>qi.bind (ye _ _) fun u=>qi.and (qi.pure _ _)) E h
  case nilsl=>
   cases e:q0 i.cls 3<;>simp only[e]at h⊢
   exact qi.bind (ye _ _) (fun l=>qi.bind (ye _ _) fun u=>qi.and (qi.pure _ _)) E h
  case sl k xs=>
   cases e:q0 i.cls 3<;>cases e':q0 i.esz k.size<;>simp only[e,e']at h⊢
   exact qi.bind (ye _ _) (fun l=>qi.bind (ye _ _) fun u=>qi.and (qi.pure _ _)) E h
theorem zug(bs:List Blk):qi (zrg bs):=by
 intro E h;unfold zrg at h⊢;split at h
 .exact⟨_,_,h,fun _ h=>h⟩
 .exact h.elim
theorem zuf(i:TI)(x:AV)(bs:List Blk):qi (zmf i x bs):=by
 cases x<;>try exact qi.no
 case str s=>unfold zmf;cases q0 i.cls 5<;>first|exact qi.pure _ _ |exact qi.no
 case nilsl=>unfold zmf;cases q0 i.cls 3<;>first|exact qi.pure _ _ |exact qi.no
 case sl k xs=>unfold zmf;cases q0 i.cls 3<;>first|exact qi.pure _ _ |exact qi.no
 case ow=>unfold zmf;cases q0 i.cls 3<;>first|exact qi.pure _ _ |exact qi.no
 case own id=>
  intro E h;unfold zmf at h⊢;simp only at h⊢;split at h
  .exact⟨_,_,h,fun _ h=>h⟩
  .exact h.elim
theorem zv8(T:Tab)(i:TI)(dst:Nat)(s x:AV)(bs:List Blk):qi (zzh T i dst s x bs):=by
 intro E h;unfold zzh at h;split at h
 .refine qi.bind (vn T _) (fun j=>?_) E h;intro E h;split at h
  .rename_i esz _ _ _ _ _ _ _ sz _ _ _ _ k _ _ bytes _;split at h
   .split at h
    .exact qi.bind (zpc _ x) (fun ys=>qi.and (qi.pure _ _)) E h
    .split at h
     .rename_i h1 h2 h3;simp only[h1,h2,h3];exact qi.bind (zpc _ x) (fun ys=>qi.and (qi.pure _ _)) E h
     .exact h.elim
    .exact h.elim
   .exact h.elim
  .exact h.elim
 .exact h.elim
set_option maxHeartbeats 1000000 in
theorem qd5(T:Tab)(C:Con)(op:Op)(dst:Nat)(ρ:Operand->AV)(ids:List Nat)(bs:List Blk):qi (qq T C op dst ρ ids bs):=by
 intro E h
 cases op with
 |move x=>exact⟨_,_,h,fun _ h=>h⟩
 |assign x=>exact⟨_,_,h,fun _ h=>h⟩
 |pick c a b=>
  simp only[qq]at h⊢;cases e:ρ c<;>simp only[e]at h⊢
  rename_i t;cases t
  .exact⟨_,_,h,fun _ h=>h⟩
  .exact⟨_,_,h,fun _ h=>h⟩
 |alloc t=>
  simp only[qq]at h⊢;split at h
  .exact qi.bind (vn T t) (fun i=>qi.pure _ _) E h
  .exact h.elim
 |box t x=>
  simp only[qq]at h⊢;split at h
  .rename_i e;(try simp only[e]);exact⟨_,_,h,fun _ h=>h⟩
  .exact h.elim
 |build t ps=>
  simp only[qq]at h⊢;refine qi.bind (vn T t) (fun i=>?_) E h;intro E h;split at h
  .exact qi.bind (zmv _ _ _) (fun l=>qi.pure _ _) E h
  .exact qi.bind (zmx _ _ _) (fun l=>qi.pure _ _) E h
  .exact h.elim
 |buildSlice t n ps=>
  simp only[qq]at h⊢;refine qi.bind (vn T t) (fun i=>?_) E h;intro E h;split at h
  .refine qi.bind (vn T _) (fun j=>?_) E h;intro E h;split at h
   .split at h
    .split at h
     .split at h
      .rename_i e;(try simp only[*]);exact⟨_,_,h,fun _ h=>h⟩
      .exact h.elim
     .split at h
      .try simp only[*]
       exact qi.bind (zi4 _ _) (fun l=>qi.pure _ _) E h
      .exact h.elim
    .exact h.elim
   .exact h.elim
  .exact h.elim
 |makeSlice t l c=>
  simp only[qq]at h⊢;refine qi.bind (vn T t) (fun i=>?_) E h;intro E h;split at h
  .refine qi.bind (vn T _) (fun j=>?_) E h;intro E h;split at h
   .split at h
    .rename_i e1 e2 e3 e4 e5 _;simp only[e1,e2,e3,e4,e5];exact qi.bind (xp _ _) (fun x=>qi.and (qi.pure _ _)) E h
    .exact h.elim
   .exact h.elim
  .exact h.elim
 |load t p=>
  simp only[qq]at h⊢;cases e:ρ p<;>simp only[e]at h⊢
  case ptr i off=>
   split at h
   .exact qi.bind (vn T t) (fun i=>qi.bind (zkv i _ off) fun v=>qi.pure _ _) E h
   .exact h.elim
  case rp k x off=>exact qi.bind (vn T t) (fun i=>qi.bind (zkv i _ off) fun v=>qi.pure _ _) E h
  case opt i sz j off=>
   split at h
   .split at h
    .rename_i e;try simp only[e]
     exact qi.idx _ _ (fun h=>h) (fun x=>qi.bind (vn T t) (fun i=>qi.bind (zkv i _ off) fun v=>qi.pure _ _)) E h
    .exact h.elim
   .exact h.elim
 |store t p v=>
  simp only[qq]at h⊢;refine qi.bind (vn T t) (fun i=>?_) E h;intro E h;cases e1:zuh (ρ v).cs i.sz<;>cases e2:zfh (ρ v).cs <;>simp only[e1,e2]at h⊢
  split at h
  .rename_i e;(try simp only[e]at h⊢);split at h
   .exact qi.bind (zhh _ _ _) (fun l=>qi.pure _ _) E h
   .exact h.elim
  .rename_i e;(try simp only[e]at h⊢);split at h
   .split at h
    .rename_i e3 e4;try simp only[e3,e4]
     exact qi.bind (xp _ _) (fun l=>qi.and (qi.pure _ _)) E h
    .exact h.elim
   .exact h.elim
  .exact h.elim
 |nilCheck x=>
  simp only[qq]at h⊢;cases e:ρ x<;>simp only[e]at h⊢ <;>exact⟨_,_,h,fun _ h=>h⟩
 |binOp o t x y ty=>
  simp only[qq]at h⊢;exact qi.bind (vn T t) (fun i=>qi.bind (zzd _ _ _ _) fun v=>qi.pure _ _) E h
 |unOp o t x=>
  simp only[qq]at h⊢;cases o<;>cases e:ρ x<;>simp only[e]at h⊢ <;>exact⟨_,_,h,fun _ h=>h⟩
 |convert s d x=>
  simp only[qq]at h⊢;refine qi.bind (vn T s) (fun j=>qi.bind (vn T d) (fun i=>?_)) E h;intro E h;cases e:ρ x<;>simp only[e]at h⊢
  .split at h
   .exact⟨_,_,h,fun _ h=>h⟩
   .exact h.elim
  .split at h
   .rename_i e1 e2;(try simp only[e1,e2]);exact⟨_,_,h,fun _ h=>h⟩
   .exact h.elim
 |makeFunc f x y=>
  simp only[qq]at h⊢;split at h
  .rename_i e;(try simp only[e]);exact⟨_,_,h,fun _ h=>h⟩
  .exact h.elim
 |fieldAddr t x f=>
  simp only[qq]at h⊢;refine qi.bind (vn T t) (fun i=>?_) E h;intro E h;split at h
  .refine zhx (fun o s a=>?_) _ _ E h;intro E h;cases e:ρ x<;>simp only[e]at h⊢ <;>exact⟨_,_,h,fun _ h=>h⟩
  .exact h.elim
 |field t x f=>
  simp only[qq]at h⊢;refine qi.bind (vn T t) (fun i=>?_) E h;intro E h;split at h
  .rename_i e;try simp only[e]
   exact zhx (fun o s a=>qi.bind (zl0 _ _ _ _) fun v=>qi.pure _ _) _ _ E h
  .exact h.elim
 |indexAddr t x i=>
  simp only[qq]at h⊢;refine qi.bind (vn T t) (fun ti=>?_) E h;intro E h;cases e:ρ i<;>simp only[e]at h⊢
  rename_i kk n;split at h
  .cases e2:ρ x<;>simp only[e2]at h⊢
   .split at h
    .rename_i e3;try simp only[e3]
     exact qi.and (qi.pure _ _) E h
    .exact h.elim
   .split at h
    .rename_i e3;try simp only[e3]
     exact qi.idx _ _ (fun h=>O) (fun x=>qi.pure _ _) E h
    .exact h.elim
   .split at h
    .split at h
     .rename_i e3;try simp only[e3]
      exact qi.and (qi.pure _ _) E h
     .exact h.elim
    .exact h.elim
  .cases e2:ρ x<;>simp only[e2]at h⊢ <;>exact qi.and (qi.pure _ _) E h
  .exact h.elim
 |index t x i=>
  simp only[qq]at h⊢;refine qi.bind (vn T t) (fun ti=>?_) E h;intro E h;split at h
  .rename_i e1 e2 e3;try simp only[e1,e2,e3]
   exact qi.idx _ _ (fun h=>O) (fun x=>qi.pure _ _) E h
  .rename_i e1 e2 e3;try simp only[e1,e2,e3]
   split at h
   .rename_i e4;try simp only[e4]
    refine qi.bind (vn T _) (fun tj=>?_) E h;intro E h;exact qi.and (qi.bind (zl0 _ _ _ _) fun v=>qi.pure _ _) E h
   .exact h.elim
  .exact h.elim
 |extract x n=>
  simp only[qq]at h⊢;cases e:ρ x<;>simp only[e]at h⊢
  refine qi.bind (zdk _ _ _) (fun r=>?_) E h;intro E h;split at h
  .exact⟨_,_,h,fun _ h=>h⟩
  .exact h.elim
 |call c=>
  cases hc:c.callee with
  |value f=>
   simp only[qq,hc]at h⊢;cases e:ρ f<;>simp only[e]at h⊢
   case fn g caps=>
    cases e2:qfi T g<;>simp only[e2]at h⊢
    .exact qi.bind (zk1 _) (fun A=>zv7 _ A ids bs) E h
    .exact qi.bind (zk1 _) (fun A=>zzi _ _ _ A ids bs) E h
   case cb l=>exact qi.bind (zk1 _) (fun A=>zv7 _ A ids bs) E h
  |invoke r m=>simp[qq,hc]at h
  |builtin b=>
   cases b with
   |len=>
    simp only[qq,hc]at h⊢;split at h
    .rename_i e1 e2;try simp only[e1,e2]
     split at h
     .rename_i e3;try simp only[e3]
      exact zcq T _ (fun _ _ _=>zug _) E h
     .rename_i e3;try simp only[e3]
      exact qi.bind (vn T _) (fun i=>zuf _ _ _) E h
    .exact h.elim
   |append=>
    simp only[qq,hc]at h⊢;split at h
    .rename_i e1 e2;try simp only[e1,e2]
     split at h
     .rename_i e3;try simp only[e3]
      exact qi.bind (vn T _) (fun i=>zv8 _ _ _ _ _ _) E h
     .exact h.elim
    .exact h.elim
   |max=>
    simp only[qq,hc]at h⊢;split at h
    .rename_i e1;(try simp only[e1]);exact⟨_,_,h,fun _ h=>h⟩
    .rename_i e1;(try simp only[e1]);exact⟨_,_,h,fun _ h=>h⟩
    .exact h.elim
   |min=>
    simp only[qq,hc]at h⊢;split at h
    .rename_i e1;(try simp only[e1]);exact⟨_,_,h,fun _ h=>h⟩
    .exact h.elim
   | _=>simp[qq,hc]at h
 |makeMap t r=>
  simp only[qq]at h⊢;refine zcq T t (fun kk vk v=>?_) E h;intro E h;split at h
  .rename_i e1;simp only[e1];exact⟨_,_,h,fun _ h=>h⟩
  .exact h.elim
 |lookup t x i ok=>exact zye _ _ _ _ _ _ E h
 |mapUpdate t m k v=>exact zpz _ _ _ _ _ _ E h
 |insert t m k v=>exact zpz _ _ _ _ _ _ E h
 |slice t x lo hi mx=>
  simp only[qq]at h⊢;refine qi.bind (vn T t) (fun i=>?_) E h;intro E h
  cases hwn:qhy T hi with
  |true=>
   simp only[hwn]at h⊢;split at h
   .rename_i e1 e2 e3 e4;try simp only[e1,e2,e3,e4]
    split at h
    .rename_i e5 e6;try simp only[e5,e6]
     exact qi.and (qi.pure _ _) E h
    .exact h.elim
   .exact h.elim
  |false=>simp only[hwn]at h⊢;exact zw6 _ _ _ _ _ E h
 | _=>exact False.elim h
