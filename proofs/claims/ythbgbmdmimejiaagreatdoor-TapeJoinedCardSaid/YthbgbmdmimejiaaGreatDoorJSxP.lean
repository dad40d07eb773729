/- What an operation yields can be drawn out of the execution: effO is a value and blocks, handed on. -/
import Derived.Test.YthbgbmdmimejiaaGreatDoorJSxO
set_option linter.all false
open Nat renaming beq->q0
namespace Go.Sx
open Go
def Out{α:Type}(F:(α->Prop)->Prop):Prop:=∀E:α->Prop,F E->∃x,E x/\∀E':α->Prop,E' x->F E'
def qd(F:(AV->List Blk->Prop)->Prop):Prop:=∀E:AV->List Blk->Prop,F E->∃r bs,E r bs/\∀E':AV->List Blk->Prop,E' r bs->F E'
theorem Out.pure{α:Type}(x:α):Out fun E:α->Prop=>E x:=fun _ h=>⟨x,h,fun _ h=>h⟩
theorem Out.no{α:Type}:Out fun _:α->Prop=>False:=fun _ h=>h.elim
theorem Out.bind{α β:Type}{F:(α->Prop)->Prop}{G:α->(β->Prop)->Prop}(hF:Out F)(hG:∀x,Out (G x)):Out fun E=>F fun x=>G x E:=fun E h=>by
 obtain⟨x,h1,h2⟩:=hF _ h;obtain⟨y,h3,h4⟩:=hG x E h1;exact⟨y,h3,fun E' he=>h2 _ (h4 E' he)⟩
theorem Out.and{α:Type}{p:Prop}{F:(α->Prop)->Prop}(hF:Out F):Out fun E=>p/\F E:=fun E h=>by
 obtain⟨x,h1,h2⟩:=hF E h.2;exact⟨x,h1,fun E' he=>⟨h.1,h2 E' he⟩⟩
theorem qd.pure(r:AV)(bs:List Blk):qd fun E=>E r bs:=fun _ h=>⟨r,bs,h,fun _ h=>h⟩
theorem qd.no:qd fun _=>False:=fun _ h=>h.elim
theorem qd.bind{α:Type}{F:(α->Prop)->Prop}{G:α->(AV->List Blk->Prop)->Prop}(hF:Out F)(hG:∀x,qd (G x)):qd fun E=>F fun x=>G x E:=fun E h=>by
 obtain⟨x,h1,h2⟩:=hF _ h;obtain⟨y,bs,h3,h4⟩:=hG x E h1;exact⟨y,bs,h3,fun E' he=>h2 _ (h4 E' he)⟩
theorem qd.and{p:Prop}{F:(AV->List Blk->Prop)->Prop}(hF:qd F):qd fun E=>p/\F E:=fun E h=>by
 obtain⟨x,bs,h1,h2⟩:=hF E h.2;exact⟨x,bs,h1,fun E' he=>⟨h.1,h2 E' he⟩⟩
theorem qd.idx{α:Type}(xs:List α)(j:Nat){p:Prop}(hp:p->j<xs.length){G:α->(AV->List Blk->Prop)->Prop}(hG:∀x,qd (G x)):qd fun E=>p/\∀x,xs[j]? =some x->G x E:=fun E h=>by
 have hj:=hp h.1;have hx:xs[j]? =some xs[j]:=List.getElem?_eq_getElem hj;obtain⟨r,bs,h1,h2⟩:=hG _ E (h.2 _ hx);exact⟨r,bs,h1,fun E' he=>⟨h.1,fun y hy=>by rw[hx]at hy;cases hy;exact h2 E' he⟩⟩
theorem zqt:∀(T:List (Nat×TI))(t:Nat),Out (tgL T t)
 | [],_=>Out.no
 |(a,i)::r,t=>by
  intro E h;simp only[tgL]at h⊢
  cases e:q0 a t with
  |true=>simp only[e]at h⊢;exact⟨i,h,fun _ h=>h⟩
  |false=>simp only[e]at h⊢;exact zqt r t E h
theorem ve(T:Tab)(t:Nat):Out (tgK T t):=zqt T.ty t
theorem ziz(l:List AV):Out (zgq l):=fun E h=>⟨l,(qk l E).1 h,fun E' he=>(qk l E').2 he⟩
theorem zcj:∀(l:List AV)(o n:Nat),Out (cut l o n)
 |l,0,0=>by intro E h;cases l<;>(simp only[cut]at h⊢;exact⟨[],h,fun _ h=>h⟩)
 |a::l,0,n+1=>by
  have:=Out.bind (G:=fun r(k:List AV->Prop)=>k (a::r)) (zcj l 0 n) fun r=>Out.pure _
  intro E h;simp only[cut]at h⊢;exact this E h
 | [],0,_+1=>by intro E h;simp[cut]at h
 | _::l,off+1,n=>by intro E h;simp only[cut]at h⊢;exact zcj l off n E h
 | [],_+1,_=>by intro E h;simp[cut]at h
theorem zfq:∀(l:List AV)(o:Nat)(m:List AV),Out (lay l o m)
 |l,0,[]=>by intro E h;cases l<;>(simp only[lay]at h⊢;exact⟨_,h,fun _ h=>h⟩)
 | _::l,0,b::m=>by
   have:=Out.bind (G:=fun r(k:List AV->Prop)=>k (b::r)) (zfq l 0 m) fun r=>Out.pure _
   intro E h;simp only[lay]at h⊢;exact this E h
 | [],0,_::_=>by intro E h;simp[lay]at h
 |a::l,off+1,m=>by
  have:=Out.bind (G:=fun r(k:List AV->Prop)=>k (a::r)) (zfq l off m) fun r=>Out.pure _
  intro E h;simp only[lay]at h⊢;exact this E h
 | [],_+1,m=>by intro E h;simp[lay]at h
theorem zsb(l:List AV):Out fun E:AV->Prop=>match l with
 | [a]=>E a
 | _=>False:=by
 intro E h;split at h
 .exact⟨_,h,fun _ h=>h⟩
 .exact h.elim
theorem zir(i:TI)(l:List AV)(off:Nat):Out (ldK i l off):=by
 intro E h;unfold ldK at h⊢
 cases e:i.agg with
 |true=>simp only[e]at h⊢;exact Out.bind (G:=fun r(E:AV->Prop)=>E (.agg r)) (zcj l off i.sz) (fun r=>Out.pure _) E h
 |false=>simp only[e]at h⊢;exact Out.bind (zcj l off 1) (fun r=>zsb r) E h
theorem zjw(l:List AV)(o s:Nat)(a:Bool):Out (zpq l o s a):=by
 intro E h;unfold zpq at h⊢
 cases a with
 |true=>exact Out.bind (G:=fun r(E:AV->Prop)=>E (.agg r)) (zcj l o s) (fun r=>Out.pure _) E h
 |false=>exact Out.bind (zcj l o 1) (fun r=>zsb r) E h
theorem zf5{G:Nat->Nat->Bool->(AV->List Blk->Prop)->Prop}(hG:∀o s a,qd (G o s a)):∀(fs:List (Nat×Nat×Bool))(f:Nat),qd fun E=>zb0 fs f fun o s a=>G o s a E
 |(o,s,a)::_,0=>by intro E h;simp only[zb0]at h⊢;exact hG o s a E h
 |(_,_,_)::r,f+1=>by intro E h;simp only[zb0]at h⊢;exact zf5 hG r f E h
 | [],_=>by intro E h;simp[zb0]at h
theorem zht{α:Type}{G:Nat->Nat->Bool->(α->Prop)->Prop}(hG:∀o s a,Out (G o s a)):∀(fs:List (Nat×Nat×Bool))(f:Nat),Out fun E=>zb0 fs f fun o s a=>G o s a E
 |(o,s,a)::_,0=>by intro E h;simp only[zb0]at h⊢;exact hG o s a E h
 |(_,_,_)::r,f+1=>by intro E h;simp only[zb0]at h⊢;exact zht hG r f E h
 | [],_=>by intro E h;simp[zb0]at h
theorem zkn(fs:List (Nat×Nat×Bool)):∀(ps:List (Nat×AV))(z:List AV),Out (zko fs ps z)
 | [],z=>by intro E h;simp only[zko]at h⊢;exact⟨z,h,fun _ h=>h⟩
 |(f,v)::r,z=>by
  intro E h;simp only[zko]at h⊢;refine zht (fun o s _=>?_) fs f E h;intro E h;cases h1:zst v.cs s<;>cases h2:zdw v.cs<;>simp only[h1,h2]at h⊢
  exact Out.bind (zfq z o v.cs) (fun z=>zkn fs r z) E h
theorem zkp(s:Nat):∀(ps:List (Nat×AV))(z:List AV),Out (zkq s ps z)
 | [],z=>by intro E h;simp only[zkq]at h⊢;exact⟨z,h,fun _ h=>h⟩
 |(f,v)::r,z=>by
  intro E h;simp only[zkq]at h⊢;cases h1:zst v.cs s<;>cases h2:zdw v.cs<;>simp only[h1,h2]at h⊢
  exact Out.bind (zfq z (f*s) v.cs) (fun z=>zkp s r z) E h
theorem ja(a:AV):Out (zhr a):=by
 intro E h;unfold zhr at h;split at h
 .exact⟨_,h,fun _ h=>h⟩
 .exact h.elim
theorem zdf(a:AV):Out (zkk a):=by
 intro E h;unfold zkk at h;split at h
 .exact⟨_,h,fun _ h=>h⟩
 .exact h.elim
theorem zv8(a:AV):Out (qbv a):=by
 intro E h;unfold qbv at h;split at h
 .exact⟨_,h,fun _ h=>h⟩
 .exact h.elim
theorem zix(a:AV):Out (qaf a):=by
 intro E h;unfold qaf at h;split at h
 .exact⟨_,h,fun _ h=>h⟩
 .exact h.elim
theorem zwb(a:AV):Out (qbw a):=by
 intro E h;unfold qbw at h;split at h
 .exact⟨_,h,fun _ h=>h⟩
 .exact⟨_,h,fun _ h=>h⟩
 .exact h.elim
theorem zs8(a:AV):Out (gLs a):=by
 intro E h;unfold gLs at h;split at h
 .exact⟨_,h,fun _ h=>h⟩
 .exact⟨_,h,fun _ h=>h⟩
 .exact h.elim
theorem qag(a:AV):Out (gIs a):=by
 intro E h;unfold gIs at h;split at h
 .exact⟨_,h,fun _ h=>h⟩
 .exact⟨_,h,fun _ h=>h⟩
 .exact h.elim
theorem qai(l:List AV):Out fun E:Dy×List AV->Prop=>gDy l fun e r=>E (e,r):=by
 intro E h;unfold gDy at h;split at h
 .exact Out.bind (zdf _) (fun _=>Out.bind (zs8 _) fun _=>Out.bind (ja _) fun _=>Out.pure (_,_)) E h
 .exact h.elim
theorem zal{α:Type}{l:List AV}{G:Dy->List AV->(α->Prop)->Prop}(hG:∀e r,Out (G e r)):Out fun E=>gDy l fun e r=>G e r E:=
 Out.bind (F:=fun E:Dy×List AV->Prop=>gDy l fun e r=>E (e,r)) (G:=fun x=>G x.1 x.2) (qai l) fun x=>hG _ _
theorem qah(l:List AV):Out fun E:Ex×List AV->Prop=>gEx l fun e r=>E (e,r):=by
 intro E h;unfold gEx at h;split at h
 .exact Out.bind (ja _) (fun _=>Out.bind (ja _) fun _=>Out.bind (ja _) fun _=>Out.bind (zix _) fun _=>Out.bind (ja _) fun _=>
   Out.bind (zwb _) fun _=>Out.pure (_,_)) E h
 .exact h.elim
theorem zey{α:Type}{l:List AV}{G:Ex->List AV->(α->Prop)->Prop}(hG:∀e r,Out (G e r)):Out fun E=>gEx l fun e r=>G e r E:=
 Out.bind (F:=fun E:Ex×List AV->Prop=>gEx l fun e r=>E (e,r)) (G:=fun x=>G x.1 x.2) (qah l) fun x=>hG _ _
theorem yn:∀(k:Elt)(l:List AV),Out (qs k l)
 |.ex,l=>by
   intro E h;simp only[qs]at h⊢;refine zey (fun e r=>?_) E h;intro E h
   cases r with
   |nil=>exact⟨_,h,fun _ h=>h⟩
   |cons _ _=>exact h.elim
 |.ls,[s]=>fun E h=>zs8 s E h
 |.ls,[]=>fun _ h=>False.elim h
 |.ls,_::_::_=>fun _ h=>False.elim h
 |.dy,l=>by
   intro E h;simp only[qs]at h⊢;refine zal (fun e r=>?_) E h;intro E h
   cases r with
   |nil=>exact⟨_,h,fun _ h=>h⟩
   |cons _ _=>exact h.elim
 |.iv,l=>by
   intro E h;simp only[qs]at h⊢;refine zal (fun e r=>zal (fun e' r'=>?_)) E h;intro E h;split at h
   .exact Out.bind (zdf _) (fun _=>Out.pure _) E h
   .exact h.elim
 |.dd,l=>by
   intro E h;simp only[qs]at h⊢;refine zal (fun e r=>zal (fun e' r'=>?_)) E h;intro E h
   cases r' with
   |nil=>exact⟨_,h,fun _ h=>h⟩
   |cons _ _=>exact h.elim
 |.vs,[s]=>fun E h=>qag s E h
 |.vs,[]=>fun _ h=>False.elim h
 |.vs,_::_::_=>fun _ h=>False.elim h
 |.ki,[]=>fun _ h=>False.elim h
 |.ki,s::l=>by
   intro E h;simp only[qs]at h⊢;refine Out.bind (ja s) (fun s=>zal (fun e r=>zal (fun e' r'=>?_))) E h;intro E h;split at h
   .exact Out.bind (zdf _) (fun _=>Out.pure _) E h
   .exact h.elim
 |.eqn,s::l=>by
   intro E h;simp only[qs]at h⊢;refine Out.bind (zix s) (fun s=>zey (fun e r=>?_)) E h;intro E h
   cases r with
   |nil=>exact⟨_,h,fun _ h=>h⟩
   |cons _ _=>exact h.elim
 |.ex2,l=>by
   intro E h;simp only[qs]at h⊢;refine zey (fun e r=>zey (fun e' r'=>?_)) E h;intro E h
   cases r' with
   |nil=>exact⟨_,h,fun _ h=>h⟩
   |cons _ _=>exact h.elim
 |.eqn,[]=>fun _ h=>False.elim h
 |.str,[s]=>fun E h=>zix s E h
 |.str,[]=>fun _ h=>False.elim h
 |.str,_::_::_=>fun _ h=>False.elim h
 |.int,[s]=>fun E h=>ja s E h
 |.int,[]=>fun _ h=>False.elim h
 |.int,_::_::_=>fun _ h=>False.elim h
 |.bool,[s]=>fun E h=>zdf s E h
 |.bool,[]=>fun _ h=>False.elim h
 |.bool,_::_::_=>fun _ h=>False.elim h
 |.u32,[s]=>fun E h=>zv8 s E h
 |.u32,[]=>fun _ h=>False.elim h
 |.u32,_::_::_=>fun _ h=>False.elim h
 |.rat,[a,b]=>fun E h=>Out.bind (ja a) (fun _=>Out.bind (ja b) fun _=>Out.pure _) E h
 |.rat,[]=>fun _ h=>False.elim h
 |.rat,[_]=>fun _ h=>False.elim h
 |.rat,_::_::_::_=>fun _ h=>False.elim h
 |.op,[a,b,c,d,e,f]=>fun E h=>Out.bind (ja a) (fun _=>Out.bind (ja b) fun _=>Out.bind (ja c) fun _=>Out.bind (ja d) fun _=>Out.bind (ja e) fun _=>Out.bind (ja f) fun _=>Out.pure _) E h
 |.op,[]=>fun _ h=>False.elim h
 |.op,[_]=>fun _ h=>False.elim h
 |.op,[_,_]=>fun _ h=>False.elim h
 |.op,[_,_,_]=>fun _ h=>False.elim h
 |.op,[_,_,_,_]=>fun _ h=>False.elim h
 |.op,[_,_,_,_,_]=>fun _ h=>False.elim h
 |.op,_::_::_::_::_::_::_::_=>fun _ h=>False.elim h
theorem zg6(k:Elt):∀l:List AV,Out (zea k l)
 | []=>by intro E h;simp only[zea]at h⊢;exact⟨_,h,fun _ h=>h⟩
 |a::l=>by
  intro E h;simp only[zea]at h⊢;exact Out.bind (yn k a.cs) (fun x=>Out.bind (G:=fun xs(K:List k.T->Prop)=>K (x::xs)) (zg6 k l) fun xs=>Out.pure _) E h
theorem zm6(k:Elt)(a:AV):Out (zy1 k a):=by
 intro E h;unfold zy1 at h;split at h<;>first|exact h.elim|exact⟨_,h,fun _ h=>h⟩
theorem zte:∀(z l m:List AV),Out (eqZ z l m):=by
 intro z
 induction z with
 |nil=>
  intro l m
  cases l with
  |nil=>
   cases m with
   |nil=>exact fun E h=>⟨true,h,fun _ h=>h⟩
   |cons b m=>exact fun E h=>False.elim h
  |cons a l=>exact fun E h=>False.elim h
 |cons x z ih=>
  intro l m
  cases x with
  |int k n=>
   cases k<;>first|exact fun E h=>False.elim h|skip
   cases l with
   |nil=>exact fun E h=>False.elim h
   |cons a l=>
    cases a with
    |int k a=>
     cases k<;>first|exact fun E h=>False.elim h|skip
     cases m with
     |nil=>exact fun E h=>False.elim h
     |cons b m=>
      cases b with
      |int k b=>
       cases k<;>first|exact fun E h=>False.elim h|skip
       exact Out.bind (G:=fun r(k:Bool->Prop)=>k (a==b&&r)) (ih l m) (fun r=>Out.pure _)
      | _=>exact fun E h=>False.elim h
    | _=>exact fun E h=>False.elim h
  |str s=>
   cases l with
   |nil=>exact fun E h=>False.elim h
   |cons a l=>
    cases a with
    |str a=>
     cases m with
     |nil=>exact fun E h=>False.elim h
     |cons b m=>
      cases b with
      |str b=>exact Out.bind (G:=fun r(k:Bool->Prop)=>k (a==b&&r)) (ih l m) (fun r=>Out.pure _)
      | _=>exact fun E h=>False.elim h
    | _=>exact fun E h=>False.elim h
  |bool s=>
   cases l with
   |nil=>exact fun E h=>False.elim h
   |cons a l=>
    cases a with
    |bool a=>
     cases m with
     |nil=>exact fun E h=>False.elim h
     |cons b m=>
      cases b with
      |bool b=>exact Out.bind (G:=fun r(k:Bool->Prop)=>k (a==b&&r)) (ih l m) (fun r=>Out.pure _)
      | _=>exact fun E h=>False.elim h
    | _=>exact fun E h=>False.elim h
  | _=>exact fun E h=>False.elim h
theorem zit(o:BinOp)(k:IntKind)(a b:Int):Out (qac o k a b):=by
 cases o<;>first|exact Out.pure _ |exact Out.and (Out.pure _)
theorem zu4(o:BinOp)(a b:zp):Out (strB o a b):=by
 cases o<;>first|exact Out.pure _ |exact Out.and (Out.pure _)|exact Out.no
theorem zwq(i:TI)(o:BinOp)(x y:AV):Out (qa7 i o x y):=by
 cases x<;>cases y<;>try exact Out.no
 case int.int k a k' b=>
  intro E h;cases o<;>simp only[qa7]at h⊢
  case shl=>exact zit _ _ _ _ E h
  case shr=>exact zit _ _ _ _ E h
  all_goals (cases hk:zl9 k k'<;>simp only[hk]at h⊢;exact zit _ _ _ _ E h)
 case str.str a b=>exact zu4 _ _ _
 case bool.bool a b=>
  unfold qa7;cases q0 i.cls 6<;>cases o<;>first|exact Out.pure _ |exact Out.no
 case sl.nilsl k xs=>
  unfold qa7;cases q0 i.cls 3<;>cases o<;>first|exact Out.pure _ |exact Out.no
 case agg.agg l m=>
  intro E h;simp only[qa7]at h⊢;cases h1:i.eq<;>simp only[h1]at h⊢
  cases o<;>simp only at h⊢
  .exact Out.bind (G:=fun r(E:AV->Prop)=>E (.bool r)) (zte i.z l m) (fun r=>Out.pure _) E h
  .exact Out.bind (G:=fun r(E:AV->Prop)=>E (.bool !r)) (zte i.z l m) (fun r=>Out.pure _) E h
theorem zt5(c:CT)(A:List AV)(ids:List Nat)(bs:List Blk):qd (app c A ids bs):=by
 intro E h;obtain⟨bs',r,hc,hk⟩:=h;unfold app;split at hk
 .rename_i h1 h2 h3 h4 h5;exact⟨r,bs',hk,fun E' he=>⟨bs',r,hc,by rw[h1,h2,h3,h4,h5];exact he⟩⟩
 .exact hk.elim
theorem zku:∀(n:Nat)(bs:List Blk),Out (zkw n bs)
 |0,bs=>by intro E h;simp only[zkw]at h⊢;exact⟨bs,h,fun _ h=>h⟩
 |n+1,[]=>by intro E h;simp[zkw]at h
 |n+1,b::bs=>by
  intro E h;cases b<;>simp only[zkw]at h⊢
  exact zku n bs E h
theorem zwv(c:CT)(n dst:Nat)(A:List AV)(ids:List Nat)(bs:List Blk):qd (appN c n dst A ids bs):=by
 intro E h;unfold appN at h⊢;refine qd.bind (zku n bs) (fun bs=>?_) E h;intro E h;obtain⟨bs',nbs,r,hc,hk⟩:=h;split at hk
 .rename_i h1 h2 h3 h4 h5 h6 h7 h8 h9 h10;exact⟨_,_,hk,fun E' he=>⟨bs',nbs,r,hc,by rw[h1,h2,h3,h4,h5,h6,h7,h8,h9,h10];exact he⟩⟩
 .exact hk.elim
theorem zbp(T:Tab)(t:Nat){G:Elt->Elt->TI->(AV->List Blk->Prop)->Prop}(hG:∀a b i,qd (G a b i)):qd fun E=>zgx T t fun a b i=>G a b i E:=by
 intro E h;unfold zgx at h⊢;refine qd.bind (ve T t) (fun i=>?_) E h;intro E h;split at h
 .refine qd.bind (ve T _) (fun j=>?_) E h;intro E h;split at h
  .refine qd.bind (ve T _) (fun v=>?_) E h;intro E h;split at h
   .split at h
    .rename_i e1 _ e2;simp only[e1,e2];exact hG _ _ _ E h
    .exact h.elim
   .exact h.elim
  .exact h.elim
 .exact h.elim
theorem zvx(T:Tab)(t:Nat)(x i:AV)(ok:Bool)(bs:List Blk):qd (lkOp T t x i ok bs):=by
 intro E h;unfold lkOp at h⊢;refine zbp T t (fun kk vk v=>?_) E h;intro E h;split at h
 .split at h
  .rename_i h1 h2 h3;simp only[h1,h2,h3];refine qd.bind (yn _ _) (fun key=>qd.bind (yn _ _) (fun z=>qd.bind (zir _ _ _) fun u=>?_)) E h;intro E h;cases ok
   .exact⟨_,_,h,fun _ h=>h⟩
   .exact⟨_,_,h,fun _ h=>h⟩
  .exact h.elim
 .exact h.elim
theorem znr(T:Tab)(t:Nat)(m x y:AV)(bs:List Blk):qd (qdk T t m x y bs):=by
 intro E h;unfold qdk at h⊢;refine zbp T t (fun kk vk v=>?_) E h;intro E h;split at h
 .split at h
  .rename_i h1 h2 h3 h4;simp only[h1,h2,h3,h4];exact qd.bind (yn _ _) (fun key=>qd.bind (yn _ _) (fun z=>qd.pure _ _)) E h
  .exact h.elim
 .exact h.elim
theorem ug(x:Option AV)(d:Int):Out (zbe x d):=by
 intro E h;unfold zbe at h⊢;split at h
 .exact⟨_,h,fun _ h=>h⟩
 .exact⟨_,h,fun _ h=>h⟩
 .exact h.elim
theorem zu8(i:TI)(x:AV)(lo hi mx:Option AV):qd (qbp i x lo hi mx):=by
 intro E h;unfold qbp at h⊢
 cases mx with
 |some y=>
  simp only at h⊢;split at h
  .split at h
   .rename_i e1 e2
    try simp only[e1,e2]
    exact qd.bind (ug _ _) (fun l=>qd.and (qd.pure _ _)) E h
   .exact h.elim
  .exact h.elim
 |none=>
  simp only at h⊢;cases x<;>simp only at h⊢
  case str s=>
   cases e:q0 i.cls 5<;>simp only[e]at h⊢
   exact qd.bind (ug _ _) (fun l=>qd.bind (ug _ _) fun u=>qd.and (qd.pure _ _)) E h
  case nilsl=>
   cases e:q0 i.cls 3<;>simp only[e]at h⊢
   exact qd.bind (ug _ _) (fun l=>qd.bind (ug _ _) fun u=>qd.and (qd.pure _ _)) E h
  case sl k xs=>
   cases e:q0 i.cls 3<;>cases e':q0 i.esz k.size<;>simp only[e,e']at h⊢
   exact qd.bind (ug _ _) (fun l=>qd.bind (ug _ _) fun u=>qd.and (qd.pure _ _)) E h
theorem zss(bs:List Blk):qd (zpv bs):=by
 intro E h;unfold zpv at h⊢;split at h
 .exact⟨_,_,h,fun _ h=>h⟩
 .exact h.elim
theorem zsr(i:TI)(x:AV)(bs:List Blk):qd (zj9 i x bs):=by
 cases x<;>try exact qd.no
 case str s=>unfold zj9;cases q0 i.cls 5<;>first|exact qd.pure _ _ |exact qd.no
 case nilsl=>unfold zj9;cases q0 i.cls 3<;>first|exact qd.pure _ _ |exact qd.no
 case sl k xs=>unfold zj9;cases q0 i.cls 3<;>first|exact qd.pure _ _ |exact qd.no
 case ow=>unfold zj9;cases q0 i.cls 3<;>first|exact qd.pure _ _ |exact qd.no
 case own id=>
  intro E h;unfold zj9 at h⊢;simp only at h⊢;split at h
  .exact⟨_,_,h,fun _ h=>h⟩
  .exact h.elim
theorem zt6(T:Tab)(i:TI)(dst:Nat)(s x:AV)(bs:List Blk):qd (zwu T i dst s x bs):=by
 intro E h;unfold zwu at h;split at h
 .refine qd.bind (ve T _) (fun j=>?_) E h;intro E h;split at h
  .rename_i esz _ _ _ _ _ _ _ sz _ _ _ _ k _ _ bytes _;split at h
   .split at h
    .exact qd.bind (zm6 _ x) (fun ys=>qd.and (qd.pure _ _)) E h
    .split at h
     .rename_i h1 h2 h3;simp only[h1,h2,h3];exact qd.bind (zm6 _ x) (fun ys=>qd.and (qd.pure _ _)) E h
     .exact h.elim
    .exact h.elim
   .exact h.elim
  .exact h.elim
 .exact h.elim
set_option maxHeartbeats 1000000 in
theorem qaq(T:Tab)(C:Con)(op:Op)(dst:Nat)(ρ:Operand->AV)(ids:List Nat)(bs:List Blk):qd (ql T C op dst ρ ids bs):=by
 intro E h
 cases op with
 |move x=>exact⟨_,_,h,fun _ h=>h⟩
 |assign x=>exact⟨_,_,h,fun _ h=>h⟩
 |pick c a b=>
  simp only[ql]at h⊢;cases e:ρ c<;>simp only[e]at h⊢
  rename_i t;cases t
  .exact⟨_,_,h,fun _ h=>h⟩
  .exact⟨_,_,h,fun _ h=>h⟩
 |alloc t=>
  simp only[ql]at h⊢;split at h
  .exact qd.bind (ve T t) (fun i=>qd.pure _ _) E h
  .exact h.elim
 |box t x=>
  simp only[ql]at h⊢;split at h
  .rename_i e;(try simp only[e]);exact⟨_,_,h,fun _ h=>h⟩
  .exact h.elim
 |build t ps=>
  simp only[ql]at h⊢;refine qd.bind (ve T t) (fun i=>?_) E h;intro E h;split at h
  .exact qd.bind (zkn _ _ _) (fun l=>qd.pure _ _) E h
  .exact qd.bind (zkp _ _ _) (fun l=>qd.pure _ _) E h
  .exact h.elim
 |buildSlice t n ps=>
  simp only[ql]at h⊢;refine qd.bind (ve T t) (fun i=>?_) E h;intro E h;split at h
  .refine qd.bind (ve T _) (fun j=>?_) E h;intro E h;split at h
   .split at h
    .split at h
     .split at h
      .rename_i e;(try simp only[*]);exact⟨_,_,h,fun _ h=>h⟩
      .exact h.elim
     .split at h
      .try simp only[*]
       exact qd.bind (zg6 _ _) (fun l=>qd.pure _ _) E h
      .exact h.elim
    .exact h.elim
   .exact h.elim
  .exact h.elim
 |makeSlice t l c=>
  simp only[ql]at h⊢;refine qd.bind (ve T t) (fun i=>?_) E h;intro E h;split at h
  .refine qd.bind (ve T _) (fun j=>?_) E h;intro E h;split at h
   .split at h
    .rename_i e1 e2 e3 e4 e5 _;simp only[e1,e2,e3,e4,e5];exact qd.bind (yn _ _) (fun x=>qd.and (qd.pure _ _)) E h
    .exact h.elim
   .exact h.elim
  .exact h.elim
 |load t p=>
  simp only[ql]at h⊢;cases e:ρ p<;>simp only[e]at h⊢
  case ptr i off=>
   split at h
   .exact qd.bind (ve T t) (fun i=>qd.bind (zir i _ off) fun v=>qd.pure _ _) E h
   .exact h.elim
  case rp k x off=>exact qd.bind (ve T t) (fun i=>qd.bind (zir i _ off) fun v=>qd.pure _ _) E h
  case opt i sz j off=>
   split at h
   .split at h
    .rename_i e;try simp only[e]
     exact qd.idx _ _ (fun h=>h) (fun x=>qd.bind (ve T t) (fun i=>qd.bind (zir i _ off) fun v=>qd.pure _ _)) E h
    .exact h.elim
   .exact h.elim
 |store t p v=>
  simp only[ql]at h⊢;refine qd.bind (ve T t) (fun i=>?_) E h;intro E h;cases e1:zst (ρ v).cs i.sz<;>cases e2:zdw (ρ v).cs <;>simp only[e1,e2]at h⊢
  split at h
  .rename_i e;(try simp only[e]at h⊢);split at h
   .exact qd.bind (zfq _ _ _) (fun l=>qd.pure _ _) E h
   .exact h.elim
  .rename_i e;(try simp only[e]at h⊢);split at h
   .split at h
    .rename_i e3 e4;try simp only[e3,e4]
     exact qd.bind (yn _ _) (fun l=>qd.and (qd.pure _ _)) E h
    .exact h.elim
   .exact h.elim
  .exact h.elim
 |nilCheck x=>
  simp only[ql]at h⊢;cases e:ρ x<;>simp only[e]at h⊢ <;>exact⟨_,_,h,fun _ h=>h⟩
 |binOp o t x y ty=>
  simp only[ql]at h⊢;exact qd.bind (ve T t) (fun i=>qd.bind (zwq _ _ _ _) fun v=>qd.pure _ _) E h
 |unOp o t x=>
  simp only[ql]at h⊢;cases o<;>cases e:ρ x<;>simp only[e]at h⊢ <;>exact⟨_,_,h,fun _ h=>h⟩
 |convert s d x=>
  simp only[ql]at h⊢;refine qd.bind (ve T s) (fun j=>qd.bind (ve T d) (fun i=>?_)) E h;intro E h;cases e:ρ x<;>simp only[e]at h⊢
  .split at h
   .exact⟨_,_,h,fun _ h=>h⟩
   .exact h.elim
  .split at h
   .rename_i e1 e2;(try simp only[e1,e2]);exact⟨_,_,h,fun _ h=>h⟩
   .exact h.elim
 |makeFunc f x y=>
  simp only[ql]at h⊢;split at h
  .rename_i e;(try simp only[e]);exact⟨_,_,h,fun _ h=>h⟩
  .exact h.elim
 |fieldAddr t x f=>
  simp only[ql]at h⊢;refine qd.bind (ve T t) (fun i=>?_) E h;intro E h;split at h
  .refine zf5 (fun o s a=>?_) _ _ E h;intro E h;cases e:ρ x<;>simp only[e]at h⊢ <;>exact⟨_,_,h,fun _ h=>h⟩
  .exact h.elim
 |field t x f=>
  simp only[ql]at h⊢;refine qd.bind (ve T t) (fun i=>?_) E h;intro E h;split at h
  .rename_i e;try simp only[e]
   exact zf5 (fun o s a=>qd.bind (zjw _ _ _ _) fun v=>qd.pure _ _) _ _ E h
  .exact h.elim
 |indexAddr t x i=>
  simp only[ql]at h⊢;refine qd.bind (ve T t) (fun ti=>?_) E h;intro E h;cases e:ρ i<;>simp only[e]at h⊢
  rename_i kk n;split at h
  .cases e2:ρ x<;>simp only[e2]at h⊢
   .split at h
    .rename_i e3;try simp only[e3]
     exact qd.and (qd.pure _ _) E h
    .exact h.elim
   .split at h
    .rename_i e3;try simp only[e3]
     exact qd.idx _ _ (fun h=>O) (fun x=>qd.pure _ _) E h
    .exact h.elim
   .split at h
    .split at h
     .rename_i e3;try simp only[e3]
      exact qd.and (qd.pure _ _) E h
     .exact h.elim
    .exact h.elim
  .cases e2:ρ x<;>simp only[e2]at h⊢ <;>exact qd.and (qd.pure _ _) E h
  .exact h.elim
 |index t x i=>
  simp only[ql]at h⊢;refine qd.bind (ve T t) (fun ti=>?_) E h;intro E h;split at h
  .rename_i e1 e2 e3;try simp only[e1,e2,e3]
   exact qd.idx _ _ (fun h=>O) (fun x=>qd.pure _ _) E h
  .rename_i e1 e2 e3;try simp only[e1,e2,e3]
   split at h
   .rename_i e4;try simp only[e4]
    refine qd.bind (ve T _) (fun tj=>?_) E h;intro E h;exact qd.and (qd.bind (zjw _ _ _ _) fun v=>qd.pure _ _) E h
   .exact h.elim
  .exact h.elim
 |extract x n=>
  simp only[ql]at h⊢;cases e:ρ x<;>simp only[e]at h⊢
  refine qd.bind (zcj _ _ _) (fun r=>?_) E h;intro E h;split at h
  .exact⟨_,_,h,fun _ h=>h⟩
  .exact h.elim
 |call c=>
  cases hc:c.callee with
  |value f=>
   simp only[ql,hc]at h⊢;cases e:ρ f<;>simp only[e]at h⊢
   case fn g caps=>
    cases e2:zxq T g<;>simp only[e2]at h⊢
    .exact qd.bind (ziz _) (fun A=>zt5 _ A ids bs) E h
    .exact qd.bind (ziz _) (fun A=>zwv _ _ _ A ids bs) E h
   case cb l=>exact qd.bind (ziz _) (fun A=>zt5 _ A ids bs) E h
  |invoke r m=>simp[ql,hc]at h
  |builtin b=>
   cases b with
   |len=>
    simp only[ql,hc]at h⊢;split at h
    .rename_i e1 e2;try simp only[e1,e2]
     split at h
     .rename_i e3;try simp only[e3]
      exact zbp T _ (fun _ _ _=>zss _) E h
     .rename_i e3;try simp only[e3]
      exact qd.bind (ve T _) (fun i=>zsr _ _ _) E h
    .exact h.elim
   |append=>
    simp only[ql,hc]at h⊢;split at h
    .rename_i e1 e2;try simp only[e1,e2]
     split at h
     .rename_i e3;try simp only[e3]
      exact qd.bind (ve T _) (fun i=>zt6 _ _ _ _ _ _) E h
     .exact h.elim
    .exact h.elim
   |max=>
    simp only[ql,hc]at h⊢;split at h
    .rename_i e1;(try simp only[e1]);exact⟨_,_,h,fun _ h=>h⟩
    .rename_i e1;(try simp only[e1]);exact⟨_,_,h,fun _ h=>h⟩
    .exact h.elim
   |min=>
    simp only[ql,hc]at h⊢;split at h
    .rename_i e1;(try simp only[e1]);exact⟨_,_,h,fun _ h=>h⟩
    .exact h.elim
   | _=>simp[ql,hc]at h
 |makeMap t r=>
  simp only[ql]at h⊢;refine zbp T t (fun kk vk v=>?_) E h;intro E h;split at h
  .rename_i e1;simp only[e1];exact⟨_,_,h,fun _ h=>h⟩
  .exact h.elim
 |lookup t x i ok=>exact zvx _ _ _ _ _ _ E h
 |mapUpdate t m k v=>exact znr _ _ _ _ _ _ E h
 |insert t m k v=>exact znr _ _ _ _ _ _ E h
 |slice t x lo hi mx=>
  simp only[ql]at h⊢;refine qd.bind (ve T t) (fun i=>?_) E h;intro E h
  cases hwn:qdw T hi with
  |true=>
   simp only[hwn]at h⊢;split at h
   .rename_i e1 e2 e3 e4;try simp only[e1,e2,e3,e4]
    split at h
    .rename_i e5 e6;try simp only[e5,e6]
     exact qd.and (qd.pure _ _) E h
    .exact h.elim
   .exact h.elim
  |false=>simp only[hwn]at h⊢;exact zu8 _ _ _ _ _ E h
 | _=>exact False.elim h
