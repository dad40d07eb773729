/- What an operation yields can be drawn out of the execution: effO is a value and blocks, handed on. -/
import Derived.Test.YtbolipecnhlnnaaGreatDoorVSxO
set_option linter.all false
open Nat renaming beq->q0
namespace Go.Sx
open Go
def Out{α:Type}(F:(α->Prop)->Prop):Prop:=∀E:α->Prop,F E->∃x,E x/\∀E':α->Prop,E' x->F E'
def ql(F:(AV->List Blk->Prop)->Prop):Prop:=∀E:AV->List Blk->Prop,F E->∃r bs,E r bs/\∀E':AV->List Blk->Prop,E' r bs->F E'
theorem Out.pure{α:Type}(x:α):Out fun E:α->Prop=>E x:=fun _ h=>⟨x,h,fun _ h=>h⟩
theorem Out.no{α:Type}:Out fun _:α->Prop=>False:=fun _ h=>h.elim
theorem Out.bind{α β:Type}{F:(α->Prop)->Prop}{G:α->(β->Prop)->Prop}(hF:Out F)(hG:∀x,Out (G x)):Out fun E=>F fun x=>G x E:=fun E h=>by
 obtain⟨x,h1,h2⟩:=hF _ h;obtain⟨y,h3,h4⟩:=hG x E h1;grind
theorem Out.and{α:Type}{p:Prop}{F:(α->Prop)->Prop}(hF:Out F):Out fun E=>p/\F E:=fun E h=>by
 obtain⟨x,h1,h2⟩:=hF E h.2;grind
theorem ql.pure(r:AV)(bs:List Blk):ql fun E=>E r bs:=fun _ h=>⟨r,bs,h,fun _ h=>h⟩
theorem ql.no:ql fun _=>False:=fun _ h=>h.elim
theorem ql.bind{α:Type}{F:(α->Prop)->Prop}{G:α->(AV->List Blk->Prop)->Prop}(hF:Out F)(hG:∀x,ql (G x)):ql fun E=>F fun x=>G x E:=fun E h=>by
 obtain⟨x,h1,h2⟩:=hF _ h;obtain⟨y,bs,h3,h4⟩:=hG x E h1;grind
theorem ql.and{p:Prop}{F:(AV->List Blk->Prop)->Prop}(hF:ql F):ql fun E=>p/\F E:=fun E h=>by
 obtain⟨x,bs,h1,h2⟩:=hF E h.2;grind
theorem ql.idx{α:Type}(xs:List α)(j:Nat){p:Prop}(hp:p->j<xs.length){G:α->(AV->List Blk->Prop)->Prop}(hG:∀x,ql (G x)):ql fun E=>p/\∀x,xs[j]? =some x->G x E:=fun E h=>by
 have hj:=hp h.1;have hx:xs[j]? =some xs[j]:=List.getElem?_eq_getElem hj;obtain⟨r,bs,h1,h2⟩:=hG _ E (h.2 _ hx);grind
theorem zt9:∀(T:List (Nat×TI))(t:Nat),Out (tgL T t)
 | [],_=>Out.no
 |(a,i)::r,t=>by
  intro E h;simp only[tgL]at h⊢
  cases e:q0 a t with
  |true=>grind
  |false=>simp only[e]at h⊢;exact zt9 r t E h
theorem wp(T:Tab)(t:Nat):Out (tgK T t):=zt9 T.ty t
theorem zl7(l:List AV):Out (zkm l):=fun E h=>⟨l,(wc l E).1 h,fun E' he=>(wc l E').2 he⟩
theorem zel:∀(l:List AV)(o n:Nat),Out (cut l o n)
 |l,0,0=>by intro E h;grind[cut]
 |a::l,0,n+1=>by
  have:=Out.bind (G:=fun r(k:List AV->Prop)=>k (a::r)) (zel l 0 n) fun r=>Out.pure _
  simp_all[cut]
 | [],0,_+1=>by intro E h;simp[cut]at h
 | _::l,off+1,n=>by intro E h;simp only[cut]at h⊢;exact zel l off n E h
 | [],_+1,_=>by intro E h;simp[cut]at h
theorem zid:∀(l:List AV)(o:Nat)(m:List AV),Out (lay l o m)
 |l,0,[]=>by intro E h;grind[lay]
 | _::l,0,b::m=>by
   have:=Out.bind (G:=fun r(k:List AV->Prop)=>k (b::r)) (zid l 0 m) fun r=>Out.pure _
   simp_all[lay]
 | [],0,_::_=>by intro E h;simp[lay]at h
 |a::l,off+1,m=>by
  have:=Out.bind (G:=fun r(k:List AV->Prop)=>k (a::r)) (zid l off m) fun r=>Out.pure _
  simp_all[lay]
 | [],_+1,m=>by intro E h;simp[lay]at h
theorem zv1(l:List AV):Out fun E:AV->Prop=>match l with
 | [a]=>E a
 | _=>False:=by
 intro E h;grind
theorem zlz(i:TI)(l:List AV)(off:Nat):Out (ldK i l off):=by
 intro E h;unfold ldK at h⊢
 cases e:i.agg with
 |true=>simp only[e]at h⊢;exact Out.bind (G:=fun r(E:AV->Prop)=>E (.agg r)) (zel l off i.sz) (fun r=>Out.pure _) E h
 |false=>simp only[e]at h⊢;exact Out.bind (zel l off 1) (fun r=>zv1 r) E h
theorem zm4(l:List AV)(o s:Nat)(a:Bool):Out (zs4 l o s a):=by
 intro E h;unfold zs4 at h⊢
 cases a with
 |true=>exact Out.bind (G:=fun r(E:AV->Prop)=>E (.agg r)) (zel l o s) (fun r=>Out.pure _) E h
 |false=>exact Out.bind (zel l o 1) (fun r=>zv1 r) E h
theorem zir{G:Nat->Nat->Bool->(AV->List Blk->Prop)->Prop}(hG:∀o s a,ql (G o s a)):∀(fs:List (Nat×Nat×Bool))(f:Nat),ql fun E=>zdu fs f fun o s a=>G o s a E
 |(o,s,a)::_,0=>by intro E h;simp only[zdu]at h⊢;exact hG o s a E h
 |(_,_,_)::r,f+1=>by intro E h;simp only[zdu]at h⊢;exact zir hG r f E h
 | [],_=>by intro E h;simp[zdu]at h
theorem zkn{α:Type}{G:Nat->Nat->Bool->(α->Prop)->Prop}(hG:∀o s a,Out (G o s a)):∀(fs:List (Nat×Nat×Bool))(f:Nat),Out fun E=>zdu fs f fun o s a=>G o s a E
 |(o,s,a)::_,0=>by intro E h;simp only[zdu]at h⊢;exact hG o s a E h
 |(_,_,_)::r,f+1=>by intro E h;simp only[zdu]at h⊢;exact zkn hG r f E h
 | [],_=>by intro E h;simp[zdu]at h
theorem znz(fs:List (Nat×Nat×Bool)):∀(ps:List (Nat×AV))(z:List AV),Out (zn0 fs ps z)
 | [],z=>by intro E h;grind[zn0]
 |(f,v)::r,z=>by
  intro E h;simp only[zn0]at h⊢;refine zkn (fun o s _=>?_) fs f E h;intro E h;cases h1:zwl v.cs s<;>cases h2:zf2 v.cs<;>simp only[h1,h2]at h⊢
  exact Out.bind (zid z o v.cs) (fun z=>znz fs r z) E h
theorem zn1(s:Nat):∀(ps:List (Nat×AV))(z:List AV),Out (zn2 s ps z)
 | [],z=>by intro E h;grind[zn2]
 |(f,v)::r,z=>by
  intro E h;simp only[zn2]at h⊢;cases h1:zwl v.cs s<;>cases h2:zf2 v.cs<;>simp only[h1,h2]at h⊢
  exact Out.bind (zid z (f*s) v.cs) (fun z=>zn1 s r z) E h
theorem jr(a:AV):Out (zkl a):=by
 intro E h;unfold zkl at h;split at h
 .exact⟨_,h,fun _ h=>h⟩
 grind
theorem zfn(a:AV):Out (znw a):=by
 intro E h;unfold znw at h;split at h
 .exact⟨_,h,fun _ h=>h⟩
 grind
theorem qa0(a:AV):Out (qh7 a):=by
 intro E h;unfold qh7 at h;split at h
 .exact⟨_,h,fun _ h=>h⟩
 grind
theorem zl5(a:AV):Out (qf7 a):=by
 intro E h;unfold qf7 at h;split at h
 .exact⟨_,h,fun _ h=>h⟩
 grind
theorem qa3(a:AV):Out (qh8 a):=by
 intro E h;unfold qh8 at h;split at h
 .exact⟨_,h,fun _ h=>h⟩
 .exact⟨_,h,fun _ h=>h⟩
 grind
theorem zwy(a:AV):Out (gLs a):=by
 intro E h;unfold gLs at h;split at h
 .exact⟨_,h,fun _ h=>h⟩
 .exact⟨_,h,fun _ h=>h⟩
 grind
theorem qf8(a:AV):Out (gIs a):=by
 intro E h;unfold gIs at h;split at h
 .exact⟨_,h,fun _ h=>h⟩
 .exact⟨_,h,fun _ h=>h⟩
 grind
theorem qga(l:List AV):Out fun E:Dy×List AV->Prop=>gDy l fun e r=>E (e,r):=by
 intro E h;unfold gDy at h;split at h
 .exact Out.bind (zfn _) (fun _=>Out.bind (zwy _) fun _=>Out.bind (jr _) fun _=>Out.pure (_,_)) E h
 grind
theorem zbn{α:Type}{l:List AV}{G:Dy->List AV->(α->Prop)->Prop}(hG:∀e r,Out (G e r)):Out fun E=>gDy l fun e r=>G e r E:=
 Out.bind (F:=fun E:Dy×List AV->Prop=>gDy l fun e r=>E (e,r)) (G:=fun x=>G x.1 x.2) (qga l) fun x=>hG _ _
theorem qf9(l:List AV):Out fun E:Ex×List AV->Prop=>gEx l fun e r=>E (e,r):=by
 intro E h;unfold gEx at h;split at h
 .exact Out.bind (jr _) (fun _=>Out.bind (jr _) fun _=>Out.bind (jr _) fun _=>Out.bind (zl5 _) fun _=>Out.bind (jr _) fun _=>
   Out.bind (qa3 _) fun _=>Out.pure (_,_)) E h
 grind
theorem zhj{α:Type}{l:List AV}{G:Ex->List AV->(α->Prop)->Prop}(hG:∀e r,Out (G e r)):Out fun E=>gEx l fun e r=>G e r E:=
 Out.bind (F:=fun E:Ex×List AV->Prop=>gEx l fun e r=>E (e,r)) (G:=fun x=>G x.1 x.2) (qf9 l) fun x=>hG _ _
theorem zan:∀(k:Elt)(l:List AV),Out (wa k l)
 |.ex,l=>by
   intro E h;simp only[wa]at h⊢;refine zhj (fun e r=>?_) E h;intro E h;grind
 |.ls,[s]=>fun E h=>zwy s E h
 |.ls,[]=>fun _ h=>False.elim h
 |.ls,_::_::_=>fun _ h=>False.elim h
 |.dy,l=>by
   intro E h;simp only[wa]at h⊢;refine zbn (fun e r=>?_) E h;intro E h;grind
 |.iv,l=>by
   intro E h;simp only[wa]at h⊢;refine zbn (fun e r=>zbn (fun e' r'=>?_)) E h;intro E h;split at h
   .exact Out.bind (zfn _) (fun _=>Out.pure _) E h
   grind
 |.dd,l=>by
   intro E h;simp only[wa]at h⊢;refine zbn (fun e r=>zbn (fun e' r'=>?_)) E h;intro E h;grind
 |.vs,[s]=>fun E h=>qf8 s E h
 |.vs,[]=>fun _ h=>False.elim h
 |.vs,_::_::_=>fun _ h=>False.elim h
 |.ki,[]=>fun _ h=>False.elim h
 |.ki,s::l=>by
   intro E h;simp only[wa]at h⊢;refine Out.bind (jr s) (fun s=>zbn (fun e r=>zbn (fun e' r'=>?_))) E h;intro E h;split at h
   .exact Out.bind (zfn _) (fun _=>Out.pure _) E h
   grind
 |.eqn,s::l=>by
   intro E h;simp only[wa]at h⊢;refine Out.bind (zl5 s) (fun s=>zhj (fun e r=>?_)) E h;intro E h;grind
 |.ex2,l=>by
   intro E h;simp only[wa]at h⊢;refine zhj (fun e r=>zhj (fun e' r'=>?_)) E h;intro E h;grind
 |.eqn,[]=>fun _ h=>False.elim h
 |.str,[s]=>fun E h=>zl5 s E h
 |.str,[]=>fun _ h=>False.elim h
 |.str,_::_::_=>fun _ h=>False.elim h
 |.int,[s]=>fun E h=>jr s E h
 |.int,[]=>fun _ h=>False.elim h
 |.int,_::_::_=>fun _ h=>False.elim h
 |.bool,[s]=>fun E h=>zfn s E h
 |.bool,[]=>fun _ h=>False.elim h
 |.bool,_::_::_=>fun _ h=>False.elim h
 |.u32,[s]=>fun E h=>qa0 s E h
 |.u32,[]=>fun _ h=>False.elim h
 |.u32,_::_::_=>fun _ h=>False.elim h
 |.rat,[a,b]=>fun E h=>Out.bind (jr a) (fun _=>Out.bind (jr b) fun _=>Out.pure _) E h
 |.rat,[]=>fun _ h=>False.elim h
 |.rat,[_]=>fun _ h=>False.elim h
 |.rat,_::_::_::_=>fun _ h=>False.elim h
 |.op,[a,b,c,d,e,f]=>fun E h=>Out.bind (jr a) (fun _=>Out.bind (jr b) fun _=>Out.bind (jr c) fun _=>Out.bind (jr d) fun _=>Out.bind (jr e) fun _=>Out.bind (jr f) fun _=>Out.pure _) E h
 |.op,[]=>fun _ h=>False.elim h
 |.op,[_]=>fun _ h=>False.elim h
 |.op,[_,_]=>fun _ h=>False.elim h
 |.op,[_,_,_]=>fun _ h=>False.elim h
 |.op,[_,_,_,_]=>fun _ h=>False.elim h
 |.op,[_,_,_,_,_]=>fun _ h=>False.elim h
 |.op,_::_::_::_::_::_::_::_=>fun _ h=>False.elim h
theorem zjy(k:Elt):∀l:List AV,Out (ze4 k l)
 | []=>by intro E h;grind[ze4]
 |a::l=>by
  intro E h;simp only[ze4]at h⊢;exact Out.bind (zan k a.cs) (fun x=>Out.bind (G:=fun xs(K:List k.T->Prop)=>K (x::xs)) (zjy k l) fun xs=>Out.pure _) E h
theorem zqn(k:Elt)(a:AV):Out (qeu k a):=by
 intro E h;unfold qeu at h;split at h<;>first|exact h.elim|exact⟨_,h,fun _ h=>h⟩
theorem zw5:∀(z l m:List AV),Out (eqZ z l m):=by
 intro z
 induction z with
 |nil=>
  intro l m
  cases l with
  |nil=>
   cases m with
   |nil=>exact fun E h=>⟨true,h,fun _ h=>h⟩
   |cons b m=>exact fun E h=>False.elim h
  |cons a l=>exact fun E h=>False.elim h
 |cons x z ih=>
  intro l m
  cases x with
  |int k n=>
   cases k<;>first|exact fun E h=>False.elim h|skip
   cases l with
   |nil=>exact fun E h=>False.elim h
   |cons a l=>
    cases a with
    |int k a=>
     cases k<;>first|exact fun E h=>False.elim h|skip
     cases m with
     |nil=>exact fun E h=>False.elim h
     |cons b m=>
      cases b with
      |int k b=>
       cases k<;>first|exact fun E h=>False.elim h|skip
       exact Out.bind (G:=fun r(k:Bool->Prop)=>k (a==b&&r)) (ih l m) (fun r=>Out.pure _)
      | _=>exact fun E h=>False.elim h
    | _=>exact fun E h=>False.elim h
  |str s=>
   cases l with
   |nil=>exact fun E h=>False.elim h
   |cons a l=>
    cases a with
    |str a=>
     cases m with
     |nil=>exact fun E h=>False.elim h
     |cons b m=>
      cases b with
      |str b=>exact Out.bind (G:=fun r(k:Bool->Prop)=>k (a==b&&r)) (ih l m) (fun r=>Out.pure _)
      | _=>exact fun E h=>False.elim h
    | _=>exact fun E h=>False.elim h
  |bool s=>
   cases l with
   |nil=>exact fun E h=>False.elim h
   |cons a l=>
    cases a with
    |bool a=>
     cases m with
     |nil=>exact fun E h=>False.elim h
     |cons b m=>
      cases b with
      |bool b=>exact Out.bind (G:=fun r(k:Bool->Prop)=>k (a==b&&r)) (ih l m) (fun r=>Out.pure _)
      | _=>exact fun E h=>False.elim h
    | _=>exact fun E h=>False.elim h
  | _=>exact fun E h=>False.elim h
theorem zl2(o:BinOp)(k:IntKind)(a b:Int):Out (qf4 o k a b):=by
 cases o<;>first|exact Out.pure _ |exact Out.and (Out.pure _)
theorem zzg(o:BinOp)(a b:zg):Out (strB o a b):=by
 cases o<;>first|exact Out.pure _ |exact Out.and (Out.pure _)|exact Out.no
theorem qbn(i:TI)(o:BinOp)(x y:AV):Out (qg7 i o x y):=by
 cases x<;>cases y<;>try exact Out.no
 case int.int k a k' b=>
  intro E h;cases o<;>simp only[qg7]at h⊢
  case shl=>exact zl2 _ _ _ _ E h
  case shr=>exact zl2 _ _ _ _ E h
  all_goals (cases hk:zpg k k'<;>simp only[hk]at h⊢;exact zl2 _ _ _ _ E h)
 case str.str a b=>exact zzg _ _ _
 case bool.bool a b=>
  unfold qg7;cases q0 i.cls 6<;>cases o<;>first|exact Out.pure _ |exact Out.no
 case sl.nilsl k xs=>
  unfold qg7;cases q0 i.cls 3<;>cases o<;>first|exact Out.pure _ |exact Out.no
 case agg.agg l m=>
  intro E h;simp only[qg7]at h⊢;cases h1:i.eq<;>simp only[h1]at h⊢
  cases o<;>simp only at h⊢
  .exact Out.bind (G:=fun r(E:AV->Prop)=>E (.bool r)) (zw5 i.z l m) (fun r=>Out.pure _) E h
  .exact Out.bind (G:=fun r(E:AV->Prop)=>E (.bool !r)) (zw5 i.z l m) (fun r=>Out.pure _) E h
theorem zx6(c:CT)(A:List AV)(ids:List Nat)(bs:List Blk):ql (app c A ids bs):=by
 intro E h;grind[app]
theorem zn8:∀(n:Nat)(bs:List Blk),Out (zoa n bs)
 |0,bs=>by intro E h;grind[zoa]
 |n+1,[]=>by intro E h;simp[zoa]at h
 |n+1,b::bs=>by
  intro E h;cases b<;>simp only[zoa]at h⊢
  exact zn8 n bs E h
theorem qbq(c:CT)(n dst:Nat)(A:List AV)(ids:List Nat)(bs:List Blk):ql (appN c n dst A ids bs):=by
 intro E h;unfold appN at h⊢;refine ql.bind (zn8 n bs) (fun bs=>?_) E h;intro E h;grind
theorem zc8(T:Tab)(t:Nat){G:Elt->Elt->TI->(AV->List Blk->Prop)->Prop}(hG:∀a b i,ql (G a b i)):ql fun E=>zjg T t fun a b i=>G a b i E:=by
 intro E h;unfold zjg at h⊢;refine ql.bind (wp T t) (fun i=>?_) E h;intro E h;split at h
 .refine ql.bind (wp T _) (fun j=>?_) E h;intro E h;split at h
  .refine ql.bind (wp T _) (fun v=>?_) E h;intro E h;split at h
   .split at h
    .rename_i e1 _ e2;simp only[e1,e2];exact hG _ _ _ E h
    grind
   grind
  grind
 grind
theorem qao(T:Tab)(t:Nat)(x i:AV)(ok:Bool)(bs:List Blk):ql (lkOp T t x i ok bs):=by
 intro E h;unfold lkOp at h⊢;refine zc8 T t (fun kk vk v=>?_) E h;intro E h;split at h
 .split at h
  .rename_i h1 h2 h3;simp only[h1,h2,h3];refine ql.bind (zan _ _) (fun key=>ql.bind (zan _ _) (fun z=>ql.bind (zlz _ _ _) fun u=>?_)) E h;intro E h;grind
  grind
 grind
theorem zq8(T:Tab)(t:Nat)(m x y:AV)(bs:List Blk):ql (qj1 T t m x y bs):=by
 intro E h;unfold qj1 at h⊢;refine zc8 T t (fun kk vk v=>?_) E h;intro E h;split at h
 .split at h
  .rename_i h1 h2 h3 h4;simp only[h1,h2,h3,h4];exact ql.bind (zan _ _) (fun key=>ql.bind (zan _ _) (fun z=>ql.pure _ _)) E h
  grind
 grind
theorem yu(x:Option AV)(d:Int):Out (zcr x d):=by
 intro E h;unfold zcr at h⊢;grind
theorem zzm(i:TI)(x:AV)(lo hi mx:Option AV):ql (qht i x lo hi mx):=by
 intro E h;unfold qht at h⊢
 cases mx with
 |some y=>
  simp only at h⊢;split at h
  .split at h
   .rename_i e1 e2
    try simp only[e1,e2]
    exact ql.bind (yu _ _) (fun l=>ql.and (ql.pure _ _)) E h
   grind
  grind
 |none=>
  simp only at h⊢;cases x<;>simp only at h⊢
  case str s=>
   cases e:q0 i.cls 5<;>simp only[e]at h⊢
   exact ql.bind (yu _ _) (fun l=>ql.bind (yu _ _) fun u=>ql.and (ql.pure _ _)) E h
  case nilsl=>
   cases e:q0 i.cls 3<;>simp only[e]at h⊢
   exact ql.bind (yu _ _) (fun l=>ql.bind (yu _ _) fun u=>ql.and (ql.pure _ _)) E h
  case sl k xs=>
   cases e:q0 i.cls 3<;>cases e':q0 i.esz k.size<;>simp only[e,e']at h⊢
   exact ql.bind (yu _ _) (fun l=>ql.bind (yu _ _) fun u=>ql.and (ql.pure _ _)) E h
theorem zwk(bs:List Blk):ql (ztb bs):=by
 intro E h;unfold ztb at h⊢;grind
theorem zwj(i:TI)(x:AV)(bs:List Blk):ql (znk i x bs):=by
 cases x<;>try exact ql.no
 case str s=>unfold znk;cases q0 i.cls 5<;>first|exact ql.pure _ _ |exact ql.no
 case nilsl=>unfold znk;cases q0 i.cls 3<;>first|exact ql.pure _ _ |exact ql.no
 case sl k xs=>unfold znk;cases q0 i.cls 3<;>first|exact ql.pure _ _ |exact ql.no
 case ow=>unfold znk;cases q0 i.cls 3<;>first|exact ql.pure _ _ |exact ql.no
 case own id=>
  intro E h;unfold znk at h⊢;grind
theorem zx7(T:Tab)(i:TI)(dst:Nat)(s x:AV)(bs:List Blk):ql (qbp T i dst s x bs):=by
 intro E h;unfold qbp at h;split at h
 .refine ql.bind (wp T _) (fun j=>?_) E h;intro E h;split at h
  .rename_i esz _ _ _ _ _ _ _ sz _ _ _ _ k _ _ bytes _;split at h
   .split at h
    .exact ql.bind (zqn _ x) (fun ys=>ql.and (ql.pure _ _)) E h
    .split at h
     .rename_i h1 h2 h3;simp only[h1,h2,h3];exact ql.bind (zqn _ x) (fun ys=>ql.and (ql.pure _ _)) E h
     grind
    grind
   grind
  grind
 grind
set_option maxHeartbeats 1000000 in
theorem qgi(T:Tab)(C:Con)(op:Op)(dst:Nat)(ρ:Operand->AV)(ids:List Nat)(bs:List Blk):ql (qw T C op dst ρ ids bs):=by
 intro E h
 cases op with
 |move x=>exact⟨_,_,h,fun _ h=>h⟩
 |assign x=>exact⟨_,_,h,fun _ h=>h⟩
 |pick c a b=>
  simp only[qw]at h⊢;cases e:ρ c<;>simp only[e]at h⊢
  rename_i t;cases t
  .grind
  grind
 |alloc t=>
  simp only[qw]at h⊢;split at h
  .exact ql.bind (wp T t) (fun i=>ql.pure _ _) E h
  grind
 |box t x=>
  simp only[qw]at h⊢;grind
 |build t ps=>
  simp only[qw]at h⊢;refine ql.bind (wp T t) (fun i=>?_) E h;intro E h;split at h
  .exact ql.bind (znz _ _ _) (fun l=>ql.pure _ _) E h
  .exact ql.bind (zn1 _ _ _) (fun l=>ql.pure _ _) E h
  grind
 |buildSlice t n ps=>
  simp only[qw]at h⊢;refine ql.bind (wp T t) (fun i=>?_) E h;intro E h;split at h
  .refine ql.bind (wp T _) (fun j=>?_) E h;intro E h;split at h
   .split at h
    .split at h
     .grind
     .split at h
      .try simp only[*]
       exact ql.bind (zjy _ _) (fun l=>ql.pure _ _) E h
      grind
    grind
   grind
  grind
 |makeSlice t l c=>
  simp only[qw]at h⊢;refine ql.bind (wp T t) (fun i=>?_) E h;intro E h;split at h
  .refine ql.bind (wp T _) (fun j=>?_) E h;intro E h;split at h
   .split at h
    .rename_i e1 e2 e3 e4 e5 _;simp only[e1,e2,e3,e4,e5];exact ql.bind (zan _ _) (fun x=>ql.and (ql.pure _ _)) E h
    grind
   grind
  grind
 |load t p=>
  simp only[qw]at h⊢;cases e:ρ p<;>simp only[e]at h⊢
  case ptr i off=>
   split at h
   .exact ql.bind (wp T t) (fun i=>ql.bind (zlz i _ off) fun v=>ql.pure _ _) E h
   grind
  case rp k x off=>exact ql.bind (wp T t) (fun i=>ql.bind (zlz i _ off) fun v=>ql.pure _ _) E h
  case opt i sz j off=>
   split at h
   .split at h
    .rename_i e;try simp only[e]
     exact ql.idx _ _ (fun h=>h) (fun x=>ql.bind (wp T t) (fun i=>ql.bind (zlz i _ off) fun v=>ql.pure _ _)) E h
    grind
   grind
 |store t p v=>
  simp only[qw]at h⊢;refine ql.bind (wp T t) (fun i=>?_) E h;intro E h;cases e1:zwl (ρ v).cs i.sz<;>cases e2:zf2 (ρ v).cs <;>simp only[e1,e2]at h⊢
  split at h
  .rename_i e;(try simp only[e]at h⊢);split at h
   .exact ql.bind (zid _ _ _) (fun l=>ql.pure _ _) E h
   grind
  .rename_i e;(try simp only[e]at h⊢);split at h
   .split at h
    .rename_i e3 e4;try simp only[e3,e4]
     exact ql.bind (zan _ _) (fun l=>ql.and (ql.pure _ _)) E h
    grind
   grind
  grind
 |nilCheck x=>
  simp only[qw]at h⊢;grind
 |binOp o t x y ty=>
  simp only[qw]at h⊢;exact ql.bind (wp T t) (fun i=>ql.bind (qbn _ _ _ _) fun v=>ql.pure _ _) E h
 |unOp o t x=>
  simp only[qw]at h⊢;grind
 |convert s d x=>
  simp only[qw]at h⊢;refine ql.bind (wp T s) (fun j=>ql.bind (wp T d) (fun i=>?_)) E h;intro E h;grind
 |makeFunc f x y=>
  simp only[qw]at h⊢;grind
 |fieldAddr t x f=>
  simp only[qw]at h⊢;refine ql.bind (wp T t) (fun i=>?_) E h;intro E h;split at h
  .refine zir (fun o s a=>?_) _ _ E h;intro E h;grind
  grind
 |field t x f=>
  simp only[qw]at h⊢;refine ql.bind (wp T t) (fun i=>?_) E h;intro E h;split at h
  .rename_i e;try simp only[e]
   exact zir (fun o s a=>ql.bind (zm4 _ _ _ _) fun v=>ql.pure _ _) _ _ E h
  grind
 |indexAddr t x i=>
  simp only[qw]at h⊢;refine ql.bind (wp T t) (fun ti=>?_) E h;intro E h;cases e:ρ i<;>simp only[e]at h⊢
  rename_i kk n;split at h
  .cases e2:ρ x<;>simp only[e2]at h⊢
   .grind
   .split at h
    .rename_i e3;try simp only[e3]
     exact ql.idx _ _ (fun h=>O) (fun x=>ql.pure _ _) E h
    grind
   grind
  .grind
  grind
 |index t x i=>
  simp only[qw]at h⊢;refine ql.bind (wp T t) (fun ti=>?_) E h;intro E h;split at h
  .rename_i e1 e2 e3;try simp only[e1,e2,e3]
   exact ql.idx _ _ (fun h=>O) (fun x=>ql.pure _ _) E h
  .rename_i e1 e2 e3;try simp only[e1,e2,e3]
   split at h
   .rename_i e4;try simp only[e4]
    refine ql.bind (wp T _) (fun tj=>?_) E h
    simp_all[ql.and,ql.bind,zm4,ql.pure]
   grind
  grind
 |extract x n=>
  simp only[qw]at h⊢;cases e:ρ x<;>simp only[e]at h⊢
  refine ql.bind (zel _ _ _) (fun r=>?_) E h;intro E h;grind
 |call c=>
  cases hc:c.callee with
  |value f=>
   simp only[qw,hc]at h⊢;cases e:ρ f<;>simp only[e]at h⊢
   case fn g caps=>
    cases e2:qfm T g<;>simp only[e2]at h⊢
    .exact ql.bind (zl7 _) (fun A=>zx6 _ A ids bs) E h
    .exact ql.bind (zl7 _) (fun A=>qbq _ _ _ A ids bs) E h
   case cb l=>exact ql.bind (zl7 _) (fun A=>zx6 _ A ids bs) E h
  |invoke r m=>simp[qw,hc]at h
  |builtin b=>
   cases b with
   |len=>
    simp only[qw,hc]at h⊢;split at h
    .rename_i e1 e2;try simp only[e1,e2]
     split at h
     .rename_i e3;try simp only[e3]
      exact zc8 T _ (fun _ _ _=>zwk _) E h
     .rename_i e3;try simp only[e3]
      exact ql.bind (wp T _) (fun i=>zwj _ _ _) E h
    grind
   |append=>
    simp only[qw,hc]at h⊢;split at h
    .rename_i e1 e2;try simp only[e1,e2]
     split at h
     .rename_i e3;try simp only[e3]
      exact ql.bind (wp T _) (fun i=>zx7 _ _ _ _ _ _) E h
     grind
    grind
   |max=>
    simp only[qw,hc]at h⊢;grind
   |min=>
    simp only[qw,hc]at h⊢;grind
   | _=>simp[qw,hc]at h
 |makeMap t r=>
  simp only[qw]at h⊢;refine zc8 T t (fun kk vk v=>?_) E h;intro E h;grind
 |lookup t x i ok=>exact qao _ _ _ _ _ _ E h
 |mapUpdate t m k v=>exact zq8 _ _ _ _ _ _ E h
 |insert t m k v=>exact zq8 _ _ _ _ _ _ E h
 |slice t x lo hi mx=>
  simp only[qw]at h⊢;refine ql.bind (wp T t) (fun i=>?_) E h;intro E h
  cases hwn:qkk T hi with
  |true=>
   grind
  |false=>simp only[hwn]at h⊢;exact zzm _ _ _ _ _ E h
 | _=>exact False.elim h
