/- What an operation yields can be drawn out of the execution: effO is a value and blocks, handed on. -/
import Derived.Test.YtlbmkjbgfkgcmaaGreatDoorTSxO
set_option linter.all false
open Nat renaming beq->q0
namespace Go.Sx
open Go
def Out{α:Type}(F:(α->Prop)->Prop):Prop:=∀E:α->Prop,F E->∃x,E x/\∀E':α->Prop,E' x->F E'
def qc(F:(AV->List Blk->Prop)->Prop):Prop:=∀E:AV->List Blk->Prop,F E->∃r bs,E r bs/\∀E':AV->List Blk->Prop,E' r bs->F E'
theorem Out.pure{α:Type}(x:α):Out fun E:α->Prop=>E x:=fun _ h=>⟨x,h,fun _ h=>h⟩
theorem Out.no{α:Type}:Out fun _:α->Prop=>False:=fun _ h=>h.elim
theorem Out.bind{α β:Type}{F:(α->Prop)->Prop}{G:α->(β->Prop)->Prop}(hF:Out F)(hG:∀x,Out (G x)):Out fun E=>F fun x=>G x E:=fun E h=>by
 obtain⟨x,h1,h2⟩:=hF _ h;obtain⟨y,h3,h4⟩:=hG x E h1;exact⟨y,h3,fun E' he=>h2 _ (h4 E' he)⟩
theorem Out.and{α:Type}{p:Prop}{F:(α->Prop)->Prop}(hF:Out F):Out fun E=>p/\F E:=fun E h=>by
 obtain⟨x,h1,h2⟩:=hF E h.2;exact⟨x,h1,fun E' he=>⟨h.1,h2 E' he⟩⟩
theorem qc.pure(r:AV)(bs:List Blk):qc fun E=>E r bs:=fun _ h=>⟨r,bs,h,fun _ h=>h⟩
theorem qc.no:qc fun _=>False:=fun _ h=>h.elim
theorem qc.bind{α:Type}{F:(α->Prop)->Prop}{G:α->(AV->List Blk->Prop)->Prop}(hF:Out F)(hG:∀x,qc (G x)):qc fun E=>F fun x=>G x E:=fun E h=>by
 obtain⟨x,h1,h2⟩:=hF _ h;obtain⟨y,bs,h3,h4⟩:=hG x E h1;exact⟨y,bs,h3,fun E' he=>h2 _ (h4 E' he)⟩
theorem qc.and{p:Prop}{F:(AV->List Blk->Prop)->Prop}(hF:qc F):qc fun E=>p/\F E:=fun E h=>by
 obtain⟨x,bs,h1,h2⟩:=hF E h.2;exact⟨x,bs,h1,fun E' he=>⟨h.1,h2 E' he⟩⟩
theorem qc.idx{α:Type}(xs:List α)(j:Nat){p:Prop}(hp:p->j<xs.length){G:α->(AV->List Blk->Prop)->Prop}(hG:∀x,qc (G x)):qc fun E=>p/\∀x,xs[j]? =some x->G x E:=fun E h=>by
 have hj:=hp h.1;have hx:xs[j]? =some xs[j]:=List.getElem?_eq_getElem hj;obtain⟨r,bs,h1,h2⟩:=hG _ E (h.2 _ hx);exact⟨r,bs,h1,fun E' he=>⟨h.1,fun y hy=>by rw[hx]at hy;cases hy;exact h2 E' he⟩⟩
theorem zrh:∀(T:List (Nat×TI))(t:Nat),Out (tgL T t)
 | [],_=>Out.no
 |(a,i)::r,t=>by
  intro E h;simp only[tgL]at h⊢
  cases e:q0 a t with
  |true=>simp only[e]at h⊢;exact⟨i,h,fun _ h=>h⟩
  |false=>simp only[e]at h⊢;exact zrh r t E h
theorem vg(T:Tab)(t:Nat):Out (tgK T t):=zrh T.ty t
theorem zkc(l:List AV):Out (zkd l):=fun E h=>⟨l,(vf l E).1 h,fun E' he=>(vf l E').2 he⟩
theorem zdf:∀(l:List AV)(o n:Nat),Out (cut l o n)
 |l,0,0=>by intro E h;cases l<;>(simp only[cut]at h⊢;exact⟨[],h,fun _ h=>h⟩)
 |a::l,0,n+1=>by
  have:=Out.bind (G:=fun r(k:List AV->Prop)=>k (a::r)) (zdf l 0 n) fun r=>Out.pure _
  intro E h;simp only[cut]at h⊢;exact this E h
 | [],0,_+1=>by intro E h;simp[cut]at h
 | _::l,off+1,n=>by intro E h;simp only[cut]at h⊢;exact zdf l off n E h
 | [],_+1,_=>by intro E h;simp[cut]at h
theorem zey:∀(l:List AV)(o:Nat)(m:List AV),Out (lay l o m)
 |l,0,[]=>by intro E h;cases l<;>(simp only[lay]at h⊢;exact⟨_,h,fun _ h=>h⟩)
 | _::l,0,b::m=>by
   have:=Out.bind (G:=fun r(k:List AV->Prop)=>k (b::r)) (zey l 0 m) fun r=>Out.pure _
   intro E h;simp only[lay]at h⊢;exact this E h
 | [],0,_::_=>by intro E h;simp[lay]at h
 |a::l,off+1,m=>by
  have:=Out.bind (G:=fun r(k:List AV->Prop)=>k (a::r)) (zey l off m) fun r=>Out.pure _
  intro E h;simp only[lay]at h⊢;exact this E h
 | [],_+1,m=>by intro E h;simp[lay]at h
theorem zs3(l:List AV):Out fun E:AV->Prop=>match l with
 | [a]=>E a
 | _=>False:=by
 intro E h;split at h
 .exact⟨_,h,fun _ h=>h⟩
 .exact h.elim
theorem zj7(i:TI)(l:List AV)(off:Nat):Out (ldK i l off):=by
 intro E h;unfold ldK at h⊢
 cases e:i.agg with
 |true=>simp only[e]at h⊢;exact Out.bind (G:=fun r(E:AV->Prop)=>E (.agg r)) (zdf l off i.sz) (fun r=>Out.pure _) E h
 |false=>simp only[e]at h⊢;exact Out.bind (zdf l off 1) (fun r=>zs3 r) E h
theorem zk8(l:List AV)(o s:Nat)(a:Bool):Out (zqi l o s a):=by
 intro E h;unfold zqi at h⊢
 cases a with
 |true=>exact Out.bind (G:=fun r(E:AV->Prop)=>E (.agg r)) (zdf l o s) (fun r=>Out.pure _) E h
 |false=>exact Out.bind (zdf l o 1) (fun r=>zs3 r) E h
theorem zg8{G:Nat->Nat->Bool->(AV->List Blk->Prop)->Prop}(hG:∀o s a,qc (G o s a)):∀(fs:List (Nat×Nat×Bool))(f:Nat),qc fun E=>zcy fs f fun o s a=>G o s a E
 |(o,s,a)::_,0=>by intro E h;simp only[zcy]at h⊢;exact hG o s a E h
 |(_,_,_)::r,f+1=>by intro E h;simp only[zcy]at h⊢;exact zg8 hG r f E h
 | [],_=>by intro E h;simp[zcy]at h
theorem zi3{α:Type}{G:Nat->Nat->Bool->(α->Prop)->Prop}(hG:∀o s a,Out (G o s a)):∀(fs:List (Nat×Nat×Bool))(f:Nat),Out fun E=>zcy fs f fun o s a=>G o s a E
 |(o,s,a)::_,0=>by intro E h;simp only[zcy]at h⊢;exact hG o s a E h
 |(_,_,_)::r,f+1=>by intro E h;simp only[zcy]at h⊢;exact zi3 hG r f E h
 | [],_=>by intro E h;simp[zcy]at h
theorem zl2(fs:List (Nat×Nat×Bool)):∀(ps:List (Nat×AV))(z:List AV),Out (zl3 fs ps z)
 | [],z=>by intro E h;simp only[zl3]at h⊢;exact⟨z,h,fun _ h=>h⟩
 |(f,v)::r,z=>by
  intro E h;simp only[zl3]at h⊢;refine zi3 (fun o s _=>?_) fs f E h;intro E h;cases h1:zti v.cs s<;>cases h2:zeq v.cs<;>simp only[h1,h2]at h⊢
  exact Out.bind (zey z o v.cs) (fun z=>zl2 fs r z) E h
theorem zl4(s:Nat):∀(ps:List (Nat×AV))(z:List AV),Out (zl5 s ps z)
 | [],z=>by intro E h;simp only[zl5]at h⊢;exact⟨z,h,fun _ h=>h⟩
 |(f,v)::r,z=>by
  intro E h;simp only[zl5]at h⊢;cases h1:zti v.cs s<;>cases h2:zeq v.cs<;>simp only[h1,h2]at h⊢
  exact Out.bind (zey z (f*s) v.cs) (fun z=>zl4 s r z) E h
theorem jh(a:AV):Out (zi2 a):=by
 intro E h;unfold zi2 at h;split at h
 .exact⟨_,h,fun _ h=>h⟩
 .exact h.elim
theorem zeg(a:AV):Out (zlz a):=by
 intro E h;unfold zlz at h;split at h
 .exact⟨_,h,fun _ h=>h⟩
 .exact h.elim
theorem zw5(a:AV):Out (qc3 a):=by
 intro E h;unfold qc3 at h;split at h
 .exact⟨_,h,fun _ h=>h⟩
 .exact h.elim
theorem qa8(a:AV):Out (gU8 a):=by
 intro E h;unfold gU8 at h;split at h
 .exact⟨_,h,fun _ h=>h⟩
 .exact h.elim
theorem ztv:∀l:List AV,Out (gFl l)
 | []=>fun E h=>⟨_,h,fun _ h=>h⟩
 |a::l=>fun E h=>by
  have ih:=ztv l;unfold gFl at h⊢;split at h
  .rename_i e;cases e
  .rename_i n r k e;injection e with e1 e2
   subst e1;subst e2;exact Out.bind ih (fun _=>Out.pure _) _ h
  .exact h.elim
theorem qbb(a:AV):Out (gFk a):=by
 intro E h;unfold gFk at h⊢;split at h
 .exact⟨_,h,fun _ h=>h⟩
 .exact Out.bind (ztv _) (fun _=>Out.pure _) E h
 .exact h.elim
theorem zka(a:AV):Out (qa9 a):=by
 intro E h;unfold qa9 at h;split at h
 .exact⟨_,h,fun _ h=>h⟩
 .exact h.elim
theorem zw9(a:AV):Out (qc4 a):=by
 intro E h;unfold qc4 at h;split at h
 .exact⟨_,h,fun _ h=>h⟩
 .exact⟨_,h,fun _ h=>h⟩
 .exact h.elim
theorem ztu(a:AV):Out (gLs a):=by
 intro E h;unfold gLs at h;split at h
 .exact⟨_,h,fun _ h=>h⟩
 .exact⟨_,h,fun _ h=>h⟩
 .exact h.elim
theorem qba(a:AV):Out (gIs a):=by
 intro E h;unfold gIs at h;split at h
 .exact⟨_,h,fun _ h=>h⟩
 .exact⟨_,h,fun _ h=>h⟩
 .exact h.elim
theorem qbd(l:List AV):Out fun E:Dy×List AV->Prop=>gDy l fun e r=>E (e,r):=by
 intro E h;unfold gDy at h;split at h
 .exact Out.bind (zeg _) (fun _=>Out.bind (ztu _) fun _=>Out.bind (jh _) fun _=>Out.pure (_,_)) E h
 .exact h.elim
theorem za6{α:Type}{l:List AV}{G:Dy->List AV->(α->Prop)->Prop}(hG:∀e r,Out (G e r)):Out fun E=>gDy l fun e r=>G e r E:=
 Out.bind (F:=fun E:Dy×List AV->Prop=>gDy l fun e r=>E (e,r)) (G:=fun x=>G x.1 x.2) (qbd l) fun x=>hG _ _
theorem qbc(l:List AV):Out fun E:Ex×List AV->Prop=>gEx l fun e r=>E (e,r):=by
 intro E h;unfold gEx at h;split at h
 .exact Out.bind (jh _) (fun _=>Out.bind (jh _) fun _=>Out.bind (jh _) fun _=>Out.bind (zka _) fun _=>Out.bind (jh _) fun _=>
   Out.bind (zw9 _) fun _=>Out.pure (_,_)) E h
 .exact h.elim
theorem zf4{α:Type}{l:List AV}{G:Ex->List AV->(α->Prop)->Prop}(hG:∀e r,Out (G e r)):Out fun E=>gEx l fun e r=>G e r E:=
 Out.bind (F:=fun E:Ex×List AV->Prop=>gEx l fun e r=>E (e,r)) (G:=fun x=>G x.1 x.2) (qbc l) fun x=>hG _ _
theorem ye:∀(k:Elt)(l:List AV),Out (qf k l)
 |.ex,l=>by
   intro E h;simp only[qf]at h⊢;refine zf4 (fun e r=>?_) E h;intro E h
   cases r with
   |nil=>exact⟨_,h,fun _ h=>h⟩
   |cons _ _=>exact h.elim
 |.ls,[s]=>fun E h=>ztu s E h
 |.ls,[]=>fun _ h=>False.elim h
 |.ls,_::_::_=>fun _ h=>False.elim h
 |.dy,l=>by
   intro E h;simp only[qf]at h⊢;refine za6 (fun e r=>?_) E h;intro E h
   cases r with
   |nil=>exact⟨_,h,fun _ h=>h⟩
   |cons _ _=>exact h.elim
 |.iv,l=>by
   intro E h;simp only[qf]at h⊢;refine za6 (fun e r=>za6 (fun e' r'=>?_)) E h;intro E h;split at h
   .exact Out.bind (zeg _) (fun _=>Out.pure _) E h
   .exact h.elim
 |.dd,l=>by
   intro E h;simp only[qf]at h⊢;refine za6 (fun e r=>za6 (fun e' r'=>?_)) E h;intro E h
   cases r' with
   |nil=>exact⟨_,h,fun _ h=>h⟩
   |cons _ _=>exact h.elim
 |.vs,[s]=>fun E h=>qba s E h
 |.vs,[]=>fun _ h=>False.elim h
 |.vs,_::_::_=>fun _ h=>False.elim h
 |.ki,[]=>fun _ h=>False.elim h
 |.ki,s::l=>by
   intro E h;simp only[qf]at h⊢;refine Out.bind (jh s) (fun s=>za6 (fun e r=>za6 (fun e' r'=>?_))) E h;intro E h;split at h
   .exact Out.bind (zeg _) (fun _=>Out.pure _) E h
   .exact h.elim
 |.eqn,s::l=>by
   intro E h;simp only[qf]at h⊢;refine Out.bind (zka s) (fun s=>zf4 (fun e r=>?_)) E h;intro E h
   cases r with
   |nil=>exact⟨_,h,fun _ h=>h⟩
   |cons _ _=>exact h.elim
 |.ex2,l=>by
   intro E h;simp only[qf]at h⊢;refine zf4 (fun e r=>zf4 (fun e' r'=>?_)) E h;intro E h
   cases r' with
   |nil=>exact⟨_,h,fun _ h=>h⟩
   |cons _ _=>exact h.elim
 |.eqn,[]=>fun _ h=>False.elim h
 |.str,[s]=>fun E h=>zka s E h
 |.str,[]=>fun _ h=>False.elim h
 |.str,_::_::_=>fun _ h=>False.elim h
 |.int,[s]=>fun E h=>jh s E h
 |.int,[]=>fun _ h=>False.elim h
 |.int,_::_::_=>fun _ h=>False.elim h
 |.bool,[s]=>fun E h=>zeg s E h
 |.bool,[]=>fun _ h=>False.elim h
 |.bool,_::_::_=>fun _ h=>False.elim h
 |.u8,[s]=>fun E h=>qa8 s E h
 |.u8,[]=>fun _ h=>False.elim h
 |.u8,_::_::_=>fun _ h=>False.elim h
 |.fk,[s]=>fun E h=>qbb s E h
 |.fk,[]=>fun _ h=>False.elim h
 |.fk,_::_::_=>fun _ h=>False.elim h
 |.f0,l=>fun _ h=>by simp[qf]at h
 |.u32,[s]=>fun E h=>zw5 s E h
 |.u32,[]=>fun _ h=>False.elim h
 |.u32,_::_::_=>fun _ h=>False.elim h
 |.rat,[a,b]=>fun E h=>Out.bind (jh a) (fun _=>Out.bind (jh b) fun _=>Out.pure _) E h
 |.rat,[]=>fun _ h=>False.elim h
 |.rat,[_]=>fun _ h=>False.elim h
 |.rat,_::_::_::_=>fun _ h=>False.elim h
 |.op,[a,b,c,d,e,f]=>fun E h=>Out.bind (jh a) (fun _=>Out.bind (jh b) fun _=>Out.bind (jh c) fun _=>Out.bind (jh d) fun _=>Out.bind (jh e) fun _=>Out.bind (jh f) fun _=>Out.pure _) E h
 |.op,[]=>fun _ h=>False.elim h
 |.op,[_]=>fun _ h=>False.elim h
 |.op,[_,_]=>fun _ h=>False.elim h
 |.op,[_,_,_]=>fun _ h=>False.elim h
 |.op,[_,_,_,_]=>fun _ h=>False.elim h
 |.op,[_,_,_,_,_]=>fun _ h=>False.elim h
 |.op,_::_::_::_::_::_::_::_=>fun _ h=>False.elim h
theorem zik(k:Elt):∀l:List AV,Out (zff k l)
 | []=>by intro E h;simp only[zff]at h⊢;exact⟨_,h,fun _ h=>h⟩
 |a::l=>by
  intro E h;simp only[zff]at h⊢;exact Out.bind (ye k a.cs) (fun x=>Out.bind (G:=fun xs(K:List k.T->Prop)=>K (x::xs)) (zik k l) fun xs=>Out.pure _) E h
theorem zoc(k:Elt)(a:AV):Out (zz5 k a):=by
 intro E h;unfold zz5 at h;split at h<;>first|exact h.elim|exact⟨_,h,fun _ h=>h⟩
theorem zt2:∀(z l m:List AV),Out (eqZ z l m):=by
 intro z
 induction z with
 |nil=>
  intro l m
  cases l with
  |nil=>
   cases m with
   |nil=>exact fun E h=>⟨true,h,fun _ h=>h⟩
   |cons b m=>exact fun E h=>False.elim h
  |cons a l=>exact fun E h=>False.elim h
 |cons x z ih=>
  intro l m
  cases x with
  |int k n=>
   cases k<;>first|exact fun E h=>False.elim h|skip
   cases l with
   |nil=>exact fun E h=>False.elim h
   |cons a l=>
    cases a with
    |int k a=>
     cases k<;>first|exact fun E h=>False.elim h|skip
     cases m with
     |nil=>exact fun E h=>False.elim h
     |cons b m=>
      cases b with
      |int k b=>
       cases k<;>first|exact fun E h=>False.elim h|skip
       exact Out.bind (G:=fun r(k:Bool->Prop)=>k (a==b&&r)) (ih l m) (fun r=>Out.pure _)
      | _=>exact fun E h=>False.elim h
    | _=>exact fun E h=>False.elim h
  |str s=>
   cases l with
   |nil=>exact fun E h=>False.elim h
   |cons a l=>
    cases a with
    |str a=>
     cases m with
     |nil=>exact fun E h=>False.elim h
     |cons b m=>
      cases b with
      |str b=>exact Out.bind (G:=fun r(k:Bool->Prop)=>k (a==b&&r)) (ih l m) (fun r=>Out.pure _)
      | _=>exact fun E h=>False.elim h
    | _=>exact fun E h=>False.elim h
  |bool s=>
   cases l with
   |nil=>exact fun E h=>False.elim h
   |cons a l=>
    cases a with
    |bool a=>
     cases m with
     |nil=>exact fun E h=>False.elim h
     |cons b m=>
      cases b with
      |bool b=>exact Out.bind (G:=fun r(k:Bool->Prop)=>k (a==b&&r)) (ih l m) (fun r=>Out.pure _)
      | _=>exact fun E h=>False.elim h
    | _=>exact fun E h=>False.elim h
  | _=>exact fun E h=>False.elim h
theorem zj8(o:BinOp)(k:IntKind)(a b:Int):Out (qa5 o k a b):=by
 cases o<;>first|exact Out.pure _ |exact Out.and (Out.pure _)
theorem zvs(o:BinOp)(a b:zb7):Out (strB o a b):=by
 cases o<;>first|exact Out.pure _ |exact Out.and (Out.pure _)|exact Out.no
theorem zxo(i:TI)(o:BinOp)(x y:AV):Out (qb7 i o x y):=by
 cases x<;>cases y<;>try exact Out.no
 case int.int k a k' b=>
  intro E h;cases o<;>simp only[qb7]at h⊢
  case shl=>exact zj8 _ _ _ _ E h
  case shr=>exact zj8 _ _ _ _ E h
  all_goals (cases hk:znd k k'<;>simp only[hk]at h⊢;exact zj8 _ _ _ _ E h)
 case str.str a b=>exact zvs _ _ _
 case bool.bool a b=>
  unfold qb7;cases q0 i.cls 6<;>cases o<;>first|exact Out.pure _ |exact Out.no
 case sl.nilsl k xs=>
  unfold qb7;cases q0 i.cls 3<;>cases o<;>first|exact Out.pure _ |exact Out.no
 case agg.agg l m=>
  intro E h;simp only[qb7]at h⊢;cases h1:i.eq<;>simp only[h1]at h⊢
  cases o<;>simp only at h⊢
  .exact Out.bind (G:=fun r(E:AV->Prop)=>E (.bool r)) (zt2 i.z l m) (fun r=>Out.pure _) E h
  .exact Out.bind (G:=fun r(E:AV->Prop)=>E (.bool !r)) (zt2 i.z l m) (fun r=>Out.pure _) E h
theorem zus(c:CT)(A:List AV)(ids:List Nat)(bs:List Blk):qc (app c A ids bs):=by
 intro E h;obtain⟨bs',r,hc,hk⟩:=h;unfold app;split at hk
 .rename_i h1 h2 h3 h4 h5;exact⟨r,bs',hk,fun E' he=>⟨bs',r,hc,by rw[h1,h2,h3,h4,h5];exact he⟩⟩
 .exact hk.elim
theorem zl9:∀(n:Nat)(bs:List Blk),Out (zmb n bs)
 |0,bs=>by intro E h;simp only[zmb]at h⊢;exact⟨bs,h,fun _ h=>h⟩
 |n+1,[]=>by intro E h;simp[zmb]at h
 |n+1,b::bs=>by
  intro E h;cases b<;>simp only[zmb]at h⊢
  exact zl9 n bs E h
theorem zxs(c:CT)(n dst:Nat)(A:List AV)(ids:List Nat)(bs:List Blk):qc (appN c n dst A ids bs):=by
 intro E h;unfold appN at h⊢;refine qc.bind (zl9 n bs) (fun bs=>?_) E h;intro E h;obtain⟨bs',nbs,r,hc,hk⟩:=h;split at hk
 .rename_i h1 h2 h3 h4 h5 h6 h7 h8 h9 h10;exact⟨_,_,hk,fun E' he=>⟨bs',nbs,r,hc,by rw[h1,h2,h3,h4,h5,h6,h7,h8,h9,h10];exact he⟩⟩
 .exact hk.elim
theorem zcg(T:Tab)(t:Nat){G:Elt->Elt->TI->(AV->List Blk->Prop)->Prop}(hG:∀a b i,qc (G a b i)):qc fun E=>zh1 T t fun a b i=>G a b i E:=by
 intro E h;unfold zh1 at h⊢;refine qc.bind (vg T t) (fun i=>?_) E h;intro E h;split at h
 .refine qc.bind (vg T _) (fun j=>?_) E h;intro E h;split at h
  .refine qc.bind (vg T _) (fun v=>?_) E h;intro E h;split at h
   .split at h
    .rename_i e1 _ e2;simp only[e1,e2];exact hG _ _ _ E h
    .exact h.elim
   .exact h.elim
  .exact h.elim
 .exact h.elim
theorem zws(T:Tab)(t:Nat)(x i:AV)(ok:Bool)(bs:List Blk):qc (lkOp T t x i ok bs):=by
 intro E h;unfold lkOp at h⊢;refine zcg T t (fun kk vk v=>?_) E h;intro E h;split at h
 .split at h
  .rename_i h1 h2 h3;simp only[h1,h2,h3];refine qc.bind (ye _ _) (fun key=>qc.bind (ye _ _) (fun z=>qc.bind (zj7 _ _ _) fun u=>?_)) E h;intro E h;cases ok
   .exact⟨_,_,h,fun _ h=>h⟩
   .exact⟨_,_,h,fun _ h=>h⟩
  .exact h.elim
 .exact h.elim
theorem zo0(T:Tab)(t:Nat)(m x y:AV)(bs:List Blk):qc (qej T t m x y bs):=by
 intro E h;unfold qej at h⊢;refine zcg T t (fun kk vk v=>?_) E h;intro E h;split at h
 .split at h
  .rename_i h1 h2 h3 h4;simp only[h1,h2,h3,h4];exact qc.bind (ye _ _) (fun key=>qc.bind (ye _ _) (fun z=>qc.pure _ _)) E h
  .exact h.elim
 .exact h.elim
theorem uz(x:Option AV)(d:Int):Out (zby x d):=by
 intro E h;unfold zby at h⊢;split at h
 .exact⟨_,h,fun _ h=>h⟩
 .exact⟨_,h,fun _ h=>h⟩
 .exact h.elim
theorem zvx(i:TI)(x:AV)(lo hi mx:Option AV):qc (qco i x lo hi mx):=by
 intro E h;unfold qco at h⊢
 cases mx with
 |some y=>
  simp only at h⊢;split at h
  .split at h
   .rename_i e1 e2
    try simp only[e1,e2]
    exact qc.bind (uz _ _) (fun l=>qc.and (qc.pure _ _)) E h
   .exact h.elim
  .exact h.elim
 |none=>
  simp only at h⊢;cases x<;>simp only at h⊢
  case str s=>
   cases e:q0 i.cls 5<;>simp only[e]at h⊢
   exact qc.bind (uz _ _) (fun l=>qc.bind (uz _ _) fun u=>qc.and (qc.pure _ _)) E h
  case nilsl=>
   cases e:q0 i.cls 3<;>simp only[e]at h⊢
   exact qc.bind (uz _ _) (fun l=>qc.bind (uz _ _) fun u=>qc.and (qc.pure _ _)) E h
  case sl k xs=>
   cases e:q0 i.cls 3<;>cases e':q0 i.esz k.size<;>simp only[e,e']at h⊢
   exact qc.bind (uz _ _) (fun l=>qc.bind (uz _ _) fun u=>qc.and (qc.pure _ _)) E h
theorem zth(bs:List Blk):qc (zqm bs):=by
 intro E h;unfold zqm at h⊢;split at h
 .exact⟨_,_,h,fun _ h=>h⟩
 .exact h.elim
theorem ztg(i:TI)(x:AV)(bs:List Blk):qc (zlm i x bs):=by
 cases x<;>try exact qc.no
 case str s=>unfold zlm;cases q0 i.cls 5<;>first|exact qc.pure _ _ |exact qc.no
 case nilsl=>unfold zlm;cases q0 i.cls 3<;>first|exact qc.pure _ _ |exact qc.no
 case sl k xs=>unfold zlm;cases q0 i.cls 3<;>first|exact qc.pure _ _ |exact qc.no
 case ow=>unfold zlm;cases q0 i.cls 3<;>first|exact qc.pure _ _ |exact qc.no
 case own id=>
  intro E h;unfold zlm at h⊢;simp only at h⊢;split at h
  .exact⟨_,_,h,fun _ h=>h⟩
  .exact h.elim
theorem zut(T:Tab)(i:TI)(dst:Nat)(s x:AV)(bs:List Blk):qc (zxr T i dst s x bs):=by
 intro E h;unfold zxr at h;split at h
 .refine qc.bind (vg T _) (fun j=>?_) E h;intro E h;split at h
  .rename_i esz _ _ _ _ _ _ _ sz _ _ _ _ k _ _ bytes _;split at h
   .split at h
    .exact qc.bind (zoc _ x) (fun ys=>qc.and (qc.pure _ _)) E h
    .split at h
     .rename_i h1 h2 h3;simp only[h1,h2,h3];exact qc.bind (zoc _ x) (fun ys=>qc.and (qc.pure _ _)) E h
     .exact h.elim
    .exact h.elim
   .exact h.elim
  .exact h.elim
 .exact h.elim
set_option maxHeartbeats 1000000 in
theorem qbl(T:Tab)(C:Con)(op:Op)(dst:Nat)(ρ:Operand->AV)(ids:List Nat)(bs:List Blk):qc (qo T C op dst ρ ids bs):=by
 intro E h
 cases op with
 |move x=>exact⟨_,_,h,fun _ h=>h⟩
 |assign x=>exact⟨_,_,h,fun _ h=>h⟩
 |pick c a b=>
  simp only[qo]at h⊢;cases e:ρ c<;>simp only[e]at h⊢
  rename_i t;cases t
  .exact⟨_,_,h,fun _ h=>h⟩
  .exact⟨_,_,h,fun _ h=>h⟩
 |alloc t=>
  simp only[qo]at h⊢;split at h
  .exact qc.bind (vg T t) (fun i=>qc.pure _ _) E h
  .exact h.elim
 |box t x=>
  simp only[qo]at h⊢;split at h
  .rename_i e;(try simp only[e]);exact⟨_,_,h,fun _ h=>h⟩
  .exact h.elim
 |build t ps=>
  simp only[qo]at h⊢;refine qc.bind (vg T t) (fun i=>?_) E h;intro E h;split at h
  .exact qc.bind (zl2 _ _ _) (fun l=>qc.pure _ _) E h
  .exact qc.bind (zl4 _ _ _) (fun l=>qc.pure _ _) E h
  .exact h.elim
 |buildSlice t n ps=>
  simp only[qo]at h⊢;refine qc.bind (vg T t) (fun i=>?_) E h;intro E h;split at h
  .refine qc.bind (vg T _) (fun j=>?_) E h;intro E h;split at h
   .split at h
    .split at h
     .split at h
      .rename_i e;(try simp only[*]);exact⟨_,_,h,fun _ h=>h⟩
      .exact h.elim
     .split at h
      .try simp only[*]
       exact qc.bind (zik _ _) (fun l=>qc.pure _ _) E h
      .exact h.elim
    .exact h.elim
   .exact h.elim
  .exact h.elim
 |makeSlice t l c=>
  simp only[qo]at h⊢;refine qc.bind (vg T t) (fun i=>?_) E h;intro E h;split at h
  .refine qc.bind (vg T _) (fun j=>?_) E h;intro E h;split at h
   .split at h
    .rename_i e1 e2 e3 e4 e5 _;simp only[e1,e2,e3,e4,e5];exact qc.bind (ye _ _) (fun x=>qc.and (qc.pure _ _)) E h
    .exact h.elim
   .exact h.elim
  .exact h.elim
 |load t p=>
  simp only[qo]at h⊢;cases e:ρ p<;>simp only[e]at h⊢
  case ptr i off=>
   split at h
   .exact qc.bind (vg T t) (fun i=>qc.bind (zj7 i _ off) fun v=>qc.pure _ _) E h
   .exact h.elim
  case rp k x off=>exact qc.bind (vg T t) (fun i=>qc.bind (zj7 i _ off) fun v=>qc.pure _ _) E h
  case opt i sz j off=>
   split at h
   .split at h
    .rename_i e;try simp only[e]
     exact qc.idx _ _ (fun h=>h) (fun x=>qc.bind (vg T t) (fun i=>qc.bind (zj7 i _ off) fun v=>qc.pure _ _)) E h
    .exact h.elim
   .exact h.elim
 |store t p v=>
  simp only[qo]at h⊢;refine qc.bind (vg T t) (fun i=>?_) E h;intro E h;cases e1:zti (ρ v).cs i.sz<;>cases e2:zeq (ρ v).cs <;>simp only[e1,e2]at h⊢
  split at h
  .rename_i e;(try simp only[e]at h⊢);split at h
   .exact qc.bind (zey _ _ _) (fun l=>qc.pure _ _) E h
   .exact h.elim
  .rename_i e;(try simp only[e]at h⊢);split at h
   .split at h
    .rename_i e3 e4;try simp only[e3,e4]
     split at h
     .exact qc.bind (ye _ _) (fun l=>qc.and (qc.pure _ _)) E h
     .exact h.elim
    .rename_i e3 e4;try simp only[e3,e4]
     exact qc.idx _ _ (fun h=>h) (fun x=>qc.bind (zey _ _ _) fun l=>qc.bind (ye _ _) fun y=>qc.pure _ _) E h
    .exact h.elim
   .exact h.elim
  .exact h.elim
 |nilCheck x=>
  simp only[qo]at h⊢;cases e:ρ x<;>simp only[e]at h⊢ <;>exact⟨_,_,h,fun _ h=>h⟩
 |binOp o t x y ty=>
  simp only[qo]at h⊢;exact qc.bind (vg T t) (fun i=>qc.bind (zxo _ _ _ _) fun v=>qc.pure _ _) E h
 |unOp o t x=>
  simp only[qo]at h⊢;cases o<;>cases e:ρ x<;>simp only[e]at h⊢ <;>exact⟨_,_,h,fun _ h=>h⟩
 |convert s d x=>
  simp only[qo]at h⊢;refine qc.bind (vg T s) (fun j=>qc.bind (vg T d) (fun i=>?_)) E h;intro E h;cases e:ρ x<;>simp only[e]at h⊢
  .split at h
   .exact⟨_,_,h,fun _ h=>h⟩
   .exact h.elim
  .split at h
   .rename_i e1 e2;(try simp only[e1,e2]);exact⟨_,_,h,fun _ h=>h⟩
   .exact h.elim
 |makeFunc f x y=>
  simp only[qo]at h⊢;split at h
  .rename_i e;(try simp only[e]);exact⟨_,_,h,fun _ h=>h⟩
  .exact h.elim
 |fieldAddr t x f=>
  simp only[qo]at h⊢;refine qc.bind (vg T t) (fun i=>?_) E h;intro E h;split at h
  .refine zg8 (fun o s a=>?_) _ _ E h;intro E h;cases e:ρ x<;>simp only[e]at h⊢ <;>exact⟨_,_,h,fun _ h=>h⟩
  .exact h.elim
 |field t x f=>
  simp only[qo]at h⊢;refine qc.bind (vg T t) (fun i=>?_) E h;intro E h;split at h
  .rename_i e;try simp only[e]
   exact zg8 (fun o s a=>qc.bind (zk8 _ _ _ _) fun v=>qc.pure _ _) _ _ E h
  .exact h.elim
 |indexAddr t x i=>
  simp only[qo]at h⊢;refine qc.bind (vg T t) (fun ti=>?_) E h;intro E h;cases e:ρ i<;>simp only[e]at h⊢
  rename_i kk n;split at h
  .cases e2:ρ x<;>simp only[e2]at h⊢
   .split at h
    .rename_i e3;try simp only[e3]
     exact qc.and (qc.pure _ _) E h
    .exact h.elim
   .split at h
    .rename_i e3;try simp only[e3]
     exact qc.idx _ _ (fun h=>O) (fun x=>qc.pure _ _) E h
    .exact h.elim
   .split at h
    .split at h
     .rename_i e3;try simp only[e3]
      exact qc.and (qc.pure _ _) E h
     .exact h.elim
    .exact h.elim
  .cases e2:ρ x<;>simp only[e2]at h⊢ <;>exact qc.and (qc.pure _ _) E h
  .exact h.elim
 |index t x i=>
  simp only[qo]at h⊢;refine qc.bind (vg T t) (fun ti=>?_) E h;intro E h;split at h
  .rename_i e1 e2 e3;try simp only[e1,e2,e3]
   exact qc.idx _ _ (fun h=>O) (fun x=>qc.pure _ _) E h
  .rename_i e1 e2 e3;try simp only[e1,e2,e3]
   split at h
   .rename_i e4;try simp only[e4]
    refine qc.bind (vg T _) (fun tj=>?_) E h;intro E h;exact qc.and (qc.bind (zk8 _ _ _ _) fun v=>qc.pure _ _) E h
   .exact h.elim
  .exact h.elim
 |extract x n=>
  simp only[qo]at h⊢;cases e:ρ x<;>simp only[e]at h⊢
  refine qc.bind (zdf _ _ _) (fun r=>?_) E h;intro E h;split at h
  .exact⟨_,_,h,fun _ h=>h⟩
  .exact h.elim
 |call c=>
  cases hc:c.callee with
  |value f=>
   simp only[qo,hc]at h⊢;cases e:ρ f<;>simp only[e]at h⊢
   case fn g caps=>
    cases e2:qcw T g<;>simp only[e2]at h⊢
    .exact qc.bind (zkc _) (fun A=>zus _ A ids bs) E h
    .exact qc.bind (zkc _) (fun A=>zxs _ _ _ A ids bs) E h
   case cb l=>exact qc.bind (zkc _) (fun A=>zus _ A ids bs) E h
  |invoke r m=>simp[qo,hc]at h
  |builtin b=>
   cases b with
   |len=>
    simp only[qo,hc]at h⊢;split at h
    .rename_i e1 e2;try simp only[e1,e2]
     split at h
     .rename_i e3;try simp only[e3]
      exact zcg T _ (fun _ _ _=>zth _) E h
     .rename_i e3;try simp only[e3]
      exact qc.bind (vg T _) (fun i=>ztg _ _ _) E h
    .exact h.elim
   |append=>
    simp only[qo,hc]at h⊢;split at h
    .rename_i e1 e2;try simp only[e1,e2]
     split at h
     .rename_i e3;try simp only[e3]
      exact qc.bind (vg T _) (fun i=>zut _ _ _ _ _ _) E h
     .exact h.elim
    .exact h.elim
   |max=>
    simp only[qo,hc]at h⊢;split at h
    .rename_i e1;(try simp only[e1]);exact⟨_,_,h,fun _ h=>h⟩
    .rename_i e1;(try simp only[e1]);exact⟨_,_,h,fun _ h=>h⟩
    .exact h.elim
   |min=>
    simp only[qo,hc]at h⊢;split at h
    .rename_i e1;(try simp only[e1]);exact⟨_,_,h,fun _ h=>h⟩
    .exact h.elim
   | _=>simp[qo,hc]at h
 |makeMap t r=>
  simp only[qo]at h⊢;refine zcg T t (fun kk vk v=>?_) E h;intro E h;split at h
  .rename_i e1;simp only[e1];exact⟨_,_,h,fun _ h=>h⟩
  .exact h.elim
 |lookup t x i ok=>exact zws _ _ _ _ _ _ E h
 |mapUpdate t m k v=>exact zo0 _ _ _ _ _ _ E h
 |insert t m k v=>exact zo0 _ _ _ _ _ _ E h
 |slice t x lo hi mx=>
  simp only[qo]at h⊢;refine qc.bind (vg T t) (fun i=>?_) E h;intro E h
  cases hwn:qeu T hi with
  |true=>
   simp only[hwn]at h⊢;split at h
   .rename_i e1 e2 e3 e4;try simp only[e1,e2,e3,e4]
    split at h
    .rename_i e5 e6;try simp only[e5,e6]
     exact qc.and (qc.pure _ _) E h
    .exact h.elim
   .exact h.elim
  |false=>simp only[hwn]at h⊢;exact zvx _ _ _ _ _ E h
 | _=>exact False.elim h
