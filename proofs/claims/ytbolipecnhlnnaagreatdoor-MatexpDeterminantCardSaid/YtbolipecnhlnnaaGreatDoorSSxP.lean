/- What an operation yields can be drawn out of the execution: effO is a value and blocks, handed on. -/
import Derived.Test.YtbolipecnhlnnaaGreatDoorSSxO
set_option linter.unusedVariables false
set_option linter.unusedSimpArgs false
open Nat renaming beq->q0
namespace Go.Sx
open Go
def Out {α:Type} (F:(α->Prop)->Prop):Prop:= ∀E:α->Prop,F E-> ∃x,E x/\ ∀E':α->Prop,E' x->F E'
def qg (F:(AV->List Blk->Prop)->Prop):Prop:= ∀E:AV->List Blk->Prop,F E-> ∃r bs,E r bs/\ ∀E':AV->List Blk->Prop,E' r bs->F E'
theorem Out.pure {α:Type} (x:α):Out fun E:α->Prop=>E x:=fun _ h=>⟨x,h,fun _ h=>h⟩
theorem Out.no {α:Type}:Out fun _:α->Prop=>False:=fun _ h=>h.elim
theorem Out.bind {α β:Type} {F:(α->Prop)->Prop} {G:α->(β->Prop)->Prop} (hF:Out F) (hG: ∀x,Out (G x)):Out fun E=>F fun x=>G x E:=fun E h=>by
 obtain⟨x,h1,h2⟩:=hF _ h;obtain⟨y,h3,h4⟩:=hG x E h1;exact⟨y,h3,fun E' he=>h2 _ (h4 E' he)⟩
theorem Out.and {α:Type} {p:Prop} {F:(α->Prop)->Prop} (hF:Out F):Out fun E=>p/\F E:=fun E h=>by
 obtain⟨x,h1,h2⟩:=hF E h.2;exact⟨x,h1,fun E' he=>⟨h.1,h2 E' he⟩⟩
theorem qg.pure (r:AV) (bs:List Blk):qg fun E=>E r bs:=fun _ h=>⟨r,bs,h,fun _ h=>h⟩
theorem qg.no:qg fun _=>False:=fun _ h=>h.elim
theorem qg.bind {α:Type} {F:(α->Prop)->Prop} {G:α->(AV->List Blk->Prop)->Prop} (hF:Out F) (hG: ∀x,qg (G x)):qg fun E=>F fun x=>G x E:=fun E h=>by
 obtain⟨x,h1,h2⟩:=hF _ h;obtain⟨y,bs,h3,h4⟩:=hG x E h1;exact⟨y,bs,h3,fun E' he=>h2 _ (h4 E' he)⟩
theorem qg.and {p:Prop} {F:(AV->List Blk->Prop)->Prop} (hF:qg F):qg fun E=>p/\F E:=fun E h=>by
 obtain⟨x,bs,h1,h2⟩:=hF E h.2;exact⟨x,bs,h1,fun E' he=>⟨h.1,h2 E' he⟩⟩
theorem qg.idx {α:Type} (xs:List α) (j:Nat) {p:Prop} (hp:p->j<xs.length) {G:α->(AV->List Blk->Prop)->Prop} (hG: ∀x,qg (G x)):qg fun E=>p/\ ∀x,xs[j]? =some x->G x E:=fun E h=>by
 have hj:=hp h.1;have hx:xs[j]? =some xs[j]:=List.getElem?_eq_getElem hj;obtain⟨r,bs,h1,h2⟩:=hG _ E (h.2 _ hx);exact⟨r,bs,h1,fun E' he=>⟨h.1,fun y hy=>by rw[hx]at hy;cases hy;exact h2 E' he⟩⟩
theorem zrq: ∀(T:List (Nat×TI)) (t:Nat),Out (tgL T t)
 | [],_=>Out.no
 |(a,i)::r,t=>by
  intro E h;simp only[tgL]at h⊢
  cases e:q0 a t with
  |true=>simp only[e]at h⊢;exact⟨i,h,fun _ h=>h⟩
  |false=>simp only[e]at h⊢;exact zrq r t E h
theorem vi (T:Tab) (t:Nat):Out (tgK T t):=zrq T.ty t
theorem zkg (l:List AV):Out (zi0 l):=fun E h=>⟨l,(qw l E).1 h,fun E' he=>(qw l E').2 he⟩
theorem zc3: ∀(l:List AV) (o n:Nat),Out (cut l o n)
 |l,0,0=>by intro E h;cases l<;>(simp only[cut]at h⊢;exact⟨[],h,fun _ h=>h⟩)
 |a::l,0,n+1=>by
  have:=Out.bind (G:=fun r (k:List AV->Prop)=>k (a::r)) (zc3 l 0 n) fun r=>Out.pure _
  intro E h;simp only[cut]at h⊢;exact this E h
 | [],0,_+1=>by intro E h;simp[cut]at h
 | _::l,off+1,n=>by intro E h;simp only[cut]at h⊢;exact zc3 l off n E h
 | [],_+1,_=>by intro E h;simp[cut]at h
theorem zg0: ∀(l:List AV) (o:Nat) (m:List AV),Out (lay l o m)
 |l,0,[]=>by intro E h;cases l<;>(simp only[lay]at h⊢;exact⟨_,h,fun _ h=>h⟩)
 | _::l,0,b::m=>by
   have:=Out.bind (G:=fun r (k:List AV->Prop)=>k (b::r)) (zg0 l 0 m) fun r=>Out.pure _
   intro E h;simp only[lay]at h⊢;exact this E h
 | [],0,_::_=>by intro E h;simp[lay]at h
 |a::l,off+1,m=>by
  have:=Out.bind (G:=fun r (k:List AV->Prop)=>k (a::r)) (zg0 l off m) fun r=>Out.pure _
  intro E h;simp only[lay]at h⊢;exact this E h
 | [],_+1,m=>by intro E h;simp[lay]at h
theorem zs5 (l:List AV):Out fun E:AV->Prop=>match l with
 | [a]=>E a
 | _=>False:=by
 intro E h;split at h
 .exact⟨_,h,fun _ h=>h⟩
 .exact h.elim
theorem zka (i:TI) (l:List AV) (off:Nat):Out (ldK i l off):=by
 intro E h;unfold ldK at h⊢
 cases e:i.agg with
 |true=>simp only[e]at h⊢;exact Out.bind (G:=fun r (E:AV->Prop)=>E (.agg r)) (zc3 l off i.sz) (fun r=>Out.pure _) E h
 |false=>simp only[e]at h⊢;exact Out.bind (zc3 l off 1) (fun r=>zs5 r) E h
theorem zld (l:List AV) (o s:Nat) (a:Bool):Out (zqr l o s a):=by
 intro E h;unfold zqr at h⊢
 cases a with
 |true=>exact Out.bind (G:=fun r (E:AV->Prop)=>E (.agg r)) (zc3 l o s) (fun r=>Out.pure _) E h
 |false=>exact Out.bind (zc3 l o 1) (fun r=>zs5 r) E h
theorem zhf {G:Nat->Nat->Bool->(AV->List Blk->Prop)->Prop} (hG: ∀o s a,qg (G o s a)): ∀(fs:List (Nat×Nat×Bool)) (f:Nat),qg fun E=>zcl fs f fun o s a=>G o s a E
 |(o,s,a)::_,0=>by intro E h;simp only[zcl]at h⊢;exact hG o s a E h
 |(_,_,_)::r,f+1=>by intro E h;simp only[zcl]at h⊢;exact zhf hG r f E h
 | [],_=>by intro E h;simp[zcl]at h
theorem zi1 {α:Type} {G:Nat->Nat->Bool->(α->Prop)->Prop} (hG: ∀o s a,Out (G o s a)): ∀(fs:List (Nat×Nat×Bool)) (f:Nat),Out fun E=>zcl fs f fun o s a=>G o s a E
 |(o,s,a)::_,0=>by intro E h;simp only[zcl]at h⊢;exact hG o s a E h
 |(_,_,_)::r,f+1=>by intro E h;simp only[zcl]at h⊢;exact zi1 hG r f E h
 | [],_=>by intro E h;simp[zcl]at h
theorem zl5 (fs:List (Nat×Nat×Bool)): ∀(ps:List (Nat×AV)) (z:List AV),Out (zl6 fs ps z)
 | [],z=>by intro E h;simp only[zl6]at h⊢;exact⟨z,h,fun _ h=>h⟩
 |(f,v)::r,z=>by
  intro E h;simp only[zl6]at h⊢;refine zi1 (fun o s _=>?_) fs f E h;intro E h;cases h1:ztm v.cs s<;>cases h2:zen v.cs<;>simp only[h1,h2]at h⊢
  exact Out.bind (zg0 z o v.cs) (fun z=>zl5 fs r z) E h
theorem zl7 (s:Nat): ∀(ps:List (Nat×AV)) (z:List AV),Out (zl8 s ps z)
 | [],z=>by intro E h;simp only[zl8]at h⊢;exact⟨z,h,fun _ h=>h⟩
 |(f,v)::r,z=>by
  intro E h;simp only[zl8]at h⊢;cases h1:ztm v.cs s<;>cases h2:zen v.cs<;>simp only[h1,h2]at h⊢
  exact Out.bind (zg0 z (f*s) v.cs) (fun z=>zl7 s r z) E h
theorem jb (a:AV):Out (ziz a):=by
 intro E h;unfold ziz at h;split at h
 .exact⟨_,h,fun _ h=>h⟩
 .exact h.elim
theorem zd5 (a:AV):Out (zl2 a):=by
 intro E h;unfold zl2 at h;split at h
 .exact⟨_,h,fun _ h=>h⟩
 .exact h.elim
theorem zxq (a:AV):Out (qdt a):=by
 intro E h;unfold qdt at h;split at h
 .exact⟨_,h,fun _ h=>h⟩
 .exact h.elim
theorem zke (a:AV):Out (qcb a):=by
 intro E h;unfold qcb at h;split at h
 .exact⟨_,h,fun _ h=>h⟩
 .exact h.elim
theorem zxt (a:AV):Out (qdu a):=by
 intro E h;unfold qdu at h;split at h
 .exact⟨_,h,fun _ h=>h⟩
 .exact⟨_,h,fun _ h=>h⟩
 .exact h.elim
theorem zt9 (a:AV):Out (gLs a):=by
 intro E h;unfold gLs at h;split at h
 .exact⟨_,h,fun _ h=>h⟩
 .exact⟨_,h,fun _ h=>h⟩
 .exact h.elim
theorem qcc (a:AV):Out (gIs a):=by
 intro E h;unfold gIs at h;split at h
 .exact⟨_,h,fun _ h=>h⟩
 .exact⟨_,h,fun _ h=>h⟩
 .exact h.elim
theorem qce (l:List AV):Out fun E:Dy×List AV->Prop=>gDy l fun e r=>E (e,r):=by
 intro E h;unfold gDy at h;split at h
 .exact Out.bind (zd5 _) (fun _=>Out.bind (zt9 _) fun _=>Out.bind (jb _) fun _=>Out.pure (_,_)) E h
 .exact h.elim
theorem zd4 {α:Type} {l:List AV} {G:Dy->List AV->(α->Prop)->Prop} (hG: ∀e r,Out (G e r)):Out fun E=>gDy l fun e r=>G e r E:=
 Out.bind (F:=fun E:Dy×List AV->Prop=>gDy l fun e r=>E (e,r)) (G:=fun x=>G x.1 x.2) (qce l) fun x=>hG _ _
theorem qcd (l:List AV):Out fun E:Ex×List AV->Prop=>gEx l fun e r=>E (e,r):=by
 intro E h;unfold gEx at h;split at h
 .exact Out.bind (jb _) (fun _=>Out.bind (jb _) fun _=>Out.bind (jb _) fun _=>Out.bind (zke _) fun _=>Out.bind (jb _) fun _=>
   Out.bind (zxt _) fun _=>Out.pure (_,_)) E h
 .exact h.elim
theorem zga {α:Type} {l:List AV} {G:Ex->List AV->(α->Prop)->Prop} (hG: ∀e r,Out (G e r)):Out fun E=>gEx l fun e r=>G e r E:=
 Out.bind (F:=fun E:Ex×List AV->Prop=>gEx l fun e r=>E (e,r)) (G:=fun x=>G x.1 x.2) (qcd l) fun x=>hG _ _
theorem xj: ∀(k:Elt) (l:List AV),Out (qv k l)
 | .ex,l=>by
   intro E h;simp only[qv]at h⊢;refine zga (fun e r=>?_) E h;intro E h
   cases r with
   |nil=>exact⟨_,h,fun _ h=>h⟩
   |cons _ _=>exact h.elim
 | .ls,[s]=>fun E h=>zt9 s E h
 | .ls,[]=>fun _ h=>False.elim h
 | .ls,_::_::_=>fun _ h=>False.elim h
 | .dy,l=>by
   intro E h;simp only[qv]at h⊢;refine zd4 (fun e r=>?_) E h;intro E h
   cases r with
   |nil=>exact⟨_,h,fun _ h=>h⟩
   |cons _ _=>exact h.elim
 | .iv,l=>by
   intro E h;simp only[qv]at h⊢;refine zd4 (fun e r=>zd4 (fun e' r'=>?_)) E h;intro E h;split at h
   .exact Out.bind (zd5 _) (fun _=>Out.pure _) E h
   .exact h.elim
 | .vs,[s]=>fun E h=>qcc s E h
 | .vs,[]=>fun _ h=>False.elim h
 | .vs,_::_::_=>fun _ h=>False.elim h
 | .ki,[]=>fun _ h=>False.elim h
 | .ki,s::l=>by
   intro E h;simp only[qv]at h⊢;refine Out.bind (jb s) (fun s=>zd4 (fun e r=>zd4 (fun e' r'=>?_))) E h;intro E h;split at h
   .exact Out.bind (zd5 _) (fun _=>Out.pure _) E h
   .exact h.elim
 | .eqn,s::l=>by
   intro E h;simp only[qv]at h⊢;refine Out.bind (zke s) (fun s=>zga (fun e r=>?_)) E h;intro E h
   cases r with
   |nil=>exact⟨_,h,fun _ h=>h⟩
   |cons _ _=>exact h.elim
 | .ex2,l=>by
   intro E h;simp only[qv]at h⊢;refine zga (fun e r=>zga (fun e' r'=>?_)) E h;intro E h
   cases r' with
   |nil=>exact⟨_,h,fun _ h=>h⟩
   |cons _ _=>exact h.elim
 | .eqn,[]=>fun _ h=>False.elim h
 | .str,[s]=>fun E h=>zke s E h
 | .str,[]=>fun _ h=>False.elim h
 | .str,_::_::_=>fun _ h=>False.elim h
 | .int,[s]=>fun E h=>jb s E h
 | .int,[]=>fun _ h=>False.elim h
 | .int,_::_::_=>fun _ h=>False.elim h
 | .bool,[s]=>fun E h=>zd5 s E h
 | .bool,[]=>fun _ h=>False.elim h
 | .bool,_::_::_=>fun _ h=>False.elim h
 | .u32,[s]=>fun E h=>zxq s E h
 | .u32,[]=>fun _ h=>False.elim h
 | .u32,_::_::_=>fun _ h=>False.elim h
 | .rat,[a,b]=>fun E h=>Out.bind (jb a) (fun _=>Out.bind (jb b) fun _=>Out.pure _) E h
 | .rat,[]=>fun _ h=>False.elim h
 | .rat,[_]=>fun _ h=>False.elim h
 | .rat,_::_::_::_=>fun _ h=>False.elim h
 | .op,[a,b,c,d,e,f]=>fun E h=>Out.bind (jb a) (fun _=>Out.bind (jb b) fun _=>Out.bind (jb c) fun _=>Out.bind (jb d) fun _=>Out.bind (jb e) fun _=>Out.bind (jb f) fun _=>Out.pure _) E h
 | .op,[]=>fun _ h=>False.elim h
 | .op,[_]=>fun _ h=>False.elim h
 | .op,[_,_]=>fun _ h=>False.elim h
 | .op,[_,_,_]=>fun _ h=>False.elim h
 | .op,[_,_,_,_]=>fun _ h=>False.elim h
 | .op,[_,_,_,_,_]=>fun _ h=>False.elim h
 | .op,_::_::_::_::_::_::_::_=>fun _ h=>False.elim h
theorem zif (k:Elt): ∀l:List AV,Out (ze7 k l)
 | []=>by intro E h;simp only[ze7]at h⊢;exact⟨_,h,fun _ h=>h⟩
 |a::l=>by
  intro E h;simp only[ze7]at h⊢;exact Out.bind (xj k a.cs) (fun x=>Out.bind (G:=fun xs (K:List k.T->Prop)=>K (x::xs)) (zif k l) fun xs=>Out.pure _) E h
theorem zos (k:Elt) (a:AV):Out (qa3 k a):=by
 intro E h;unfold qa3 at h;split at h<;>first|exact h.elim|exact⟨_,h,fun _ h=>h⟩
theorem zug: ∀(z l m:List AV),Out (eqZ z l m):=by
 intro z
 induction z with
 |nil=>
  intro l m
  cases l with
  |nil=>
   cases m with
   |nil=>exact fun E h=>⟨true,h,fun _ h=>h⟩
   |cons b m=>exact fun E h=>False.elim h
  |cons a l=>exact fun E h=>False.elim h
 |cons x z ih=>
  intro l m
  cases x with
  |int k n=>
   cases k<;>first|exact fun E h=>False.elim h|skip
   cases l with
   |nil=>exact fun E h=>False.elim h
   |cons a l=>
    cases a with
    |int k a=>
     cases k<;>first|exact fun E h=>False.elim h|skip
     cases m with
     |nil=>exact fun E h=>False.elim h
     |cons b m=>
      cases b with
      |int k b=>
       cases k<;>first|exact fun E h=>False.elim h|skip
       exact Out.bind (G:=fun r (k:Bool->Prop)=>k (a==b&&r)) (ih l m) (fun r=>Out.pure _)
      | _=>exact fun E h=>False.elim h
    | _=>exact fun E h=>False.elim h
  |str s=>
   cases l with
   |nil=>exact fun E h=>False.elim h
   |cons a l=>
    cases a with
    |str a=>
     cases m with
     |nil=>exact fun E h=>False.elim h
     |cons b m=>
      cases b with
      |str b=>exact Out.bind (G:=fun r (k:Bool->Prop)=>k (a==b&&r)) (ih l m) (fun r=>Out.pure _)
      | _=>exact fun E h=>False.elim h
    | _=>exact fun E h=>False.elim h
  |bool s=>
   cases l with
   |nil=>exact fun E h=>False.elim h
   |cons a l=>
    cases a with
    |bool a=>
     cases m with
     |nil=>exact fun E h=>False.elim h
     |cons b m=>
      cases b with
      |bool b=>exact Out.bind (G:=fun r (k:Bool->Prop)=>k (a==b&&r)) (ih l m) (fun r=>Out.pure _)
      | _=>exact fun E h=>False.elim h
    | _=>exact fun E h=>False.elim h
  | _=>exact fun E h=>False.elim h
theorem zkb (o:BinOp) (k:IntKind) (a b:Int):Out (qb8 o k a b):=by
 cases o<;>first|exact Out.pure _ |exact Out.and (Out.pure _)
theorem zv3 (o:BinOp) (a b:zed):Out (strB o a b):=by
 cases o<;>first|exact Out.pure _ |exact Out.and (Out.pure _)|exact Out.no
theorem zx6 (i:TI) (o:BinOp) (x y:AV):Out (qc4 i o x y):=by
 cases x<;>cases y<;>try exact Out.no
 case int.int k a k' b=>
  intro E h;cases o<;>simp only[qc4]at h⊢
  case shl=>exact zkb _ _ _ _ E h
  case shr=>exact zkb _ _ _ _ E h
  all_goals (cases hk:zny k k'<;>simp only[hk]at h⊢;exact zkb _ _ _ _ E h)
 case str.str a b=>exact zv3 _ _ _
 case bool.bool a b=>
  unfold qc4;cases q0 i.cls 6<;>cases o<;>first|exact Out.pure _ |exact Out.no
 case sl.nilsl k xs=>
  unfold qc4;cases q0 i.cls 3<;>cases o<;>first|exact Out.pure _ |exact Out.no
 case agg.agg l m=>
  intro E h;simp only[qc4]at h⊢;cases h1:i.eq<;>simp only[h1]at h⊢
  cases o<;>simp only at h⊢
  .exact Out.bind (G:=fun r (E:AV->Prop)=>E (.bool r)) (zug i.z l m) (fun r=>Out.pure _) E h
  .exact Out.bind (G:=fun r (E:AV->Prop)=>E (.bool !r)) (zug i.z l m) (fun r=>Out.pure _) E h
theorem zvg (c:CT) (A:List AV) (ids:List Nat) (bs:List Blk):qg (app c A ids bs):=by
 intro E h;obtain⟨bs',r,hc,hk⟩:=h;unfold app;split at hk
 .rename_i h1 h2 h3 h4 h5;exact⟨r,bs',hk,fun E' he=>⟨bs',r,hc,by rw[h1,h2,h3,h4,h5];exact he⟩⟩
 .exact hk.elim
theorem zmc: ∀(n:Nat) (bs:List Blk),Out (zme n bs)
 |0,bs=>by intro E h;simp only[zme]at h⊢;exact⟨bs,h,fun _ h=>h⟩
 |n+1,[]=>by intro E h;simp[zme]at h
 |n+1,b::bs=>by
  intro E h;cases b<;>simp only[zme]at h⊢
  exact zmc n bs E h
theorem zya (c:CT) (n dst:Nat) (A:List AV) (ids:List Nat) (bs:List Blk):qg (appN c n dst A ids bs):=by
 intro E h;unfold appN at h⊢;refine qg.bind (zmc n bs) (fun bs=>?_) E h;intro E h;obtain⟨bs',nbs,r,hc,hk⟩:=h;split at hk
 .rename_i h1 h2 h3 h4 h5 h6 h7 h8 h9 h10;exact⟨_,_,hk,fun E' he=>⟨bs',nbs,r,hc,by rw[h1,h2,h3,h4,h5,h6,h7,h8,h9,h10];exact he⟩⟩
 .exact hk.elim
theorem zcc (T:Tab) (t:Nat) {G:Elt->Elt->TI->(AV->List Blk->Prop)->Prop} (hG: ∀a b i,qg (G a b i)):qg fun E=>zh3 T t fun a b i=>G a b i E:=by
 intro E h;unfold zh3 at h⊢;refine qg.bind (vi T t) (fun i=>?_) E h;intro E h;split at h
 .refine qg.bind (vi T _) (fun j=>?_) E h;intro E h;split at h
  .refine qg.bind (vi T _) (fun v=>?_) E h;intro E h;split at h
   .split at h
    .rename_i e1 _ e2;simp only[e1,e2];exact hG _ _ _ E h
    .exact h.elim
   .exact h.elim
  .exact h.elim
 .exact h.elim
theorem zw8 (T:Tab) (t:Nat) (x i:AV) (ok:Bool) (bs:List Blk):qg (lkOp T t x i ok bs):=by
 intro E h;unfold lkOp at h⊢;refine zcc T t (fun kk vk v=>?_) E h;intro E h;split at h
 .split at h
  .rename_i h1 h2 h3;simp only[h1,h2,h3];refine qg.bind (xj _ _) (fun key=>qg.bind (xj _ _) (fun z=>qg.bind (zka _ _ _) fun u=>?_)) E h;intro E h;cases ok
   .exact⟨_,_,h,fun _ h=>h⟩
   .exact⟨_,_,h,fun _ h=>h⟩
  .exact h.elim
 .exact h.elim
theorem zpc (T:Tab) (t:Nat) (m x y:AV) (bs:List Blk):qg (qfk T t m x y bs):=by
 intro E h;unfold qfk at h⊢;refine zcc T t (fun kk vk v=>?_) E h;intro E h;split at h
 .split at h
  .rename_i h1 h2 h3 h4;simp only[h1,h2,h3,h4];exact qg.bind (xj _ _) (fun key=>qg.bind (xj _ _) (fun z=>qg.pure _ _)) E h
  .exact h.elim
 .exact h.elim
theorem uy (x:Option AV) (d:Int):Out (zb5 x d):=by
 intro E h;unfold zb5 at h⊢;split at h
 .exact⟨_,h,fun _ h=>h⟩
 .exact⟨_,h,fun _ h=>h⟩
 .exact h.elim
theorem zv7 (i:TI) (x:AV) (lo hi mx:Option AV):qg (qdg i x lo hi mx):=by
 intro E h;unfold qdg at h⊢
 cases mx with
 |some y=>
  simp only at h⊢;split at h
  .split at h
   .rename_i e1 e2
    try simp only[e1,e2]
    exact qg.bind (uy _ _) (fun l=>qg.and (qg.pure _ _)) E h
   .exact h.elim
  .exact h.elim
 |none=>
  simp only at h⊢;cases x<;>simp only at h⊢
  case str s=>
   cases e:q0 i.cls 5<;>simp only[e]at h⊢
   exact qg.bind (uy _ _) (fun l=>qg.bind (uy _ _) fun u=>qg.and (qg.pure _ _)) E h
  case nilsl=>
   cases e:q0 i.cls 3<;>simp only[e]at h⊢
   exact qg.bind (uy _ _) (fun l=>qg.bind (uy _ _) fun u=>qg.and (qg.pure _ _)) E h
  case sl k xs=>
   cases e:q0 i.cls 3<;>cases e':q0 i.esz k.size<;>simp only[e,e']at h⊢
   exact qg.bind (uy _ _) (fun l=>qg.bind (uy _ _) fun u=>qg.and (qg.pure _ _)) E h
theorem ztl (bs:List Blk):qg (zqt bs):=by
 intro E h;unfold zqt at h⊢;split at h
 .exact⟨_,_,h,fun _ h=>h⟩
 .exact h.elim
theorem ztk (i:TI) (x:AV) (bs:List Blk):qg (zlr i x bs):=by
 cases x<;>try exact qg.no
 case str s=>unfold zlr;cases q0 i.cls 5<;>first|exact qg.pure _ _ |exact qg.no
 case nilsl=>unfold zlr;cases q0 i.cls 3<;>first|exact qg.pure _ _ |exact qg.no
 case sl k xs=>unfold zlr;cases q0 i.cls 3<;>first|exact qg.pure _ _ |exact qg.no
 case ow=>unfold zlr;cases q0 i.cls 3<;>first|exact qg.pure _ _ |exact qg.no
 case own id=>
  intro E h;unfold zlr at h⊢;simp only at h⊢;split at h
  .exact⟨_,_,h,fun _ h=>h⟩
  .exact h.elim
theorem zvh (T:Tab) (i:TI) (dst:Nat) (s x:AV) (bs:List Blk):qg (zx9 T i dst s x bs):=by
 intro E h;unfold zx9 at h;split at h
 .refine qg.bind (vi T _) (fun j=>?_) E h;intro E h;split at h
  .rename_i esz _ _ _ _ _ _ _ sz _ _ _ _ k _ _ bytes _;split at h
   .split at h
    .exact qg.bind (zos _ x) (fun ys=>qg.and (qg.pure _ _)) E h
    .split at h
     .rename_i h1 h2 h3;simp only[h1,h2,h3];exact qg.bind (zos _ x) (fun ys=>qg.and (qg.pure _ _)) E h
     .exact h.elim
    .exact h.elim
   .exact h.elim
  .exact h.elim
 .exact h.elim
set_option maxHeartbeats 1000000 in
theorem qch (T:Tab) (C:Con) (op:Op) (dst:Nat) (ρ:Operand->AV) (ids:List Nat) (bs:List Blk):qg (qm T C op dst ρ ids bs):=by
 intro E h
 cases op with
 |move x=>exact⟨_,_,h,fun _ h=>h⟩
 |assign x=>exact⟨_,_,h,fun _ h=>h⟩
 |pick c a b=>
  simp only[qm]at h⊢;cases e:ρ c<;>simp only[e]at h⊢
  rename_i t;cases t
  .exact⟨_,_,h,fun _ h=>h⟩
  .exact⟨_,_,h,fun _ h=>h⟩
 |alloc t=>
  simp only[qm]at h⊢;split at h
  .exact qg.bind (vi T t) (fun i=>qg.pure _ _) E h
  .exact h.elim
 |box t x=>
  simp only[qm]at h⊢;split at h
  .rename_i e;(try simp only[e]);exact⟨_,_,h,fun _ h=>h⟩
  .exact h.elim
 |build t ps=>
  simp only[qm]at h⊢;refine qg.bind (vi T t) (fun i=>?_) E h;intro E h;split at h
  .exact qg.bind (zl5 _ _ _) (fun l=>qg.pure _ _) E h
  .exact qg.bind (zl7 _ _ _) (fun l=>qg.pure _ _) E h
  .exact h.elim
 |buildSlice t n ps=>
  simp only[qm]at h⊢;refine qg.bind (vi T t) (fun i=>?_) E h;intro E h;split at h
  .refine qg.bind (vi T _) (fun j=>?_) E h;intro E h;split at h
   .split at h
    .split at h
     .split at h
      .rename_i e;(try simp only[*]);exact⟨_,_,h,fun _ h=>h⟩
      .exact h.elim
     .split at h
      .try simp only[*]
       exact qg.bind (zif _ _) (fun l=>qg.pure _ _) E h
      .exact h.elim
    .exact h.elim
   .exact h.elim
  .exact h.elim
 |makeSlice t l c=>
  simp only[qm]at h⊢;refine qg.bind (vi T t) (fun i=>?_) E h;intro E h;split at h
  .refine qg.bind (vi T _) (fun j=>?_) E h;intro E h;split at h
   .split at h
    .rename_i e1 e2 e3 e4 e5 _;simp only[e1,e2,e3,e4,e5];exact qg.bind (xj _ _) (fun x=>qg.and (qg.pure _ _)) E h
    .exact h.elim
   .exact h.elim
  .exact h.elim
 |load t p=>
  simp only[qm]at h⊢;cases e:ρ p<;>simp only[e]at h⊢
  case ptr i off=>
   split at h
   .exact qg.bind (vi T t) (fun i=>qg.bind (zka i _ off) fun v=>qg.pure _ _) E h
   .exact h.elim
  case rp k x off=>exact qg.bind (vi T t) (fun i=>qg.bind (zka i _ off) fun v=>qg.pure _ _) E h
  case opt i sz j off=>
   split at h
   .split at h
    .rename_i e;try simp only[e]
     exact qg.idx _ _ (fun h=>h) (fun x=>qg.bind (vi T t) (fun i=>qg.bind (zka i _ off) fun v=>qg.pure _ _)) E h
    .exact h.elim
   .exact h.elim
 |store t p v=>
  simp only[qm]at h⊢;refine qg.bind (vi T t) (fun i=>?_) E h;intro E h;cases e1:ztm (ρ v).cs i.sz<;>cases e2:zen (ρ v).cs <;>simp only[e1,e2]at h⊢
  split at h
  .rename_i e;(try simp only[e]at h⊢);split at h
   .exact qg.bind (zg0 _ _ _) (fun l=>qg.pure _ _) E h
   .exact h.elim
  .rename_i e;(try simp only[e]at h⊢);split at h
   .split at h
    .rename_i e3 e4;try simp only[e3,e4]
     exact qg.bind (xj _ _) (fun l=>qg.and (qg.pure _ _)) E h
    .exact h.elim
   .exact h.elim
  .exact h.elim
 |nilCheck x=>
  simp only[qm]at h⊢;cases e:ρ x<;>simp only[e]at h⊢ <;>exact⟨_,_,h,fun _ h=>h⟩
 |binOp o t x y ty=>
  simp only[qm]at h⊢;exact qg.bind (vi T t) (fun i=>qg.bind (zx6 _ _ _ _) fun v=>qg.pure _ _) E h
 |unOp o t x=>
  simp only[qm]at h⊢;cases o<;>cases e:ρ x<;>simp only[e]at h⊢ <;>exact⟨_,_,h,fun _ h=>h⟩
 |convert s d x=>
  simp only[qm]at h⊢;refine qg.bind (vi T s) (fun j=>qg.bind (vi T d) (fun i=>?_)) E h;intro E h;cases e:ρ x<;>simp only[e]at h⊢
  .split at h
   .exact⟨_,_,h,fun _ h=>h⟩
   .exact h.elim
  .split at h
   .rename_i e1 e2;(try simp only[e1,e2]);exact⟨_,_,h,fun _ h=>h⟩
   .exact h.elim
 |makeFunc f x y=>
  simp only[qm]at h⊢;split at h
  .rename_i e;(try simp only[e]);exact⟨_,_,h,fun _ h=>h⟩
  .exact h.elim
 |fieldAddr t x f=>
  simp only[qm]at h⊢;refine qg.bind (vi T t) (fun i=>?_) E h;intro E h;split at h
  .refine zhf (fun o s a=>?_) _ _ E h;intro E h;cases e:ρ x<;>simp only[e]at h⊢ <;>exact⟨_,_,h,fun _ h=>h⟩
  .exact h.elim
 |field t x f=>
  simp only[qm]at h⊢;refine qg.bind (vi T t) (fun i=>?_) E h;intro E h;split at h
  .rename_i e;try simp only[e]
   exact zhf (fun o s a=>qg.bind (zld _ _ _ _) fun v=>qg.pure _ _) _ _ E h
  .exact h.elim
 |indexAddr t x i=>
  simp only[qm]at h⊢;refine qg.bind (vi T t) (fun ti=>?_) E h;intro E h;cases e:ρ i<;>simp only[e]at h⊢
  rename_i kk n;split at h
  .cases e2:ρ x<;>simp only[e2]at h⊢
   .split at h
    .rename_i e3;try simp only[e3]
     exact qg.and (qg.pure _ _) E h
    .exact h.elim
   .split at h
    .rename_i e3;try simp only[e3]
     exact qg.idx _ _ (fun h=>by omega) (fun x=>qg.pure _ _) E h
    .exact h.elim
   .split at h
    .split at h
     .rename_i e3;try simp only[e3]
      exact qg.and (qg.pure _ _) E h
     .exact h.elim
    .exact h.elim
  .cases e2:ρ x<;>simp only[e2]at h⊢ <;>exact qg.and (qg.pure _ _) E h
  .exact h.elim
 |index t x i=>
  simp only[qm]at h⊢;refine qg.bind (vi T t) (fun ti=>?_) E h;intro E h;split at h
  .rename_i e1 e2 e3;try simp only[e1,e2,e3]
   exact qg.idx _ _ (fun h=>by omega) (fun x=>qg.pure _ _) E h
  .rename_i e1 e2 e3;try simp only[e1,e2,e3]
   split at h
   .rename_i e4;try simp only[e4]
    refine qg.bind (vi T _) (fun tj=>?_) E h;intro E h;exact qg.and (qg.bind (zld _ _ _ _) fun v=>qg.pure _ _) E h
   .exact h.elim
  .exact h.elim
 |extract x n=>
  simp only[qm]at h⊢;cases e:ρ x<;>simp only[e]at h⊢
  refine qg.bind (zc3 _ _ _) (fun r=>?_) E h;intro E h;split at h
  .exact⟨_,_,h,fun _ h=>h⟩
  .exact h.elim
 |call c=>
  cases hc:c.callee with
  |value f=>
   simp only[qm,hc]at h⊢;cases e:ρ f<;>simp only[e]at h⊢
   case fn g caps=>
    cases e2:qdm T g<;>simp only[e2]at h⊢
    .exact qg.bind (zkg _) (fun A=>zvg _ A ids bs) E h
    .exact qg.bind (zkg _) (fun A=>zya _ _ _ A ids bs) E h
   case cb l=>exact qg.bind (zkg _) (fun A=>zvg _ A ids bs) E h
  |invoke r m=>simp[qm,hc]at h
  |builtin b=>
   cases b with
   |len=>
    simp only[qm,hc]at h⊢;split at h
    .rename_i e1 e2;try simp only[e1,e2]
     split at h
     .rename_i e3;try simp only[e3]
      exact zcc T _ (fun _ _ _=>ztl _) E h
     .rename_i e3;try simp only[e3]
      exact qg.bind (vi T _) (fun i=>ztk _ _ _) E h
    .exact h.elim
   |append=>
    simp only[qm,hc]at h⊢;split at h
    .rename_i e1 e2;try simp only[e1,e2]
     split at h
     .rename_i e3;try simp only[e3]
      exact qg.bind (vi T _) (fun i=>zvh _ _ _ _ _ _) E h
     .exact h.elim
    .exact h.elim
   |max=>
    simp only[qm,hc]at h⊢;split at h
    .rename_i e1;(try simp only[e1]);exact⟨_,_,h,fun _ h=>h⟩
    .rename_i e1;(try simp only[e1]);exact⟨_,_,h,fun _ h=>h⟩
    .exact h.elim
   |min=>
    simp only[qm,hc]at h⊢;split at h
    .rename_i e1;(try simp only[e1]);exact⟨_,_,h,fun _ h=>h⟩
    .exact h.elim
   | _=>simp[qm,hc]at h
 |makeMap t r=>
  simp only[qm]at h⊢;refine zcc T t (fun kk vk v=>?_) E h;intro E h;split at h
  .rename_i e1;simp only[e1];exact⟨_,_,h,fun _ h=>h⟩
  .exact h.elim
 |lookup t x i ok=>exact zw8 _ _ _ _ _ _ E h
 |mapUpdate t m k v=>exact zpc _ _ _ _ _ _ E h
 |insert t m k v=>exact zpc _ _ _ _ _ _ E h
 |slice t x lo hi mx=>
  simp only[qm]at h⊢;refine qg.bind (vi T t) (fun i=>?_) E h;intro E h
  cases hwn:qf8 T hi with
  |true=>
   simp only[hwn]at h⊢;split at h
   .rename_i e1 e2 e3 e4;try simp only[e1,e2,e3,e4]
    split at h
    .rename_i e5 e6;try simp only[e5,e6]
     exact qg.and (qg.pure _ _) E h
    .exact h.elim
   .exact h.elim
  |false=>simp only[hwn]at h⊢;exact zv7 _ _ _ _ _ E h
 | _=>exact False.elim h
