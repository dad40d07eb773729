/-
  What an operation yields can be drawn out of the execution: effO is a value and blocks, handed on.
-/
import Derived.Test.YtbolipecnhlnnaaGreatDoorQSxO
set_option linter.unusedVariables false
set_option linter.unusedSimpArgs false
open Nat renaming beq->q2
namespace Go.Sx
open Go
def Out {α:Type} (F:(α->Prop)->Prop):Prop:= ∀E:α->Prop,F E-> ∃x,E x/\ ∀E':α->Prop,E' x->F E'
def qf (F:(AV->List Blk->Prop)->Prop):Prop:= ∀E:AV->List Blk->Prop,F E-> ∃r bs,E r bs/\ ∀E':AV->List Blk->Prop,E' r bs->F E'
theorem Out.pure {α:Type} (x:α):Out fun E:α->Prop=>E x:=fun _ h=>⟨x,h,fun _ h=>h⟩
theorem Out.no {α:Type}:Out fun _:α->Prop=>False:=fun _ h=>h.elim
theorem Out.bind {α β:Type} {F:(α->Prop)->Prop} {G:α->(β->Prop)->Prop} (hF:Out F) (hG: ∀x,Out (G x)):Out fun E=>F fun x=>G x E:=fun E h=>by
 obtain⟨x,h1,h2⟩:=hF _ h;obtain⟨y,h3,h4⟩:=hG x E h1;exact⟨y,h3,fun E' he=>h2 _ (h4 E' he)⟩
theorem Out.and {α:Type} {p:Prop} {F:(α->Prop)->Prop} (hF:Out F):Out fun E=>p/\F E:=fun E h=>by
 obtain⟨x,h1,h2⟩:=hF E h.2;exact⟨x,h1,fun E' he=>⟨h.1,h2 E' he⟩⟩
theorem qf.pure (r:AV) (bs:List Blk):qf fun E=>E r bs:=fun _ h=>⟨r,bs,h,fun _ h=>h⟩
theorem qf.no:qf fun _=>False:=fun _ h=>h.elim
theorem qf.bind {α:Type} {F:(α->Prop)->Prop} {G:α->(AV->List Blk->Prop)->Prop} (hF:Out F) (hG: ∀x,qf (G x)):qf fun E=>F fun x=>G x E:=fun E h=>by
 obtain⟨x,h1,h2⟩:=hF _ h;obtain⟨y,bs,h3,h4⟩:=hG x E h1;exact⟨y,bs,h3,fun E' he=>h2 _ (h4 E' he)⟩
theorem qf.and {p:Prop} {F:(AV->List Blk->Prop)->Prop} (hF:qf F):qf fun E=>p/\F E:=fun E h=>by
 obtain⟨x,bs,h1,h2⟩:=hF E h.2;exact⟨x,bs,h1,fun E' he=>⟨h.1,h2 E' he⟩⟩
theorem qf.idx {α:Type} (xs:List α) (j:Nat) {p:Prop} (hp:p->j<xs.length) {G:α->(AV->List Blk->Prop)->Prop} (hG: ∀x,qf (G x)):qf fun E=>p/\ ∀x,xs[j]? =some x->G x E:=fun E h=>by
 have hj:=hp h.1;have hx:xs[j]? =some xs[j]:=List.getElem?_eq_getElem hj;obtain⟨r,bs,h1,h2⟩:=hG _ E (h.2 _ hx);exact⟨r,bs,h1,fun E' he=>⟨h.1,fun y hy=>by rw[hx]at hy;cases hy;exact h2 E' he⟩⟩
theorem zrh: ∀(T:List (Nat×TI)) (t:Nat),Out (tgL T t)
 | [],_=>Out.no
 |(a,i)::r,t=>by
  intro E h;simp only[tgL]at h⊢
  cases e:q2 a t with
  |true=>simp only[e]at h⊢;exact⟨i,h,fun _ h=>h⟩
  |false=>simp only[e]at h⊢;exact zrh r t E h
theorem vg (T:Tab) (t:Nat):Out (tgK T t):=zrh T.ty t
theorem zj6 (l:List AV):Out (zis l):=fun E h=>⟨l,(qv l E).1 h,fun E' he=>(qv l E').2 he⟩
theorem zcv: ∀(l:List AV) (o n:Nat),Out (cut l o n)
 |l,0,0=>by intro E h;cases l<;>(simp only[cut]at h⊢;exact⟨[],h,fun _ h=>h⟩)
 |a::l,0,n+1=>by
  have:=Out.bind (G:=fun r (k:List AV->Prop)=>k (a::r)) (zcv l 0 n) fun r=>Out.pure _
  intro E h;simp only[cut]at h⊢;exact this E h
 | [],0,_+1=>by intro E h;simp[cut]at h
 | _::l,off+1,n=>by intro E h;simp only[cut]at h⊢;exact zcv l off n E h
 | [],_+1,_=>by intro E h;simp[cut]at h
theorem zgp: ∀(l:List AV) (o:Nat) (m:List AV),Out (lay l o m)
 |l,0,[]=>by intro E h;cases l<;>(simp only[lay]at h⊢;exact⟨_,h,fun _ h=>h⟩)
 | _::l,0,b::m=>by
   have:=Out.bind (G:=fun r (k:List AV->Prop)=>k (b::r)) (zgp l 0 m) fun r=>Out.pure _
   intro E h;simp only[lay]at h⊢;exact this E h
 | [],0,_::_=>by intro E h;simp[lay]at h
 |a::l,off+1,m=>by
  have:=Out.bind (G:=fun r (k:List AV->Prop)=>k (a::r)) (zgp l off m) fun r=>Out.pure _
  intro E h;simp only[lay]at h⊢;exact this E h
 | [],_+1,m=>by intro E h;simp[lay]at h
theorem zsv (l:List AV):Out fun E:AV->Prop=>match l with
 | [a]=>E a
 | _=>False:=by
 intro E h;split at h
 ·exact⟨_,h,fun _ h=>h⟩
 ·exact h.elim
theorem zj0 (i:TI) (l:List AV) (off:Nat):Out (ldK i l off):=by
 intro E h;unfold ldK at h⊢
 cases e:i.agg with
 |true=>simp only[e]at h⊢;exact Out.bind (G:=fun r (E:AV->Prop)=>E (.agg r)) (zcv l off i.sz) (fun r=>Out.pure _) E h
 |false=>simp only[e]at h⊢;exact Out.bind (zcv l off 1) (fun r=>zsv r) E h
theorem zk4 (l:List AV) (o s:Nat) (a:Bool):Out (zqh l o s a):=by
 intro E h;unfold zqh at h⊢
 cases a with
 |true=>exact Out.bind (G:=fun r (E:AV->Prop)=>E (.agg r)) (zcv l o s) (fun r=>Out.pure _) E h
 |false=>exact Out.bind (zcv l o 1) (fun r=>zsv r) E h
theorem zg4 {G:Nat->Nat->Bool->(AV->List Blk->Prop)->Prop} (hG: ∀o s a,qf (G o s a)): ∀(fs:List (Nat×Nat×Bool)) (f:Nat),qf fun E=>zcd fs f fun o s a=>G o s a E
 |(o,s,a)::_,0=>by intro E h;simp only[zcd]at h⊢;exact hG o s a E h
 |(_,_,_)::r,f+1=>by intro E h;simp only[zcd]at h⊢;exact zg4 hG r f E h
 | [],_=>by intro E h;simp[zcd]at h
theorem zit {α:Type} {G:Nat->Nat->Bool->(α->Prop)->Prop} (hG: ∀o s a,Out (G o s a)): ∀(fs:List (Nat×Nat×Bool)) (f:Nat),Out fun E=>zcd fs f fun o s a=>G o s a E
 |(o,s,a)::_,0=>by intro E h;simp only[zcd]at h⊢;exact hG o s a E h
 |(_,_,_)::r,f+1=>by intro E h;simp only[zcd]at h⊢;exact zit hG r f E h
 | [],_=>by intro E h;simp[zcd]at h
theorem zlx (fs:List (Nat×Nat×Bool)): ∀(ps:List (Nat×AV)) (z:List AV),Out (zly fs ps z)
 | [],z=>by intro E h;simp only[zly]at h⊢;exact⟨z,h,fun _ h=>h⟩
 |(f,v)::r,z=>by
  intro E h;simp only[zly]at h⊢;refine zit (fun o s _=>?_) fs f E h;intro E h;cases h1:zta v.cs s<;>cases h2:zeh v.cs<;>simp only[h1,h2]at h⊢
  exact Out.bind (zgp z o v.cs) (fun z=>zlx fs r z) E h
theorem zlz (s:Nat): ∀(ps:List (Nat×AV)) (z:List AV),Out (zl0 s ps z)
 | [],z=>by intro E h;simp only[zl0]at h⊢;exact⟨z,h,fun _ h=>h⟩
 |(f,v)::r,z=>by
  intro E h;simp only[zl0]at h⊢;cases h1:zta v.cs s<;>cases h2:zeh v.cs<;>simp only[h1,h2]at h⊢
  exact Out.bind (zgp z (f*s) v.cs) (fun z=>zlz s r z) E h
theorem ww (a:AV):Out (zir a):=by
 intro E h;unfold zir at h;split at h
 ·exact⟨_,h,fun _ h=>h⟩
 ·exact h.elim
theorem zdz (a:AV):Out (zlt a):=by
 intro E h;unfold zlt at h;split at h
 ·exact⟨_,h,fun _ h=>h⟩
 ·exact h.elim
theorem zw8 (a:AV):Out (qc8 a):=by
 intro E h;unfold qc8 at h;split at h
 ·exact⟨_,h,fun _ h=>h⟩
 ·exact h.elim
theorem zj4 (a:AV):Out (qbs a):=by
 intro E h;unfold qbs at h;split at h
 ·exact⟨_,h,fun _ h=>h⟩
 ·exact h.elim
theorem zxb (a:AV):Out (qc9 a):=by
 intro E h;unfold qc9 at h;split at h
 ·exact⟨_,h,fun _ h=>h⟩
 ·exact⟨_,h,fun _ h=>h⟩
 ·exact h.elim
theorem ztt (a:AV):Out (gLs a):=by
 intro E h;unfold gLs at h;split at h
 ·exact⟨_,h,fun _ h=>h⟩
 ·exact⟨_,h,fun _ h=>h⟩
 ·exact h.elim
theorem qbt (a:AV):Out (gIs a):=by
 intro E h;unfold gIs at h;split at h
 ·exact⟨_,h,fun _ h=>h⟩
 ·exact⟨_,h,fun _ h=>h⟩
 ·exact h.elim
theorem qbv (l:List AV):Out fun E:Dy×List AV->Prop=>gDy l fun e r=>E (e,r):=by
 intro E h;unfold gDy at h;split at h
 ·exact Out.bind (zdz _) (fun _=>Out.bind (ztt _) fun _=>Out.bind (ww _) fun _=>Out.pure (_,_)) E h
 ·exact h.elim
theorem zdy {α:Type} {l:List AV} {G:Dy->List AV->(α->Prop)->Prop} (hG: ∀e r,Out (G e r)):Out fun E=>gDy l fun e r=>G e r E:=
 Out.bind (F:=fun E:Dy×List AV->Prop=>gDy l fun e r=>E (e,r)) (G:=fun x=>G x.1 x.2) (qbv l) fun x=>hG _ _
theorem qbu (l:List AV):Out fun E:Ex×List AV->Prop=>gEx l fun e r=>E (e,r):=by
 intro E h;unfold gEx at h;split at h
 ·exact Out.bind (ww _) (fun _=>Out.bind (ww _) fun _=>Out.bind (ww _) fun _=>Out.bind (zj4 _) fun _=>Out.bind (ww _) fun _=>
   Out.bind (zxb _) fun _=>Out.pure (_,_)) E h
 ·exact h.elim
theorem zf3 {α:Type} {l:List AV} {G:Ex->List AV->(α->Prop)->Prop} (hG: ∀e r,Out (G e r)):Out fun E=>gEx l fun e r=>G e r E:=
 Out.bind (F:=fun E:Ex×List AV->Prop=>gEx l fun e r=>E (e,r)) (G:=fun x=>G x.1 x.2) (qbu l) fun x=>hG _ _
theorem yx: ∀(k:Elt) (l:List AV),Out (qt k l)
 | .ex,l=>by
   intro E h;simp only[qt]at h⊢;refine zf3 (fun e r=>?_) E h;intro E h
   cases r with
   |nil=>exact⟨_,h,fun _ h=>h⟩
   |cons _ _=>exact h.elim
 | .ls,[s]=>fun E h=>ztt s E h
 | .ls,[]=>fun _ h=>False.elim h
 | .ls,_::_::_=>fun _ h=>False.elim h
 | .dy,l=>by
   intro E h;simp only[qt]at h⊢;refine zdy (fun e r=>?_) E h;intro E h
   cases r with
   |nil=>exact⟨_,h,fun _ h=>h⟩
   |cons _ _=>exact h.elim
 | .iv,l=>by
   intro E h;simp only[qt]at h⊢;refine zdy (fun e r=>zdy (fun e' r'=>?_)) E h;intro E h;split at h
   ·exact Out.bind (zdz _) (fun _=>Out.pure _) E h
   ·exact h.elim
 | .vs,[s]=>fun E h=>qbt s E h
 | .vs,[]=>fun _ h=>False.elim h
 | .vs,_::_::_=>fun _ h=>False.elim h
 | .ki,[]=>fun _ h=>False.elim h
 | .ki,s::l=>by
   intro E h;simp only[qt]at h⊢;refine Out.bind (ww s) (fun s=>zdy (fun e r=>zdy (fun e' r'=>?_))) E h;intro E h;split at h
   ·exact Out.bind (zdz _) (fun _=>Out.pure _) E h
   ·exact h.elim
 | .eqn,s::l=>by
   intro E h;simp only[qt]at h⊢;refine Out.bind (zj4 s) (fun s=>zf3 (fun e r=>?_)) E h;intro E h
   cases r with
   |nil=>exact⟨_,h,fun _ h=>h⟩
   |cons _ _=>exact h.elim
 | .ex2,l=>by
   intro E h;simp only[qt]at h⊢;refine zf3 (fun e r=>zf3 (fun e' r'=>?_)) E h;intro E h
   cases r' with
   |nil=>exact⟨_,h,fun _ h=>h⟩
   |cons _ _=>exact h.elim
 | .eqn,[]=>fun _ h=>False.elim h
 | .str,[s]=>fun E h=>zj4 s E h
 | .str,[]=>fun _ h=>False.elim h
 | .str,_::_::_=>fun _ h=>False.elim h
 | .int,[s]=>fun E h=>ww s E h
 | .int,[]=>fun _ h=>False.elim h
 | .int,_::_::_=>fun _ h=>False.elim h
 | .bool,[s]=>fun E h=>zdz s E h
 | .bool,[]=>fun _ h=>False.elim h
 | .bool,_::_::_=>fun _ h=>False.elim h
 | .u32,[s]=>fun E h=>zw8 s E h
 | .u32,[]=>fun _ h=>False.elim h
 | .u32,_::_::_=>fun _ h=>False.elim h
 | .rat,[a,b]=>fun E h=>Out.bind (ww a) (fun _=>Out.bind (ww b) fun _=>Out.pure _) E h
 | .rat,[]=>fun _ h=>False.elim h
 | .rat,[_]=>fun _ h=>False.elim h
 | .rat,_::_::_::_=>fun _ h=>False.elim h
 | .op,[a,b,c,d,e,f]=>fun E h=>Out.bind (ww a) (fun _=>Out.bind (ww b) fun _=>Out.bind (ww c) fun _=>Out.bind (ww d) fun _=>Out.bind (ww e) fun _=>Out.bind (ww f) fun _=>Out.pure _) E h
 | .op,[]=>fun _ h=>False.elim h
 | .op,[_]=>fun _ h=>False.elim h
 | .op,[_,_]=>fun _ h=>False.elim h
 | .op,[_,_,_]=>fun _ h=>False.elim h
 | .op,[_,_,_,_]=>fun _ h=>False.elim h
 | .op,[_,_,_,_,_]=>fun _ h=>False.elim h
 | .op,_::_::_::_::_::_::_::_=>fun _ h=>False.elim h
theorem zh7 (k:Elt): ∀l:List AV,Out (ze0 k l)
 | []=>by intro E h;simp only[ze0]at h⊢;exact⟨_,h,fun _ h=>h⟩
 |a::l=>by
  intro E h;simp only[ze0]at h⊢;exact Out.bind (yx k a.cs) (fun x=>Out.bind (G:=fun xs (K:List k.T->Prop)=>K (x::xs)) (zh7 k l) fun xs=>Out.pure _) E h
theorem zoi (k:Elt) (a:AV):Out (qai k a):=by
 intro E h;unfold qai at h;split at h<;>first|exact h.elim|exact⟨_,h,fun _ h=>h⟩
theorem zt0: ∀(z l m:List AV),Out (eqZ z l m):=by
 intro z
 induction z with
 |nil=>
  intro l m
  cases l with
  |nil=>
   cases m with
   |nil=>exact fun E h=>⟨true,h,fun _ h=>h⟩
   |cons b m=>exact fun E h=>False.elim h
  |cons a l=>exact fun E h=>False.elim h
 |cons x z ih=>
  intro l m
  cases x with
  |int k n=>
   cases k<;>first|exact fun E h=>False.elim h|skip
   cases l with
   |nil=>exact fun E h=>False.elim h
   |cons a l=>
    cases a with
    |int k a=>
     cases k<;>first|exact fun E h=>False.elim h|skip
     cases m with
     |nil=>exact fun E h=>False.elim h
     |cons b m=>
      cases b with
      |int k b=>
       cases k<;>first|exact fun E h=>False.elim h|skip
       exact Out.bind (G:=fun r (k:Bool->Prop)=>k (a==b&&r)) (ih l m) (fun r=>Out.pure _)
      | _=>exact fun E h=>False.elim h
    | _=>exact fun E h=>False.elim h
  |str s=>
   cases l with
   |nil=>exact fun E h=>False.elim h
   |cons a l=>
    cases a with
    |str a=>
     cases m with
     |nil=>exact fun E h=>False.elim h
     |cons b m=>
      cases b with
      |str b=>exact Out.bind (G:=fun r (k:Bool->Prop)=>k (a==b&&r)) (ih l m) (fun r=>Out.pure _)
      | _=>exact fun E h=>False.elim h
    | _=>exact fun E h=>False.elim h
  |bool s=>
   cases l with
   |nil=>exact fun E h=>False.elim h
   |cons a l=>
    cases a with
    |bool a=>
     cases m with
     |nil=>exact fun E h=>False.elim h
     |cons b m=>
      cases b with
      |bool b=>exact Out.bind (G:=fun r (k:Bool->Prop)=>k (a==b&&r)) (ih l m) (fun r=>Out.pure _)
      | _=>exact fun E h=>False.elim h
    | _=>exact fun E h=>False.elim h
  | _=>exact fun E h=>False.elim h
theorem zj1 (o:BinOp) (k:IntKind) (a b:Int):Out (qbq o k a b):=by
 cases o<;>first|exact Out.pure _ |exact Out.and (Out.pure _)
theorem zvp (o:BinOp) (a b:zd7):Out (strB o a b):=by
 cases o<;>first|exact Out.pure _ |exact Out.and (Out.pure _)|exact Out.no
theorem zxo (i:TI) (o:BinOp) (x y:AV):Out (qck i o x y):=by
 cases x<;>cases y<;>try exact Out.no
 case int.int k a k' b=>
  intro E h;cases o<;>simp only[qck]at h⊢
  case shl=>exact zj1 _ _ _ _ E h
  case shr=>exact zj1 _ _ _ _ E h
  all_goals (cases hk:znp k k'<;>simp only[hk]at h⊢;exact zj1 _ _ _ _ E h)
 case str.str a b=>exact zvp _ _ _
 case bool.bool a b=>
  unfold qck;cases q2 i.cls 6<;>cases o<;>first|exact Out.pure _ |exact Out.no
 case sl.nilsl k xs=>
  unfold qck;cases q2 i.cls 3<;>cases o<;>first|exact Out.pure _ |exact Out.no
 case agg.agg l m=>
  intro E h;simp only[qck]at h⊢;cases h1:i.eq<;>simp only[h1]at h⊢
  cases o<;>simp only at h⊢
  ·exact Out.bind (G:=fun r (E:AV->Prop)=>E (.bool r)) (zt0 i.z l m) (fun r=>Out.pure _) E h
  ·exact Out.bind (G:=fun r (E:AV->Prop)=>E (.bool !r)) (zt0 i.z l m) (fun r=>Out.pure _) E h
theorem zu0 (c:CT) (A:List AV) (ids:List Nat) (bs:List Blk):qf (app c A ids bs):=by
 intro E h;obtain⟨bs',r,hc,hk⟩:=h;unfold app;split at hk
 ·rename_i h1 h2 h3 h4 h5;exact⟨r,bs',hk,fun E' he=>⟨bs',r,hc,by rw[h1,h2,h3,h4,h5];exact he⟩⟩
 ·exact hk.elim
theorem zl3: ∀(n:Nat) (bs:List Blk),Out (zl5 n bs)
 |0,bs=>by intro E h;simp only[zl5]at h⊢;exact⟨bs,h,fun _ h=>h⟩
 |n+1,[]=>by intro E h;simp[zl5]at h
 |n+1,b::bs=>by
  intro E h;cases b<;>simp only[zl5]at h⊢
  exact zl3 n bs E h
theorem zxs (c:CT) (n dst:Nat) (A:List AV) (ids:List Nat) (bs:List Blk):qf (appN c n dst A ids bs):=by
 intro E h;unfold appN at h⊢;refine qf.bind (zl3 n bs) (fun bs=>?_) E h;intro E h;obtain⟨bs',nbs,r,hc,hk⟩:=h;split at hk
 ·rename_i h1 h2 h3 h4 h5 h6 h7 h8 h9 h10;exact⟨_,_,hk,fun E' he=>⟨bs',nbs,r,hc,by rw[h1,h2,h3,h4,h5,h6,h7,h8,h9,h10];exact he⟩⟩
 ·exact hk.elim
theorem zb4 (T:Tab) (t:Nat) {G:Elt->Elt->TI->(AV->List Blk->Prop)->Prop} (hG: ∀a b i,qf (G a b i)):qf fun E=>zhw T t fun a b i=>G a b i E:=by
 intro E h;unfold zhw at h⊢;refine qf.bind (vg T t) (fun i=>?_) E h;intro E h;split at h
 ·refine qf.bind (vg T _) (fun j=>?_) E h;intro E h;split at h
  ·refine qf.bind (vg T _) (fun v=>?_) E h;intro E h;split at h
   ·split at h
    ·rename_i e1 _ e2;simp only[e1,e2];exact hG _ _ _ E h
    ·exact h.elim
   ·exact h.elim
  ·exact h.elim
 ·exact h.elim
theorem zwr (T:Tab) (t:Nat) (x i:AV) (ok:Bool) (bs:List Blk):qf (lkOp T t x i ok bs):=by
 intro E h;unfold lkOp at h⊢;refine zb4 T t (fun kk vk v=>?_) E h;intro E h;split at h
 ·split at h
  ·rename_i h1 h2 h3;simp only[h1,h2,h3];refine qf.bind (yx _ _) (fun key=>qf.bind (yx _ _) (fun z=>qf.bind (zj0 _ _ _) fun u=>?_)) E h;intro E h;cases ok
   ·exact⟨_,_,h,fun _ h=>h⟩
   ·exact⟨_,_,h,fun _ h=>h⟩
  ·exact h.elim
 ·exact h.elim
theorem zo3 (T:Tab) (t:Nat) (m x y:AV) (bs:List Blk):qf (qex T t m x y bs):=by
 intro E h;unfold qex at h⊢;refine zb4 T t (fun kk vk v=>?_) E h;intro E h;split at h
 ·split at h
  ·rename_i h1 h2 h3 h4;simp only[h1,h2,h3,h4];exact qf.bind (yx _ _) (fun key=>qf.bind (yx _ _) (fun z=>qf.pure _ _)) E h
  ·exact h.elim
 ·exact h.elim
theorem un (x:Option AV) (d:Int):Out (zbx x d):=by
 intro E h;unfold zbx at h⊢;split at h
 ·exact⟨_,h,fun _ h=>h⟩
 ·exact⟨_,h,fun _ h=>h⟩
 ·exact h.elim
theorem zvt (i:TI) (x:AV) (lo hi mx:Option AV):qf (qcv i x lo hi mx):=by
 intro E h;unfold qcv at h⊢
 cases mx with
 |some y=>
  simp only at h⊢;split at h
  ·split at h
   ·rename_i e1 e2
    try simp only[e1,e2]
    exact qf.bind (un _ _) (fun l=>qf.and (qf.pure _ _)) E h
   ·exact h.elim
  ·exact h.elim
 |none=>
  simp only at h⊢;cases x<;>simp only at h⊢
  case str s=>
   cases e:q2 i.cls 5<;>simp only[e]at h⊢
   exact qf.bind (un _ _) (fun l=>qf.bind (un _ _) fun u=>qf.and (qf.pure _ _)) E h
  case nilsl=>
   cases e:q2 i.cls 3<;>simp only[e]at h⊢
   exact qf.bind (un _ _) (fun l=>qf.bind (un _ _) fun u=>qf.and (qf.pure _ _)) E h
  case sl k xs=>
   cases e:q2 i.cls 3<;>cases e':q2 i.esz k.size<;>simp only[e,e']at h⊢
   exact qf.bind (un _ _) (fun l=>qf.bind (un _ _) fun u=>qf.and (qf.pure _ _)) E h
theorem zs9 (bs:List Blk):qf (zql bs):=by
 intro E h;unfold zql at h⊢;split at h
 ·exact⟨_,_,h,fun _ h=>h⟩
 ·exact h.elim
theorem zs8 (i:TI) (x:AV) (bs:List Blk):qf (zlh i x bs):=by
 cases x<;>try exact qf.no
 case str s=>unfold zlh;cases q2 i.cls 5<;>first|exact qf.pure _ _ |exact qf.no
 case nilsl=>unfold zlh;cases q2 i.cls 3<;>first|exact qf.pure _ _ |exact qf.no
 case sl k xs=>unfold zlh;cases q2 i.cls 3<;>first|exact qf.pure _ _ |exact qf.no
 case ow=>unfold zlh;cases q2 i.cls 3<;>first|exact qf.pure _ _ |exact qf.no
 case own id=>
  intro E h;unfold zlh at h⊢;simp only at h⊢;split at h
  ·exact⟨_,_,h,fun _ h=>h⟩
  ·exact h.elim
theorem zu1 (T:Tab) (i:TI) (dst:Nat) (s x:AV) (bs:List Blk):qf (zxr T i dst s x bs):=by
 intro E h;unfold zxr at h;split at h
 ·refine qf.bind (vg T _) (fun j=>?_) E h;intro E h;split at h
  ·rename_i esz _ _ _ _ _ _ _ sz _ _ _ _ k _ _ bytes _;split at h
   ·split at h
    ·exact qf.bind (zoi _ x) (fun ys=>qf.and (qf.pure _ _)) E h
    ·split at h
     ·rename_i h1 h2 h3;simp only[h1,h2,h3];exact qf.bind (zoi _ x) (fun ys=>qf.and (qf.pure _ _)) E h
     ·exact h.elim
    ·exact h.elim
   ·exact h.elim
  ·exact h.elim
 ·exact h.elim
set_option maxHeartbeats 1000000 in
theorem qby (T:Tab) (C:Con) (op:Op) (dst:Nat) (ρ:Operand->AV) (ids:List Nat) (bs:List Blk):qf (ql T C op dst ρ ids bs):=by
 intro E h
 cases op with
 |move x=>exact⟨_,_,h,fun _ h=>h⟩
 |assign x=>exact⟨_,_,h,fun _ h=>h⟩
 |pick c a b=>
  simp only[ql]at h⊢;cases e:ρ c<;>simp only[e]at h⊢
  rename_i t;cases t
  ·exact⟨_,_,h,fun _ h=>h⟩
  ·exact⟨_,_,h,fun _ h=>h⟩
 |alloc t=>
  simp only[ql]at h⊢;split at h
  ·exact qf.bind (vg T t) (fun i=>qf.pure _ _) E h
  ·exact h.elim
 |box t x=>
  simp only[ql]at h⊢;split at h
  ·rename_i e;(try simp only[e]);exact⟨_,_,h,fun _ h=>h⟩
  ·exact h.elim
 |build t ps=>
  simp only[ql]at h⊢;refine qf.bind (vg T t) (fun i=>?_) E h;intro E h;split at h
  ·exact qf.bind (zlx _ _ _) (fun l=>qf.pure _ _) E h
  ·exact qf.bind (zlz _ _ _) (fun l=>qf.pure _ _) E h
  ·exact h.elim
 |buildSlice t n ps=>
  simp only[ql]at h⊢;refine qf.bind (vg T t) (fun i=>?_) E h;intro E h;split at h
  ·refine qf.bind (vg T _) (fun j=>?_) E h;intro E h;split at h
   ·split at h
    ·split at h
     ·split at h
      ·rename_i e;(try simp only[*]);exact⟨_,_,h,fun _ h=>h⟩
      ·exact h.elim
     ·split at h
      ·try simp only[*]
       exact qf.bind (zh7 _ _) (fun l=>qf.pure _ _) E h
      ·exact h.elim
    ·exact h.elim
   ·exact h.elim
  ·exact h.elim
 |makeSlice t l c=>
  simp only[ql]at h⊢;refine qf.bind (vg T t) (fun i=>?_) E h;intro E h;split at h
  ·refine qf.bind (vg T _) (fun j=>?_) E h;intro E h;split at h
   ·split at h
    ·rename_i e1 e2 e3 e4 e5 _;simp only[e1,e2,e3,e4,e5];exact qf.bind (yx _ _) (fun x=>qf.and (qf.pure _ _)) E h
    ·exact h.elim
   ·exact h.elim
  ·exact h.elim
 |load t p=>
  simp only[ql]at h⊢;cases e:ρ p<;>simp only[e]at h⊢
  case ptr i off=>
   split at h
   ·exact qf.bind (vg T t) (fun i=>qf.bind (zj0 i _ off) fun v=>qf.pure _ _) E h
   ·exact h.elim
  case rp k x off=>exact qf.bind (vg T t) (fun i=>qf.bind (zj0 i _ off) fun v=>qf.pure _ _) E h
  case opt i sz j off=>
   split at h
   ·split at h
    ·rename_i e;try simp only[e]
     exact qf.idx _ _ (fun h=>h) (fun x=>qf.bind (vg T t) (fun i=>qf.bind (zj0 i _ off) fun v=>qf.pure _ _)) E h
    ·exact h.elim
   ·exact h.elim
 |store t p v=>
  simp only[ql]at h⊢;refine qf.bind (vg T t) (fun i=>?_) E h;intro E h;cases e1:zta (ρ v).cs i.sz<;>cases e2:zeh (ρ v).cs <;>simp only[e1,e2]at h⊢
  split at h
  ·rename_i e;(try simp only[e]at h⊢);split at h
   ·exact qf.bind (zgp _ _ _) (fun l=>qf.pure _ _) E h
   ·exact h.elim
  ·rename_i e;(try simp only[e]at h⊢);split at h
   ·split at h
    ·rename_i e3 e4;try simp only[e3,e4]
     exact qf.bind (yx _ _) (fun l=>qf.and (qf.pure _ _)) E h
    ·exact h.elim
   ·exact h.elim
  ·exact h.elim
 |nilCheck x=>
  simp only[ql]at h⊢;cases e:ρ x<;>simp only[e]at h⊢ <;>exact⟨_,_,h,fun _ h=>h⟩
 |binOp o t x y ty=>
  simp only[ql]at h⊢;exact qf.bind (vg T t) (fun i=>qf.bind (zxo _ _ _ _) fun v=>qf.pure _ _) E h
 |unOp o t x=>
  simp only[ql]at h⊢;cases o<;>cases e:ρ x<;>simp only[e]at h⊢ <;>exact⟨_,_,h,fun _ h=>h⟩
 |convert s d x=>
  simp only[ql]at h⊢;refine qf.bind (vg T s) (fun j=>qf.bind (vg T d) (fun i=>?_)) E h;intro E h;cases e:ρ x<;>simp only[e]at h⊢
  ·split at h
   ·exact⟨_,_,h,fun _ h=>h⟩
   ·exact h.elim
  ·split at h
   ·rename_i e1 e2;(try simp only[e1,e2]);exact⟨_,_,h,fun _ h=>h⟩
   ·exact h.elim
 |makeFunc f x y=>
  simp only[ql]at h⊢;split at h
  ·rename_i e;(try simp only[e]);exact⟨_,_,h,fun _ h=>h⟩
  ·exact h.elim
 |fieldAddr t x f=>
  simp only[ql]at h⊢;refine qf.bind (vg T t) (fun i=>?_) E h;intro E h;split at h
  ·refine zg4 (fun o s a=>?_) _ _ E h;intro E h;cases e:ρ x<;>simp only[e]at h⊢ <;>exact⟨_,_,h,fun _ h=>h⟩
  ·exact h.elim
 |field t x f=>
  simp only[ql]at h⊢;refine qf.bind (vg T t) (fun i=>?_) E h;intro E h;split at h
  ·rename_i e;try simp only[e]
   exact zg4 (fun o s a=>qf.bind (zk4 _ _ _ _) fun v=>qf.pure _ _) _ _ E h
  ·exact h.elim
 |indexAddr t x i=>
  simp only[ql]at h⊢;refine qf.bind (vg T t) (fun ti=>?_) E h;intro E h;cases e:ρ i<;>simp only[e]at h⊢
  rename_i kk n;split at h
  ·cases e2:ρ x<;>simp only[e2]at h⊢
   ·split at h
    ·rename_i e3;try simp only[e3]
     exact qf.and (qf.pure _ _) E h
    ·exact h.elim
   ·split at h
    ·rename_i e3;try simp only[e3]
     exact qf.idx _ _ (fun h=>by omega) (fun x=>qf.pure _ _) E h
    ·exact h.elim
   ·split at h
    ·split at h
     ·rename_i e3;try simp only[e3]
      exact qf.and (qf.pure _ _) E h
     ·exact h.elim
    ·exact h.elim
  ·cases e2:ρ x<;>simp only[e2]at h⊢ <;>exact qf.and (qf.pure _ _) E h
  ·exact h.elim
 |index t x i=>
  simp only[ql]at h⊢;refine qf.bind (vg T t) (fun ti=>?_) E h;intro E h;split at h
  ·rename_i e1 e2 e3;try simp only[e1,e2,e3]
   exact qf.idx _ _ (fun h=>by omega) (fun x=>qf.pure _ _) E h
  ·rename_i e1 e2 e3;try simp only[e1,e2,e3]
   split at h
   ·rename_i e4;try simp only[e4]
    refine qf.bind (vg T _) (fun tj=>?_) E h;intro E h;exact qf.and (qf.bind (zk4 _ _ _ _) fun v=>qf.pure _ _) E h
   ·exact h.elim
  ·exact h.elim
 |extract x n=>
  simp only[ql]at h⊢;cases e:ρ x<;>simp only[e]at h⊢
  refine qf.bind (zcv _ _ _) (fun r=>?_) E h;intro E h;split at h
  ·exact⟨_,_,h,fun _ h=>h⟩
  ·exact h.elim
 |call c=>
  cases hc:c.callee with
  |value f=>
   simp only[ql,hc]at h⊢;cases e:ρ f<;>simp only[e]at h⊢
   case fn g caps=>
    cases e2:qc1 T g<;>simp only[e2]at h⊢
    ·exact qf.bind (zj6 _) (fun A=>zu0 _ A ids bs) E h
    ·exact qf.bind (zj6 _) (fun A=>zxs _ _ _ A ids bs) E h
   case cb l=>exact qf.bind (zj6 _) (fun A=>zu0 _ A ids bs) E h
  |invoke r m=>simp[ql,hc]at h
  |builtin b=>
   cases b with
   |len=>
    simp only[ql,hc]at h⊢;split at h
    ·rename_i e1 e2;try simp only[e1,e2]
     split at h
     ·rename_i e3;try simp only[e3]
      exact zb4 T _ (fun _ _ _=>zs9 _) E h
     ·rename_i e3;try simp only[e3]
      exact qf.bind (vg T _) (fun i=>zs8 _ _ _) E h
    ·exact h.elim
   |append=>
    simp only[ql,hc]at h⊢;split at h
    ·rename_i e1 e2;try simp only[e1,e2]
     split at h
     ·rename_i e3;try simp only[e3]
      exact qf.bind (vg T _) (fun i=>zu1 _ _ _ _ _ _) E h
     ·exact h.elim
    ·exact h.elim
   |max=>
    simp only[ql,hc]at h⊢;split at h
    ·rename_i e1;(try simp only[e1]);exact⟨_,_,h,fun _ h=>h⟩
    ·rename_i e1;(try simp only[e1]);exact⟨_,_,h,fun _ h=>h⟩
    ·exact h.elim
   |min=>
    simp only[ql,hc]at h⊢;split at h
    ·rename_i e1;(try simp only[e1]);exact⟨_,_,h,fun _ h=>h⟩
    ·exact h.elim
   | _=>simp[ql,hc]at h
 |makeMap t r=>
  simp only[ql]at h⊢;refine zb4 T t (fun kk vk v=>?_) E h;intro E h;split at h
  ·rename_i e1;simp only[e1];exact⟨_,_,h,fun _ h=>h⟩
  ·exact h.elim
 |lookup t x i ok=>exact zwr _ _ _ _ _ _ E h
 |mapUpdate t m k v=>exact zo3 _ _ _ _ _ _ E h
 |insert t m k v=>exact zo3 _ _ _ _ _ _ E h
 |slice t x lo hi mx=>
  simp only[ql]at h⊢;refine qf.bind (vg T t) (fun i=>?_) E h;intro E h
  cases hwn:qfk T hi with
  |true=>
   simp only[hwn]at h⊢;split at h
   ·rename_i e1 e2 e3 e4;try simp only[e1,e2,e3,e4]
    split at h
    ·rename_i e5 e6;try simp only[e5,e6]
     exact qf.and (qf.pure _ _) E h
    ·exact h.elim
   ·exact h.elim
  |false=>simp only[hwn]at h⊢;exact zvt _ _ _ _ _ E h
 | _=>exact False.elim h
end Go.Sx
