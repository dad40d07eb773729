/-
  What an operation yields can be drawn out of the execution: effO is a value and blocks, handed on.
-/
import Derived.Test.YtgehdbenidimlaaGreatDoorQSxO
set_option linter.unusedVariables false
set_option linter.unusedSimpArgs false
namespace Go.Sx
open Go
def Out {α:Type} (F:(α->Prop)->Prop):Prop:= ∀E:α->Prop,F E-> ∃x,E x/\ ∀E':α->Prop,E' x->F E'
def qd (F:(AV->List Blk->Prop)->Prop):Prop:= ∀E:AV->List Blk->Prop,F E-> ∃r bs,E r bs/\ ∀E':AV->List Blk->Prop,E' r bs->F E'
theorem Out.pure {α:Type} (x:α):Out fun E:α->Prop=>E x:=fun _ h=>⟨x,h,fun _ h=>h⟩
theorem Out.no {α:Type}:Out fun _:α->Prop=>False:=fun _ h=>h.elim
theorem Out.bind {α β:Type} {F:(α->Prop)->Prop} {G:α->(β->Prop)->Prop} (hF:Out F) (hG: ∀x,Out (G x)):Out fun E=>F fun x=>G x E:=fun E h=>by
 obtain⟨x,h1,h2⟩:=hF _ h;obtain⟨y,h3,h4⟩:=hG x E h1;exact⟨y,h3,fun E' he=>h2 _ (h4 E' he)⟩
theorem Out.and {α:Type} {p:Prop} {F:(α->Prop)->Prop} (hF:Out F):Out fun E=>p/\F E:=fun E h=>by
 obtain⟨x,h1,h2⟩:=hF E h.2;exact⟨x,h1,fun E' he=>⟨h.1,h2 E' he⟩⟩
theorem qd.pure (r:AV) (bs:List Blk):qd fun E=>E r bs:=fun _ h=>⟨r,bs,h,fun _ h=>h⟩
theorem qd.no:qd fun _=>False:=fun _ h=>h.elim
theorem qd.bind {α:Type} {F:(α->Prop)->Prop} {G:α->(AV->List Blk->Prop)->Prop} (hF:Out F) (hG: ∀x,qd (G x)):qd fun E=>F fun x=>G x E:=fun E h=>by
 obtain⟨x,h1,h2⟩:=hF _ h;obtain⟨y,bs,h3,h4⟩:=hG x E h1;exact⟨y,bs,h3,fun E' he=>h2 _ (h4 E' he)⟩
theorem qd.and {p:Prop} {F:(AV->List Blk->Prop)->Prop} (hF:qd F):qd fun E=>p/\F E:=fun E h=>by
 obtain⟨x,bs,h1,h2⟩:=hF E h.2;exact⟨x,bs,h1,fun E' he=>⟨h.1,h2 E' he⟩⟩
theorem qd.idx {α:Type} (xs:List α) (j:Nat) {p:Prop} (hp:p->j<xs.length) {G:α->(AV->List Blk->Prop)->Prop} (hG: ∀x,qd (G x)):qd fun E=>p/\ ∀x,xs[j]? =some x->G x E:=fun E h=>by
 have hj:=hp h.1;have hx:xs[j]? =some xs[j]:=List.getElem?_eq_getElem hj;obtain⟨r,bs,h1,h2⟩:=hG _ E (h.2 _ hx);exact⟨r,bs,h1,fun E' he=>⟨h.1,fun y hy=>by rw[hx]at hy;cases hy;exact h2 E' he⟩⟩
theorem zq3: ∀(T:List (Nat×TI)) (t:Nat),Out (tgL T t)
 | [],_=>Out.no
 |(a,i)::r,t=>by
  intro E h;simp only[tgL]at h⊢
  cases e:Nat.beq a t with
  |true=>simp only[e]at h⊢;exact⟨i,h,fun _ h=>h⟩
  |false=>simp only[e]at h⊢;exact zq3 r t E h
theorem vf (T:Tab) (t:Nat):Out (tgK T t):=zq3 T.ty t
theorem zju (l:List AV):Out (zig l):=fun E h=>⟨l,(qv l E).1 h,fun E' he=>(qv l E').2 he⟩
theorem zcq: ∀(l:List AV) (o n:Nat),Out (cut l o n)
 |l,0,0=>by intro E h;cases l<;>(simp only[cut]at h⊢;exact⟨[],h,fun _ h=>h⟩)
 |a::l,0,n+1=>by
  have:=Out.bind (G:=fun r (k:List AV->Prop)=>k (a::r)) (zcq l 0 n) fun r=>Out.pure _
  intro E h;simp only[cut]at h⊢;exact this E h
 | [],0,_+1=>by intro E h;simp[cut]at h
 | _::l,off+1,n=>by intro E h;simp only[cut]at h⊢;exact zcq l off n E h
 | [],_+1,_=>by intro E h;simp[cut]at h
theorem zgl: ∀(l:List AV) (o:Nat) (m:List AV),Out (lay l o m)
 |l,0,[]=>by intro E h;cases l<;>(simp only[lay]at h⊢;exact⟨_,h,fun _ h=>h⟩)
 | _::l,0,b::m=>by
   have:=Out.bind (G:=fun r (k:List AV->Prop)=>k (b::r)) (zgl l 0 m) fun r=>Out.pure _
   intro E h;simp only[lay]at h⊢;exact this E h
 | [],0,_::_=>by intro E h;simp[lay]at h
 |a::l,off+1,m=>by
  have:=Out.bind (G:=fun r (k:List AV->Prop)=>k (a::r)) (zgl l off m) fun r=>Out.pure _
  intro E h;simp only[lay]at h⊢;exact this E h
 | [],_+1,m=>by intro E h;simp[lay]at h
theorem zsn (l:List AV):Out fun E:AV->Prop=>match l with
 | [a]=>E a
 | _=>False:=by
 intro E h;split at h
 ·exact⟨_,h,fun _ h=>h⟩
 ·exact h.elim
theorem zjo (i:TI) (l:List AV) (off:Nat):Out (ldK i l off):=by
 intro E h;unfold ldK at h⊢
 cases e:i.agg with
 |true=>simp only[e]at h⊢;exact Out.bind (G:=fun r (E:AV->Prop)=>E (.agg r)) (zcq l off i.sz) (fun r=>Out.pure _) E h
 |false=>simp only[e]at h⊢;exact Out.bind (zcq l off 1) (fun r=>zsn r) E h
theorem zkv (l:List AV) (o s:Nat) (a:Bool):Out (zp4 l o s a):=by
 intro E h;unfold zp4 at h⊢
 cases a with
 |true=>exact Out.bind (G:=fun r (E:AV->Prop)=>E (.agg r)) (zcq l o s) (fun r=>Out.pure _) E h
 |false=>exact Out.bind (zcq l o 1) (fun r=>zsn r) E h
theorem zg0 {G:Nat->Nat->Bool->(AV->List Blk->Prop)->Prop} (hG: ∀o s a,qd (G o s a)): ∀(fs:List (Nat×Nat×Bool)) (f:Nat),qd fun E=>zb5 fs f fun o s a=>G o s a E
 |(o,s,a)::_,0=>by intro E h;simp only[zb5]at h⊢;exact hG o s a E h
 |(_,_,_)::r,f+1=>by intro E h;simp only[zb5]at h⊢;exact zg0 hG r f E h
 | [],_=>by intro E h;simp[zb5]at h
theorem zih {α:Type} {G:Nat->Nat->Bool->(α->Prop)->Prop} (hG: ∀o s a,Out (G o s a)): ∀(fs:List (Nat×Nat×Bool)) (f:Nat),Out fun E=>zb5 fs f fun o s a=>G o s a E
 |(o,s,a)::_,0=>by intro E h;simp only[zb5]at h⊢;exact hG o s a E h
 |(_,_,_)::r,f+1=>by intro E h;simp only[zb5]at h⊢;exact zih hG r f E h
 | [],_=>by intro E h;simp[zb5]at h
theorem zlq (fs:List (Nat×Nat×Bool)): ∀(ps:List (Nat×AV)) (z:List AV),Out (zlr fs ps z)
 | [],z=>by intro E h;simp only[zlr]at h⊢;exact⟨z,h,fun _ h=>h⟩
 |(f,v)::r,z=>by
  intro E h;simp only[zlr]at h⊢;refine zih (fun o s _=>?_) fs f E h;intro E h;cases h1:zs6 v.cs s<;>cases h2:zd9 v.cs<;>simp only[h1,h2]at h⊢
  exact Out.bind (zgl z o v.cs) (fun z=>zlq fs r z) E h
theorem zls (s:Nat): ∀(ps:List (Nat×AV)) (z:List AV),Out (zlt s ps z)
 | [],z=>by intro E h;simp only[zlt]at h⊢;exact⟨z,h,fun _ h=>h⟩
 |(f,v)::r,z=>by
  intro E h;simp only[zlt]at h⊢;cases h1:zs6 v.cs s<;>cases h2:zd9 v.cs<;>simp only[h1,h2]at h⊢
  exact Out.bind (zgl z (f*s) v.cs) (fun z=>zls s r z) E h
theorem wp (a:AV):Out (zif a):=by
 intro E h;unfold zif at h;split at h
 ·exact⟨_,h,fun _ h=>h⟩
 ·exact h.elim
theorem zdx (a:AV):Out (zll a):=by
 intro E h;unfold zll at h;split at h
 ·exact⟨_,h,fun _ h=>h⟩
 ·exact h.elim
theorem zwy (a:AV):Out (qco a):=by
 intro E h;unfold qco at h;split at h
 ·exact⟨_,h,fun _ h=>h⟩
 ·exact h.elim
theorem zjs (a:AV):Out (qa7 a):=by
 intro E h;unfold qa7 at h;split at h
 ·exact⟨_,h,fun _ h=>h⟩
 ·exact h.elim
theorem zw1 (a:AV):Out (qcp a):=by
 intro E h;unfold qcp at h;split at h
 ·exact⟨_,h,fun _ h=>h⟩
 ·exact⟨_,h,fun _ h=>h⟩
 ·exact h.elim
theorem ztq (a:AV):Out (gLs a):=by
 intro E h;unfold gLs at h;split at h
 ·exact⟨_,h,fun _ h=>h⟩
 ·exact⟨_,h,fun _ h=>h⟩
 ·exact h.elim
theorem qa8 (a:AV):Out (gIs a):=by
 intro E h;unfold gIs at h;split at h
 ·exact⟨_,h,fun _ h=>h⟩
 ·exact⟨_,h,fun _ h=>h⟩
 ·exact h.elim
theorem qba (l:List AV):Out fun E:Dy×List AV->Prop=>gDy l fun e r=>E (e,r):=by
 intro E h;unfold gDy at h;split at h
 ·exact Out.bind (zdx _) (fun _=>Out.bind (ztq _) fun _=>Out.bind (wp _) fun _=>Out.pure (_,_)) E h
 ·exact h.elim
theorem zdw {α:Type} {l:List AV} {G:Dy->List AV->(α->Prop)->Prop} (hG: ∀e r,Out (G e r)):Out fun E=>gDy l fun e r=>G e r E:=
 Out.bind (F:=fun E:Dy×List AV->Prop=>gDy l fun e r=>E (e,r)) (G:=fun x=>G x.1 x.2) (qba l) fun x=>hG _ _
theorem qa9 (l:List AV):Out fun E:Ex×List AV->Prop=>gEx l fun e r=>E (e,r):=by
 intro E h;unfold gEx at h;split at h
 ·exact Out.bind (wp _) (fun _=>Out.bind (wp _) fun _=>Out.bind (wp _) fun _=>Out.bind (zjs _) fun _=>Out.bind (wp _) fun _=>
   Out.bind (zw1 _) fun _=>Out.pure (_,_)) E h
 ·exact h.elim
theorem zfy {α:Type} {l:List AV} {G:Ex->List AV->(α->Prop)->Prop} (hG: ∀e r,Out (G e r)):Out fun E=>gEx l fun e r=>G e r E:=
 Out.bind (F:=fun E:Ex×List AV->Prop=>gEx l fun e r=>E (e,r)) (G:=fun x=>G x.1 x.2) (qa9 l) fun x=>hG _ _
theorem yr: ∀(k:Elt) (l:List AV),Out (qu k l)
 | .ex,l=>by
   intro E h;simp only[qu]at h⊢;refine zfy (fun e r=>?_) E h;intro E h
   cases r with
   |nil=>exact⟨_,h,fun _ h=>h⟩
   |cons _ _=>exact h.elim
 | .ls,[s]=>fun E h=>ztq s E h
 | .ls,[]=>fun _ h=>False.elim h
 | .ls,_::_::_=>fun _ h=>False.elim h
 | .dy,l=>by
   intro E h;simp only[qu]at h⊢;refine zdw (fun e r=>?_) E h;intro E h
   cases r with
   |nil=>exact⟨_,h,fun _ h=>h⟩
   |cons _ _=>exact h.elim
 | .iv,l=>by
   intro E h;simp only[qu]at h⊢;refine zdw (fun e r=>zdw (fun e' r'=>?_)) E h;intro E h;split at h
   ·exact Out.bind (zdx _) (fun _=>Out.pure _) E h
   ·exact h.elim
 | .vs,[s]=>fun E h=>qa8 s E h
 | .vs,[]=>fun _ h=>False.elim h
 | .vs,_::_::_=>fun _ h=>False.elim h
 | .ki,[]=>fun _ h=>False.elim h
 | .ki,s::l=>by
   intro E h;simp only[qu]at h⊢;refine Out.bind (wp s) (fun s=>zdw (fun e r=>zdw (fun e' r'=>?_))) E h;intro E h;split at h
   ·exact Out.bind (zdx _) (fun _=>Out.pure _) E h
   ·exact h.elim
 | .eqn,s::l=>by
   intro E h;simp only[qu]at h⊢;refine Out.bind (zjs s) (fun s=>zfy (fun e r=>?_)) E h;intro E h
   cases r with
   |nil=>exact⟨_,h,fun _ h=>h⟩
   |cons _ _=>exact h.elim
 | .ex2,l=>by
   intro E h;simp only[qu]at h⊢;refine zfy (fun e r=>zfy (fun e' r'=>?_)) E h;intro E h
   cases r' with
   |nil=>exact⟨_,h,fun _ h=>h⟩
   |cons _ _=>exact h.elim
 | .eqn,[]=>fun _ h=>False.elim h
 | .str,[s]=>fun E h=>zjs s E h
 | .str,[]=>fun _ h=>False.elim h
 | .str,_::_::_=>fun _ h=>False.elim h
 | .int,[s]=>fun E h=>wp s E h
 | .int,[]=>fun _ h=>False.elim h
 | .int,_::_::_=>fun _ h=>False.elim h
 | .bool,[s]=>fun E h=>zdx s E h
 | .bool,[]=>fun _ h=>False.elim h
 | .bool,_::_::_=>fun _ h=>False.elim h
 | .u32,[s]=>fun E h=>zwy s E h
 | .u32,[]=>fun _ h=>False.elim h
 | .u32,_::_::_=>fun _ h=>False.elim h
 | .rat,[a,b]=>fun E h=>Out.bind (wp a) (fun _=>Out.bind (wp b) fun _=>Out.pure _) E h
 | .rat,[]=>fun _ h=>False.elim h
 | .rat,[_]=>fun _ h=>False.elim h
 | .rat,_::_::_::_=>fun _ h=>False.elim h
 | .op,[a,b,c,d,e,f]=>fun E h=>Out.bind (wp a) (fun _=>Out.bind (wp b) fun _=>Out.bind (wp c) fun _=>Out.bind (wp d) fun _=>Out.bind (wp e) fun _=>Out.bind (wp f) fun _=>Out.pure _) E h
 | .op,[]=>fun _ h=>False.elim h
 | .op,[_]=>fun _ h=>False.elim h
 | .op,[_,_]=>fun _ h=>False.elim h
 | .op,[_,_,_]=>fun _ h=>False.elim h
 | .op,[_,_,_,_]=>fun _ h=>False.elim h
 | .op,[_,_,_,_,_]=>fun _ h=>False.elim h
 | .op,_::_::_::_::_::_::_::_=>fun _ h=>False.elim h
theorem zhz (k:Elt): ∀l:List AV,Out (zes k l)
 | []=>by intro E h;simp only[zes]at h⊢;exact⟨_,h,fun _ h=>h⟩
 |a::l=>by
  intro E h;simp only[zes]at h⊢;exact Out.bind (yr k a.cs) (fun x=>Out.bind (G:=fun xs (K:List k.T->Prop)=>K (x::xs)) (zhz k l) fun xs=>Out.pure _) E h
theorem zn6 (k:Elt) (a:AV):Out (zz3 k a):=by
 intro E h;unfold zz3 at h;split at h<;>first|exact h.elim|exact⟨_,h,fun _ h=>h⟩
theorem ztx: ∀(z l m:List AV),Out (eqZ z l m):=by
 intro z
 induction z with
 |nil=>
  intro l m
  cases l with
  |nil=>
   cases m with
   |nil=>exact fun E h=>⟨true,h,fun _ h=>h⟩
   |cons b m=>exact fun E h=>False.elim h
  |cons a l=>exact fun E h=>False.elim h
 |cons x z ih=>
  intro l m
  cases x with
  |int k n=>
   cases k<;>first|exact fun E h=>False.elim h|skip
   cases l with
   |nil=>exact fun E h=>False.elim h
   |cons a l=>
    cases a with
    |int k a=>
     cases k<;>first|exact fun E h=>False.elim h|skip
     cases m with
     |nil=>exact fun E h=>False.elim h
     |cons b m=>
      cases b with
      |int k b=>
       cases k<;>first|exact fun E h=>False.elim h|skip
       exact Out.bind (G:=fun r (k:Bool->Prop)=>k (a==b&&r)) (ih l m) (fun r=>Out.pure _)
      | _=>exact fun E h=>False.elim h
    | _=>exact fun E h=>False.elim h
  |str s=>
   cases l with
   |nil=>exact fun E h=>False.elim h
   |cons a l=>
    cases a with
    |str a=>
     cases m with
     |nil=>exact fun E h=>False.elim h
     |cons b m=>
      cases b with
      |str b=>exact Out.bind (G:=fun r (k:Bool->Prop)=>k (a==b&&r)) (ih l m) (fun r=>Out.pure _)
      | _=>exact fun E h=>False.elim h
    | _=>exact fun E h=>False.elim h
  |bool s=>
   cases l with
   |nil=>exact fun E h=>False.elim h
   |cons a l=>
    cases a with
    |bool a=>
     cases m with
     |nil=>exact fun E h=>False.elim h
     |cons b m=>
      cases b with
      |bool b=>exact Out.bind (G:=fun r (k:Bool->Prop)=>k (a==b&&r)) (ih l m) (fun r=>Out.pure _)
      | _=>exact fun E h=>False.elim h
    | _=>exact fun E h=>False.elim h
  | _=>exact fun E h=>False.elim h
theorem zjp (o:BinOp) (k:IntKind) (a b:Int):Out (qa4 o k a b):=by
 cases o<;>first|exact Out.pure _ |exact Out.and (Out.pure _)
theorem zvd (o:BinOp) (a b:zd1):Out (strB o a b):=by
 cases o<;>first|exact Out.pure _ |exact Out.and (Out.pure _)|exact Out.no
theorem zxd (i:TI) (o:BinOp) (x y:AV):Out (qbw i o x y):=by
 cases x<;>cases y<;>try exact Out.no
 case int.int k a k' b=>
  intro E h;cases o<;>simp only[qbw]at h⊢
  case shl=>exact zjp _ _ _ _ E h
  case shr=>exact zjp _ _ _ _ E h
  all_goals (cases hk:znf k k'<;>simp only[hk]at h⊢;exact zjp _ _ _ _ E h)
 case str.str a b=>exact zvd _ _ _
 case bool.bool a b=>
  unfold qbw;cases Nat.beq i.cls 6<;>cases o<;>first|exact Out.pure _ |exact Out.no
 case sl.nilsl k xs=>
  unfold qbw;cases Nat.beq i.cls 3<;>cases o<;>first|exact Out.pure _ |exact Out.no
 case agg.agg l m=>
  intro E h;simp only[qbw]at h⊢;cases h1:i.eq<;>simp only[h1]at h⊢
  cases o<;>simp only at h⊢
  ·exact Out.bind (G:=fun r (E:AV->Prop)=>E (.bool r)) (ztx i.z l m) (fun r=>Out.pure _) E h
  ·exact Out.bind (G:=fun r (E:AV->Prop)=>E (.bool !r)) (ztx i.z l m) (fun r=>Out.pure _) E h
theorem zus (c:CT) (A:List AV) (ids:List Nat) (bs:List Blk):qd (app c A ids bs):=by
 intro E h;obtain⟨bs',r,hc,hk⟩:=h;unfold app;split at hk
 ·rename_i h1 h2 h3 h4 h5;exact⟨r,bs',hk,fun E' he=>⟨bs',r,hc,by rw[h1,h2,h3,h4,h5];exact he⟩⟩
 ·exact hk.elim
theorem zlx: ∀(n:Nat) (bs:List Blk),Out (zlz n bs)
 |0,bs=>by intro E h;simp only[zlz]at h⊢;exact⟨bs,h,fun _ h=>h⟩
 |n+1,[]=>by intro E h;simp[zlz]at h
 |n+1,b::bs=>by
  intro E h;cases b<;>simp only[zlz]at h⊢
  exact zlx n bs E h
theorem zxj (c:CT) (n dst:Nat) (A:List AV) (ids:List Nat) (bs:List Blk):qd (appN c n dst A ids bs):=by
 intro E h;unfold appN at h⊢;refine qd.bind (zlx n bs) (fun bs=>?_) E h;intro E h;obtain⟨bs',nbs,r,hc,hk⟩:=h;split at hk
 ·rename_i h1 h2 h3 h4 h5 h6 h7 h8 h9 h10;exact⟨_,_,hk,fun E' he=>⟨bs',nbs,r,hc,by rw[h1,h2,h3,h4,h5,h6,h7,h8,h9,h10];exact he⟩⟩
 ·exact hk.elim
theorem zbt (T:Tab) (t:Nat) {G:Elt->Elt->TI->(AV->List Blk->Prop)->Prop} (hG: ∀a b i,qd (G a b i)):qd fun E=>zhm T t fun a b i=>G a b i E:=by
 intro E h;unfold zhm at h⊢;refine qd.bind (vf T t) (fun i=>?_) E h;intro E h;split at h
 ·refine qd.bind (vf T _) (fun j=>?_) E h;intro E h;split at h
  ·refine qd.bind (vf T _) (fun v=>?_) E h;intro E h;split at h
   ·split at h
    ·rename_i e1 _ e2;simp only[e1,e2];exact hG _ _ _ E h
    ·exact h.elim
   ·exact h.elim
  ·exact h.elim
 ·exact h.elim
theorem zwg (T:Tab) (t:Nat) (x i:AV) (ok:Bool) (bs:List Blk):qd (lkOp T t x i ok bs):=by
 intro E h;unfold lkOp at h⊢;refine zbt T t (fun kk vk v=>?_) E h;intro E h;split at h
 ·split at h
  ·rename_i h1 h2 h3;simp only[h1,h2,h3];refine qd.bind (yr _ _) (fun key=>qd.bind (yr _ _) (fun z=>qd.bind (zjo _ _ _) fun u=>?_)) E h;intro E h;cases ok
   ·exact⟨_,_,h,fun _ h=>h⟩
   ·exact⟨_,_,h,fun _ h=>h⟩
  ·exact h.elim
 ·exact h.elim
theorem zoq (T:Tab) (t:Nat) (m x y:AV) (bs:List Blk):qd (qd8 T t m x y bs):=by
 intro E h;unfold qd8 at h⊢;refine zbt T t (fun kk vk v=>?_) E h;intro E h;split at h
 ·split at h
  ·rename_i h1 h2 h3 h4;simp only[h1,h2,h3,h4];exact qd.bind (yr _ _) (fun key=>qd.bind (yr _ _) (fun z=>qd.pure _ _)) E h
  ·exact h.elim
 ·exact h.elim
theorem uf (x:Option AV) (d:Int):Out (zbl x d):=by
 intro E h;unfold zbl at h⊢;split at h
 ·exact⟨_,h,fun _ h=>h⟩
 ·exact⟨_,h,fun _ h=>h⟩
 ·exact h.elim
theorem zvh (i:TI) (x:AV) (lo hi mx:Option AV):qd (qcb i x lo hi mx):=by
 intro E h;unfold qcb at h⊢
 cases mx with
 |some y=>
  simp only at h⊢;split at h
  ·split at h
   ·rename_i e1 e2
    try simp only[e1,e2]
    exact qd.bind (uf _ _) (fun l=>qd.and (qd.pure _ _)) E h
   ·exact h.elim
  ·exact h.elim
 |none=>
  simp only at h⊢;cases x<;>simp only at h⊢
  case str s=>
   cases e:Nat.beq i.cls 5<;>simp only[e]at h⊢
   exact qd.bind (uf _ _) (fun l=>qd.bind (uf _ _) fun u=>qd.and (qd.pure _ _)) E h
  case nilsl=>
   cases e:Nat.beq i.cls 3<;>simp only[e]at h⊢
   exact qd.bind (uf _ _) (fun l=>qd.bind (uf _ _) fun u=>qd.and (qd.pure _ _)) E h
  case sl k xs=>
   cases e:Nat.beq i.cls 3<;>cases e':Nat.beq i.esz k.size<;>simp only[e,e']at h⊢
   exact qd.bind (uf _ _) (fun l=>qd.bind (uf _ _) fun u=>qd.and (qd.pure _ _)) E h
theorem zs5 (bs:List Blk):qd (zp7 bs):=by
 intro E h;unfold zp7 at h⊢;split at h
 ·exact⟨_,_,h,fun _ h=>h⟩
 ·exact h.elim
theorem zs4 (i:TI) (x:AV) (bs:List Blk):qd (zk8 i x bs):=by
 cases x<;>try exact qd.no
 case str s=>unfold zk8;cases Nat.beq i.cls 5<;>first|exact qd.pure _ _ |exact qd.no
 case nilsl=>unfold zk8;cases Nat.beq i.cls 3<;>first|exact qd.pure _ _ |exact qd.no
 case sl k xs=>unfold zk8;cases Nat.beq i.cls 3<;>first|exact qd.pure _ _ |exact qd.no
 case ow=>unfold zk8;cases Nat.beq i.cls 3<;>first|exact qd.pure _ _ |exact qd.no
 case own id=>
  intro E h;unfold zk8 at h⊢;simp only at h⊢;split at h
  ·exact⟨_,_,h,fun _ h=>h⟩
  ·exact h.elim
theorem zut (T:Tab) (i:TI) (dst:Nat) (s x:AV) (bs:List Blk):qd (zxi T i dst s x bs):=by
 intro E h;unfold zxi at h;split at h
 ·refine qd.bind (vf T _) (fun j=>?_) E h;intro E h;split at h
  ·rename_i esz _ _ _ _ _ _ _ sz _ _ _ _ k _ _ bytes _;split at h
   ·split at h
    ·exact qd.bind (zn6 _ x) (fun ys=>qd.and (qd.pure _ _)) E h
    ·split at h
     ·rename_i h1 h2 h3;simp only[h1,h2,h3];exact qd.bind (zn6 _ x) (fun ys=>qd.and (qd.pure _ _)) E h
     ·exact h.elim
    ·exact h.elim
   ·exact h.elim
  ·exact h.elim
 ·exact h.elim
set_option maxHeartbeats 1000000 in
theorem qbd (T:Tab) (C:Con) (op:Op) (dst:Nat) (ρ:Operand->AV) (ids:List Nat) (bs:List Blk):qd (qk T C op dst ρ ids bs):=by
 intro E h
 cases op with
 |move x=>exact⟨_,_,h,fun _ h=>h⟩
 |assign x=>exact⟨_,_,h,fun _ h=>h⟩
 |pick c a b=>
  simp only[qk]at h⊢;cases e:ρ c<;>simp only[e]at h⊢
  rename_i t;cases t
  ·exact⟨_,_,h,fun _ h=>h⟩
  ·exact⟨_,_,h,fun _ h=>h⟩
 |alloc t=>
  simp only[qk]at h⊢;split at h
  ·exact qd.bind (vf T t) (fun i=>qd.pure _ _) E h
  ·exact h.elim
 |box t x=>
  simp only[qk]at h⊢;split at h
  ·rename_i e;(try simp only[e]);exact⟨_,_,h,fun _ h=>h⟩
  ·exact h.elim
 |build t ps=>
  simp only[qk]at h⊢;refine qd.bind (vf T t) (fun i=>?_) E h;intro E h;split at h
  ·exact qd.bind (zlq _ _ _) (fun l=>qd.pure _ _) E h
  ·exact qd.bind (zls _ _ _) (fun l=>qd.pure _ _) E h
  ·exact h.elim
 |buildSlice t n ps=>
  simp only[qk]at h⊢;refine qd.bind (vf T t) (fun i=>?_) E h;intro E h;split at h
  ·refine qd.bind (vf T _) (fun j=>?_) E h;intro E h;split at h
   ·split at h
    ·split at h
     ·split at h
      ·rename_i e;(try simp only[*]);exact⟨_,_,h,fun _ h=>h⟩
      ·exact h.elim
     ·split at h
      ·try simp only[*]
       exact qd.bind (zhz _ _) (fun l=>qd.pure _ _) E h
      ·exact h.elim
    ·exact h.elim
   ·exact h.elim
  ·exact h.elim
 |makeSlice t l c=>
  simp only[qk]at h⊢;refine qd.bind (vf T t) (fun i=>?_) E h;intro E h;split at h
  ·refine qd.bind (vf T _) (fun j=>?_) E h;intro E h;split at h
   ·split at h
    ·rename_i e1 e2 e3 e4 e5 _;simp only[e1,e2,e3,e4,e5];exact qd.bind (yr _ _) (fun x=>qd.and (qd.pure _ _)) E h
    ·exact h.elim
   ·exact h.elim
  ·exact h.elim
 |load t p=>
  simp only[qk]at h⊢;cases e:ρ p<;>simp only[e]at h⊢
  case ptr i off=>
   split at h
   ·exact qd.bind (vf T t) (fun i=>qd.bind (zjo i _ off) fun v=>qd.pure _ _) E h
   ·exact h.elim
  case rp k x off=>exact qd.bind (vf T t) (fun i=>qd.bind (zjo i _ off) fun v=>qd.pure _ _) E h
  case opt i sz j off=>
   split at h
   ·split at h
    ·rename_i e;try simp only[e]
     exact qd.idx _ _ (fun h=>h) (fun x=>qd.bind (vf T t) (fun i=>qd.bind (zjo i _ off) fun v=>qd.pure _ _)) E h
    ·exact h.elim
   ·exact h.elim
 |store t p v=>
  simp only[qk]at h⊢;refine qd.bind (vf T t) (fun i=>?_) E h;intro E h;cases e1:zs6 (ρ v).cs i.sz<;>cases e2:zd9 (ρ v).cs <;>simp only[e1,e2]at h⊢
  split at h
  ·rename_i e;(try simp only[e]at h⊢);split at h
   ·exact qd.bind (zgl _ _ _) (fun l=>qd.pure _ _) E h
   ·exact h.elim
  ·rename_i e;(try simp only[e]at h⊢);split at h
   ·split at h
    ·rename_i e3 e4;try simp only[e3,e4]
     exact qd.bind (yr _ _) (fun l=>qd.and (qd.pure _ _)) E h
    ·exact h.elim
   ·exact h.elim
  ·exact h.elim
 |nilCheck x=>
  simp only[qk]at h⊢;cases e:ρ x<;>simp only[e]at h⊢ <;>exact⟨_,_,h,fun _ h=>h⟩
 |binOp o t x y ty=>
  simp only[qk]at h⊢;exact qd.bind (vf T t) (fun i=>qd.bind (zxd _ _ _ _) fun v=>qd.pure _ _) E h
 |unOp o t x=>
  simp only[qk]at h⊢;cases o<;>cases e:ρ x<;>simp only[e]at h⊢ <;>exact⟨_,_,h,fun _ h=>h⟩
 |convert s d x=>
  simp only[qk]at h⊢;refine qd.bind (vf T s) (fun j=>qd.bind (vf T d) (fun i=>?_)) E h;intro E h;cases e:ρ x<;>simp only[e]at h⊢
  ·split at h
   ·exact⟨_,_,h,fun _ h=>h⟩
   ·exact h.elim
  ·split at h
   ·rename_i e1 e2;(try simp only[e1,e2]);exact⟨_,_,h,fun _ h=>h⟩
   ·exact h.elim
 |makeFunc f x y=>
  simp only[qk]at h⊢;split at h
  ·rename_i e;(try simp only[e]);exact⟨_,_,h,fun _ h=>h⟩
  ·exact h.elim
 |fieldAddr t x f=>
  simp only[qk]at h⊢;refine qd.bind (vf T t) (fun i=>?_) E h;intro E h;split at h
  ·refine zg0 (fun o s a=>?_) _ _ E h;intro E h;cases e:ρ x<;>simp only[e]at h⊢ <;>exact⟨_,_,h,fun _ h=>h⟩
  ·exact h.elim
 |field t x f=>
  simp only[qk]at h⊢;refine qd.bind (vf T t) (fun i=>?_) E h;intro E h;split at h
  ·rename_i e;try simp only[e]
   exact zg0 (fun o s a=>qd.bind (zkv _ _ _ _) fun v=>qd.pure _ _) _ _ E h
  ·exact h.elim
 |indexAddr t x i=>
  simp only[qk]at h⊢;refine qd.bind (vf T t) (fun ti=>?_) E h;intro E h;cases e:ρ i<;>simp only[e]at h⊢
  rename_i kk n;split at h
  ·cases e2:ρ x<;>simp only[e2]at h⊢
   ·split at h
    ·rename_i e3;try simp only[e3]
     exact qd.and (qd.pure _ _) E h
    ·exact h.elim
   ·split at h
    ·rename_i e3;try simp only[e3]
     exact qd.idx _ _ (fun h=>by omega) (fun x=>qd.pure _ _) E h
    ·exact h.elim
   ·split at h
    ·split at h
     ·rename_i e3;try simp only[e3]
      exact qd.and (qd.pure _ _) E h
     ·exact h.elim
    ·exact h.elim
  ·cases e2:ρ x<;>simp only[e2]at h⊢ <;>exact qd.and (qd.pure _ _) E h
  ·exact h.elim
 |index t x i=>
  simp only[qk]at h⊢;refine qd.bind (vf T t) (fun ti=>?_) E h;intro E h;split at h
  ·rename_i e1 e2 e3;try simp only[e1,e2,e3]
   exact qd.idx _ _ (fun h=>by omega) (fun x=>qd.pure _ _) E h
  ·rename_i e1 e2 e3;try simp only[e1,e2,e3]
   split at h
   ·rename_i e4;try simp only[e4]
    refine qd.bind (vf T _) (fun tj=>?_) E h;intro E h;exact qd.and (qd.bind (zkv _ _ _ _) fun v=>qd.pure _ _) E h
   ·exact h.elim
  ·exact h.elim
 |extract x n=>
  simp only[qk]at h⊢;cases e:ρ x<;>simp only[e]at h⊢
  refine qd.bind (zcq _ _ _) (fun r=>?_) E h;intro E h;split at h
  ·exact⟨_,_,h,fun _ h=>h⟩
  ·exact h.elim
 |call c=>
  cases hc:c.callee with
  |value f=>
   simp only[qk,hc]at h⊢;cases e:ρ f<;>simp only[e]at h⊢
   case fn g caps=>
    cases e2:qch T g<;>simp only[e2]at h⊢
    ·exact qd.bind (zju _) (fun A=>zus _ A ids bs) E h
    ·exact qd.bind (zju _) (fun A=>zxj _ _ _ A ids bs) E h
   case cb l=>exact qd.bind (zju _) (fun A=>zus _ A ids bs) E h
  |invoke r m=>simp[qk,hc]at h
  |builtin b=>
   cases b with
   |len=>
    simp only[qk,hc]at h⊢;split at h
    ·rename_i e1 e2;try simp only[e1,e2]
     split at h
     ·rename_i e3;try simp only[e3]
      exact zbt T _ (fun _ _ _=>zs5 _) E h
     ·rename_i e3;try simp only[e3]
      exact qd.bind (vf T _) (fun i=>zs4 _ _ _) E h
    ·exact h.elim
   |append=>
    simp only[qk,hc]at h⊢;split at h
    ·rename_i e1 e2;try simp only[e1,e2]
     split at h
     ·rename_i e3;try simp only[e3]
      exact qd.bind (vf T _) (fun i=>zut _ _ _ _ _ _) E h
     ·exact h.elim
    ·exact h.elim
   |max=>
    simp only[qk,hc]at h⊢;split at h
    ·rename_i e1;(try simp only[e1]);exact⟨_,_,h,fun _ h=>h⟩
    ·rename_i e1;(try simp only[e1]);exact⟨_,_,h,fun _ h=>h⟩
    ·exact h.elim
   |min=>
    simp only[qk,hc]at h⊢;split at h
    ·rename_i e1;(try simp only[e1]);exact⟨_,_,h,fun _ h=>h⟩
    ·exact h.elim
   | _=>simp[qk,hc]at h
 |makeMap t r=>
  simp only[qk]at h⊢;refine zbt T t (fun kk vk v=>?_) E h;intro E h;split at h
  ·rename_i e1;simp only[e1];exact⟨_,_,h,fun _ h=>h⟩
  ·exact h.elim
 |lookup t x i ok=>exact zwg _ _ _ _ _ _ E h
 |mapUpdate t m k v=>exact zoq _ _ _ _ _ _ E h
 |insert t m k v=>exact zoq _ _ _ _ _ _ E h
 |slice t x lo hi mx=>
  simp only[qk]at h⊢;refine qd.bind (vf T t) (fun i=>?_) E h;intro E h
  cases hwn:qev T hi with
  |true=>
   simp only[hwn]at h⊢;split at h
   ·rename_i e1 e2 e3 e4;try simp only[e1,e2,e3,e4]
    split at h
    ·rename_i e5 e6;try simp only[e5,e6]
     exact qd.and (qd.pure _ _) E h
    ·exact h.elim
   ·exact h.elim
  |false=>simp only[hwn]at h⊢;exact zvh _ _ _ _ _ E h
 | _=>exact False.elim h
end Go.Sx
