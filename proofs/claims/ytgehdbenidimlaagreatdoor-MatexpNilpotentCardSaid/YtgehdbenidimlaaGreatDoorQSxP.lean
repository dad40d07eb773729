/-
  What an operation yields can be drawn out of the execution: effO is a value and blocks, handed on.
-/
import Derived.Test.YtgehdbenidimlaaGreatDoorQSxO
set_option linter.unusedVariables false
set_option linter.unusedSimpArgs false
namespace Go.Sx
open Go
def Out {α:Type} (F:(α→Prop)→Prop):Prop:= ∀E:α→Prop,F E→ ∃x,E x∧ ∀E':α→Prop,E' x→F E'
def zx (F:(AV→List Blk→Prop)→Prop):Prop:= ∀E:AV→List Blk→Prop,F E→ ∃r bs,E r bs∧ ∀E':AV→List Blk→Prop,E' r bs→F E'
theorem Out.pure {α:Type} (x:α):Out fun E:α→Prop=>E x:=fun _ h=>⟨x,h,fun _ h=>h⟩
theorem Out.no {α:Type}:Out fun _:α→Prop=>False:=fun _ h=>h.elim
theorem Out.bind {α β:Type} {F:(α→Prop)→Prop} {G:α→(β→Prop)→Prop} (hF:Out F) (hG: ∀x,Out (G x)):Out fun E=>F fun x=>G x E:=fun E h=>by
 obtain⟨x,h1,h2⟩:=hF _ h
 obtain⟨y,h3,h4⟩:=hG x E h1
 exact⟨y,h3,fun E' he=>h2 _ (h4 E' he)⟩
theorem Out.and {α:Type} {p:Prop} {F:(α→Prop)→Prop} (hF:Out F):Out fun E=>p∧F E:=fun E h=>by
 obtain⟨x,h1,h2⟩:=hF E h.2
 exact⟨x,h1,fun E' he=>⟨h.1,h2 E' he⟩⟩
theorem zx.pure (r:AV) (bs:List Blk):zx fun E=>E r bs:=fun _ h=>⟨r,bs,h,fun _ h=>h⟩
theorem zx.no:zx fun _=>False:=fun _ h=>h.elim
theorem zx.bind {α:Type} {F:(α→Prop)→Prop} {G:α→(AV→List Blk→Prop)→Prop} (hF:Out F) (hG: ∀x,zx (G x)):zx fun E=>F fun x=>G x E:=fun E h=>by
 obtain⟨x,h1,h2⟩:=hF _ h
 obtain⟨y,bs,h3,h4⟩:=hG x E h1
 exact⟨y,bs,h3,fun E' he=>h2 _ (h4 E' he)⟩
theorem zx.and {p:Prop} {F:(AV→List Blk→Prop)→Prop} (hF:zx F):zx fun E=>p∧F E:=fun E h=>by
 obtain⟨x,bs,h1,h2⟩:=hF E h.2
 exact⟨x,bs,h1,fun E' he=>⟨h.1,h2 E' he⟩⟩
theorem zx.idx {α:Type} (xs:List α) (j:Nat) {p:Prop} (hp:p→j<xs.length) {G:α→(AV→List Blk→Prop)→Prop} (hG: ∀x,zx (G x)):zx fun E=>p∧ ∀x,xs[j]? =some x→G x E:=fun E h=>by
 have hj:=hp h.1
 have hx:xs[j]? =some xs[j]:=List.getElem?_eq_getElem hj
 obtain⟨r,bs,h1,h2⟩:=hG _ E (h.2 _ hx)
 exact⟨r,bs,h1,fun E' he=>⟨h.1,fun y hy=>by rw[hx]at hy;cases hy;exact h2 E' he⟩⟩
theorem zok: ∀(T:List (Nat×TI)) (t:Nat),Out (tgL T t)
 | [],_=>Out.no
 |(a,i)::r,t=>by
  intro E h
  simp only[tgL]at h⊢
  cases e:Nat.beq a t with
  |true=>simp only[e]at h⊢;exact⟨i,h,fun _ h=>h⟩
  |false=>simp only[e]at h⊢;exact zok r t E h
theorem qt (T:Tab) (t:Nat):Out (tgK T t):=zok T.ty t
theorem zhr (l:List AV):Out (zgn l):=fun E h=>⟨l,(qo l E).1 h,fun E' he=>(qo l E').2 he⟩
theorem zbc: ∀(l:List AV) (o n:Nat),Out (cut l o n)
 |l,0,0=>by intro E h;cases l<;>(simp only[cut]at h⊢;exact⟨[],h,fun _ h=>h⟩)
 |a::l,0,n+1=>by
  have:=Out.bind (G:=fun r (k:List AV→Prop)=>k (a::r)) (zbc l 0 n) fun r=>Out.pure _
  intro E h;simp only[cut]at h⊢;exact this E h
 | [],0,_+1=>by intro E h;simp[cut]at h
 | _::l,off+1,n=>by intro E h;simp only[cut]at h⊢;exact zbc l off n E h
 | [],_+1,_=>by intro E h;simp[cut]at h
theorem zev: ∀(l:List AV) (o:Nat) (m:List AV),Out (lay l o m)
 |l,0,[]=>by intro E h;cases l<;>(simp only[lay]at h⊢;exact⟨_,h,fun _ h=>h⟩)
 | _::l,0,b::m=>by
   have:=Out.bind (G:=fun r (k:List AV→Prop)=>k (b::r)) (zev l 0 m) fun r=>Out.pure _
   intro E h;simp only[lay]at h⊢;exact this E h
 | [],0,_::_=>by intro E h;simp[lay]at h
 |a::l,off+1,m=>by
  have:=Out.bind (G:=fun r (k:List AV→Prop)=>k (a::r)) (zev l off m) fun r=>Out.pure _
  intro E h;simp only[lay]at h⊢;exact this E h
 | [],_+1,m=>by intro E h;simp[lay]at h
theorem zpk (l:List AV):Out fun E:AV→Prop=>match l with
 | [a]=>E a
 | _=>False:=by
 intro E h
 split at h
 ·exact⟨_,h,fun _ h=>h⟩
 ·exact h.elim
theorem zhm (i:TI) (l:List AV) (off:Nat):Out (ldK i l off):=by
 intro E h
 unfold ldK at h⊢
 cases e:i.agg with
 |true=>simp only[e]at h⊢;exact Out.bind (G:=fun r (E:AV→Prop)=>E (.agg r)) (zbc l off i.sz) (fun r=>Out.pure _) E h
 |false=>simp only[e]at h⊢;exact Out.bind (zbc l off 1) (fun r=>zpk r) E h
theorem zik (l:List AV) (o s:Nat) (a:Bool):Out (znq l o s a):=by
 intro E h
 unfold znq at h⊢
 cases a with
 |true=>exact Out.bind (G:=fun r (E:AV→Prop)=>E (.agg r)) (zbc l o s) (fun r=>Out.pure _) E h
 |false=>exact Out.bind (zbc l o 1) (fun r=>zpk r) E h
theorem zfa {G:Nat→Nat→Bool→(AV→List Blk→Prop)→Prop} (hG: ∀o s a,zx (G o s a)): ∀(fs:List (Nat×Nat×Bool)) (f:Nat),zx fun E=>zav fs f fun o s a=>G o s a E
 |(o,s,a)::_,0=>by intro E h;simp only[zav]at h⊢;exact hG o s a E h
 |(_,_,_)::r,f+1=>by intro E h;simp only[zav]at h⊢;exact zfa hG r f E h
 | [],_=>by intro E h;simp[zav]at h
theorem zgo {α:Type} {G:Nat→Nat→Bool→(α→Prop)→Prop} (hG: ∀o s a,Out (G o s a)): ∀(fs:List (Nat×Nat×Bool)) (f:Nat),Out fun E=>zav fs f fun o s a=>G o s a E
 |(o,s,a)::_,0=>by intro E h;simp only[zav]at h⊢;exact hG o s a E h
 |(_,_,_)::r,f+1=>by intro E h;simp only[zav]at h⊢;exact zgo hG r f E h
 | [],_=>by intro E h;simp[zav]at h
theorem zi8 (fs:List (Nat×Nat×Bool)): ∀(ps:List (Nat×AV)) (z:List AV),Out (zi9 fs ps z)
 | [],z=>by intro E h;simp only[zi9]at h⊢;exact⟨z,h,fun _ h=>h⟩
 |(f,v)::r,z=>by
  intro E h
  simp only[zi9]at h⊢
  refine zgo (fun o s _=>?_) fs f E h
  intro E h
  cases h1:zp3 v.cs s<;>cases h2:zcl v.cs<;>simp only[h1,h2]at h⊢
  exact Out.bind (zev z o v.cs) (fun z=>zi8 fs r z) E h
theorem zja (s:Nat): ∀(ps:List (Nat×AV)) (z:List AV),Out (zjb s ps z)
 | [],z=>by intro E h;simp only[zjb]at h⊢;exact⟨z,h,fun _ h=>h⟩
 |(f,v)::r,z=>by
  intro E h
  simp only[zjb]at h⊢
  cases h1:zp3 v.cs s<;>cases h2:zcl v.cs<;>simp only[h1,h2]at h⊢
  exact Out.bind (zev z (f*s) v.cs) (fun z=>zja s r z) E h
theorem wd (a:AV):Out (zgm a):=by
 intro E h;unfold zgm at h;split at h
 ·exact⟨_,h,fun _ h=>h⟩
 ·exact h.elim
theorem zca (a:AV):Out (zi5 a):=by
 intro E h;unfold zi5 at h;split at h
 ·exact⟨_,h,fun _ h=>h⟩
 ·exact h.elim
theorem zs2 (a:AV):Out (zxy a):=by
 intro E h;unfold zxy at h;split at h
 ·exact⟨_,h,fun _ h=>h⟩
 ·exact h.elim
theorem zhp (a:AV):Out (zwi a):=by
 intro E h;unfold zwi at h;split at h
 ·exact⟨_,h,fun _ h=>h⟩
 ·exact h.elim
theorem zs5 (a:AV):Out (zxz a):=by
 intro E h;unfold zxz at h;split at h
 ·exact⟨_,h,fun _ h=>h⟩
 ·exact⟨_,h,fun _ h=>h⟩
 ·exact h.elim
theorem zqh (a:AV):Out (gLs a):=by
 intro E h;unfold gLs at h;split at h
 ·exact⟨_,h,fun _ h=>h⟩
 ·exact⟨_,h,fun _ h=>h⟩
 ·exact h.elim
theorem zwj (a:AV):Out (gIs a):=by
 intro E h;unfold gIs at h;split at h
 ·exact⟨_,h,fun _ h=>h⟩
 ·exact⟨_,h,fun _ h=>h⟩
 ·exact h.elim
theorem zwl (l:List AV):Out fun E:Dy×List AV→Prop=>gDy l fun e r=>E (e,r):=by
 intro E h
 unfold gDy at h
 split at h
 ·exact Out.bind (zca _) (fun _=>Out.bind (zqh _) fun _=>Out.bind (wd _) fun _=>Out.pure (_,_)) E h
 ·exact h.elim
theorem zb9 {α:Type} {l:List AV} {G:Dy→List AV→(α→Prop)→Prop} (hG: ∀e r,Out (G e r)):Out fun E=>gDy l fun e r=>G e r E:=
 Out.bind (F:=fun E:Dy×List AV→Prop=>gDy l fun e r=>E (e,r)) (G:=fun x=>G x.1 x.2) (zwl l) fun x=>hG _ _
theorem zwk (l:List AV):Out fun E:Ex×List AV→Prop=>gEx l fun e r=>E (e,r):=by
 intro E h
 unfold gEx at h
 split at h
 ·exact Out.bind (wd _) (fun _=>Out.bind (wd _) fun _=>Out.bind (wd _) fun _=>Out.bind (zhp _) fun _=>Out.bind (wd _) fun _=>
   Out.bind (zs5 _) fun _=>Out.pure (_,_)) E h
 ·exact h.elim
theorem zd9 {α:Type} {l:List AV} {G:Ex→List AV→(α→Prop)→Prop} (hG: ∀e r,Out (G e r)):Out fun E=>gEx l fun e r=>G e r E:=
 Out.bind (F:=fun E:Ex×List AV→Prop=>gEx l fun e r=>E (e,r)) (G:=fun x=>G x.1 x.2) (zwk l) fun x=>hG _ _
theorem uj: ∀(k:Elt) (l:List AV),Out (qn k l)
 | .ex,l=>by
   intro E h;simp only[qn]at h⊢
   refine zd9 (fun e r=>?_) E h
   intro E h
   cases r with
   |nil=>exact⟨_,h,fun _ h=>h⟩
   |cons _ _=>exact h.elim
 | .ls,[s]=>fun E h=>zqh s E h
 | .ls,[]=>fun _ h=>False.elim h
 | .ls,_::_::_=>fun _ h=>False.elim h
 | .dy,l=>by
   intro E h;simp only[qn]at h⊢
   refine zb9 (fun e r=>?_) E h
   intro E h
   cases r with
   |nil=>exact⟨_,h,fun _ h=>h⟩
   |cons _ _=>exact h.elim
 | .iv,l=>by
   intro E h;simp only[qn]at h⊢
   refine zb9 (fun e r=>zb9 (fun e' r'=>?_)) E h
   intro E h
   split at h
   ·exact Out.bind (zca _) (fun _=>Out.pure _) E h
   ·exact h.elim
 | .vs,[s]=>fun E h=>zwj s E h
 | .vs,[]=>fun _ h=>False.elim h
 | .vs,_::_::_=>fun _ h=>False.elim h
 | .ki,[]=>fun _ h=>False.elim h
 | .ki,s::l=>by
   intro E h;simp only[qn]at h⊢
   refine Out.bind (wd s) (fun s=>zb9 (fun e r=>zb9 (fun e' r'=>?_))) E h
   intro E h
   split at h
   ·exact Out.bind (zca _) (fun _=>Out.pure _) E h
   ·exact h.elim
 | .eqn,s::l=>by
   intro E h;simp only[qn]at h⊢
   refine Out.bind (zhp s) (fun s=>zd9 (fun e r=>?_)) E h
   intro E h
   cases r with
   |nil=>exact⟨_,h,fun _ h=>h⟩
   |cons _ _=>exact h.elim
 | .ex2,l=>by
   intro E h;simp only[qn]at h⊢
   refine zd9 (fun e r=>zd9 (fun e' r'=>?_)) E h
   intro E h
   cases r' with
   |nil=>exact⟨_,h,fun _ h=>h⟩
   |cons _ _=>exact h.elim
 | .eqn,[]=>fun _ h=>False.elim h
 | .str,[s]=>fun E h=>zhp s E h
 | .str,[]=>fun _ h=>False.elim h
 | .str,_::_::_=>fun _ h=>False.elim h
 | .int,[s]=>fun E h=>wd s E h
 | .int,[]=>fun _ h=>False.elim h
 | .int,_::_::_=>fun _ h=>False.elim h
 | .bool,[s]=>fun E h=>zca s E h
 | .bool,[]=>fun _ h=>False.elim h
 | .bool,_::_::_=>fun _ h=>False.elim h
 | .u32,[s]=>fun E h=>zs2 s E h
 | .u32,[]=>fun _ h=>False.elim h
 | .u32,_::_::_=>fun _ h=>False.elim h
 | .rat,[a,b]=>fun E h=>Out.bind (wd a) (fun _=>Out.bind (wd b) fun _=>Out.pure _) E h
 | .rat,[]=>fun _ h=>False.elim h
 | .rat,[_]=>fun _ h=>False.elim h
 | .rat,_::_::_::_=>fun _ h=>False.elim h
 | .op,[a,b,c,d,e,f]=>fun E h=>Out.bind (wd a) (fun _=>Out.bind (wd b) fun _=>Out.bind (wd c) fun _=>Out.bind (wd d) fun _=>Out.bind (wd e) fun _=>Out.bind (wd f) fun _=>Out.pure _) E h
 | .op,[]=>fun _ h=>False.elim h
 | .op,[_]=>fun _ h=>False.elim h
 | .op,[_,_]=>fun _ h=>False.elim h
 | .op,[_,_,_]=>fun _ h=>False.elim h
 | .op,[_,_,_,_]=>fun _ h=>False.elim h
 | .op,[_,_,_,_,_]=>fun _ h=>False.elim h
 | .op,_::_::_::_::_::_::_::_=>fun _ h=>False.elim h
theorem zf9 (k:Elt): ∀l:List AV,Out (zc2 k l)
 | []=>by intro E h;simp only[zc2]at h⊢;exact⟨_,h,fun _ h=>h⟩
 |a::l=>by
  intro E h;simp only[zc2]at h⊢
  exact Out.bind (uj k a.cs) (fun x=>Out.bind (G:=fun xs (K:List k.T→Prop)=>K (x::xs)) (zf9 k l) fun xs=>Out.pure _) E h
theorem zls (k:Elt) (a:AV):Out (zvj k a):=by
 intro E h
 unfold zvj at h
 split at h<;>first|exact h.elim|exact⟨_,h,fun _ h=>h⟩
theorem zqo: ∀(z l m:List AV),Out (eqZ z l m):=by
 intro z
 induction z with
 |nil=>
  intro l m
  cases l with
  |nil=>
   cases m with
   |nil=>exact fun E h=>⟨true,h,fun _ h=>h⟩
   |cons b m=>exact fun E h=>False.elim h
  |cons a l=>exact fun E h=>False.elim h
 |cons x z ih=>
  intro l m
  cases x with
  |int k n=>
   cases k<;>first|exact fun E h=>False.elim h|skip
   cases l with
   |nil=>exact fun E h=>False.elim h
   |cons a l=>
    cases a with
    |int k a=>
     cases k<;>first|exact fun E h=>False.elim h|skip
     cases m with
     |nil=>exact fun E h=>False.elim h
     |cons b m=>
      cases b with
      |int k b=>
       cases k<;>first|exact fun E h=>False.elim h|skip
       exact Out.bind (G:=fun r (k:Bool→Prop)=>k (a==b&&r)) (ih l m) (fun r=>Out.pure _)
      | _=>exact fun E h=>False.elim h
    | _=>exact fun E h=>False.elim h
  |str s=>
   cases l with
   |nil=>exact fun E h=>False.elim h
   |cons a l=>
    cases a with
    |str a=>
     cases m with
     |nil=>exact fun E h=>False.elim h
     |cons b m=>
      cases b with
      |str b=>exact Out.bind (G:=fun r (k:Bool→Prop)=>k (a==b&&r)) (ih l m) (fun r=>Out.pure _)
      | _=>exact fun E h=>False.elim h
    | _=>exact fun E h=>False.elim h
  |bool s=>
   cases l with
   |nil=>exact fun E h=>False.elim h
   |cons a l=>
    cases a with
    |bool a=>
     cases m with
     |nil=>exact fun E h=>False.elim h
     |cons b m=>
      cases b with
      |bool b=>exact Out.bind (G:=fun r (k:Bool→Prop)=>k (a==b&&r)) (ih l m) (fun r=>Out.pure _)
      | _=>exact fun E h=>False.elim h
    | _=>exact fun E h=>False.elim h
  | _=>exact fun E h=>False.elim h
theorem zhn (o:BinOp) (k:IntKind) (a b:Int):Out (zwe o k a b):=by
 cases o<;>first|exact Out.pure _ |exact Out.and (Out.pure _)
theorem zrw (o:BinOp) (a b:zcg):Out (strB o a b):=by
 cases o<;>first|exact Out.pure _ |exact Out.and (Out.pure _)|exact Out.no
theorem ztj (i:TI) (o:BinOp) (x y:AV):Out (zw8 i o x y):=by
 cases x<;>cases y<;>try exact Out.no
 case int.int k a k' b=>
  intro E h
  cases o<;>simp only[zw8]at h⊢
  case shl=>exact zhn _ _ _ _ E h
  case shr=>exact zhn _ _ _ _ E h
  all_goals (cases hk:zku k k'<;>simp only[hk]at h⊢;exact zhn _ _ _ _ E h)
 case str.str a b=>exact zrw _ _ _
 case bool.bool a b=>
  unfold zw8
  cases Nat.beq i.cls 6<;>cases o<;>first|exact Out.pure _ |exact Out.no
 case sl.nilsl k xs=>
  unfold zw8
  cases Nat.beq i.cls 3<;>cases o<;>first|exact Out.pure _ |exact Out.no
 case agg.agg l m=>
  intro E h
  simp only[zw8]at h⊢
  cases h1:i.eq<;>simp only[h1]at h⊢
  cases o<;>simp only at h⊢
  ·exact Out.bind (G:=fun r (E:AV→Prop)=>E (.bool r)) (zqo i.z l m) (fun r=>Out.pure _) E h
  ·exact Out.bind (G:=fun r (E:AV→Prop)=>E (.bool !r)) (zqo i.z l m) (fun r=>Out.pure _) E h
theorem zrc (c:CT) (A:List AV) (ids:List Nat) (bs:List Blk):zx (app c A ids bs):=by
 intro E h
 obtain⟨bs',r,hc,hk⟩:=h
 unfold app
 split at hk
 ·rename_i h1 h2 h3 h4 h5
  exact⟨r,bs',hk,fun E' he=>⟨bs',r,hc,by rw[h1,h2,h3,h4,h5];exact he⟩⟩
 ·exact hk.elim
theorem zjg: ∀(n:Nat) (bs:List Blk),Out (zji n bs)
 |0,bs=>by intro E h;simp only[zji]at h⊢;exact⟨bs,h,fun _ h=>h⟩
 |n+1,[]=>by intro E h;simp[zji]at h
 |n+1,b::bs=>by
  intro E h
  cases b<;>simp only[zji]at h⊢
  exact zjg n bs E h
theorem ztn (c:CT) (n dst:Nat) (A:List AV) (ids:List Nat) (bs:List Blk):zx (appN c n dst A ids bs):=by
 intro E h
 unfold appN at h⊢
 refine zx.bind (zjg n bs) (fun bs=>?_) E h
 intro E h
 obtain⟨bs',nbs,r,hc,hk⟩:=h
 split at hk
 ·rename_i h1 h2 h3 h4 h5 h6 h7 h8 h9 h10
  exact⟨_,_,hk,fun E' he=>⟨bs',nbs,r,hc,by rw[h1,h2,h3,h4,h5,h6,h7,h8,h9,h10];exact he⟩⟩
 ·exact hk.elim
theorem zaj (T:Tab) (t:Nat) {G:Elt→Elt→TI→(AV→List Blk→Prop)→Prop} (hG: ∀a b i,zx (G a b i)):zx fun E=>zfw T t fun a b i=>G a b i E:=by
 intro E h
 unfold zfw at h⊢
 refine zx.bind (qt T t) (fun i=>?_) E h
 intro E h
 split at h
 ·refine zx.bind (qt T _) (fun j=>?_) E h
  intro E h
  split at h
  ·refine zx.bind (qt T _) (fun v=>?_) E h
   intro E h
   split at h
   ·split at h
    ·rename_i e1 _ e2
     simp only[e1,e2]
     exact hG _ _ _ E h
    ·exact h.elim
   ·exact h.elim
  ·exact h.elim
 ·exact h.elim
theorem zsr (T:Tab) (t:Nat) (x i:AV) (ok:Bool) (bs:List Blk):zx (lkOp T t x i ok bs):=by
 intro E h
 unfold lkOp at h⊢
 refine zaj T t (fun kk vk v=>?_) E h
 intro E h
 split at h
 ·split at h
  ·rename_i h1 h2 h3
   simp only[h1,h2,h3]
   refine zx.bind (uj _ _) (fun key=>zx.bind (uj _ _) (fun z=>zx.bind (zhm _ _ _) fun u=>?_)) E h
   intro E h
   cases ok
   ·exact⟨_,_,h,fun _ h=>h⟩
   ·exact⟨_,_,h,fun _ h=>h⟩
  ·exact h.elim
 ·exact h.elim
theorem zl9 (T:Tab) (t:Nat) (m x y:AV) (bs:List Blk):zx (zy6 T t m x y bs):=by
 intro E h
 unfold zy6 at h⊢
 refine zaj T t (fun kk vk v=>?_) E h
 intro E h
 split at h
 ·split at h
  ·rename_i h1 h2 h3 h4
   simp only[h1,h2,h3,h4]
   exact zx.bind (uj _ _) (fun key=>zx.bind (uj _ _) (fun z=>zx.pure _ _)) E h
  ·exact h.elim
 ·exact h.elim
theorem jz (x:Option AV) (d:Int):Out (zaf x d):=by
 intro E h
 unfold zaf at h⊢
 split at h
 ·exact⟨_,h,fun _ h=>h⟩
 ·exact⟨_,h,fun _ h=>h⟩
 ·exact h.elim
theorem zr0 (i:TI) (x:AV) (lo hi mx:Option AV):zx (zxm i x lo hi mx):=by
 intro E h
 unfold zxm at h⊢
 cases mx with
 |some y=>
  simp only at h⊢
  split at h
  ·split at h
   ·rename_i e1 e2
    try simp only[e1,e2]
    exact zx.bind (jz _ _) (fun l=>zx.and (zx.pure _ _)) E h
   ·exact h.elim
  ·exact h.elim
 |none=>
  simp only at h⊢
  cases x<;>simp only at h⊢
  case str s=>
   cases e:Nat.beq i.cls 5<;>simp only[e]at h⊢
   exact zx.bind (jz _ _) (fun l=>zx.bind (jz _ _) fun u=>zx.and (zx.pure _ _)) E h
  case nilsl=>
   cases e:Nat.beq i.cls 3<;>simp only[e]at h⊢
   exact zx.bind (jz _ _) (fun l=>zx.bind (jz _ _) fun u=>zx.and (zx.pure _ _)) E h
  case sl k xs=>
   cases e:Nat.beq i.cls 3<;>cases e':Nat.beq i.esz k.size<;>simp only[e,e']at h⊢
   exact zx.bind (jz _ _) (fun l=>zx.bind (jz _ _) fun u=>zx.and (zx.pure _ _)) E h
theorem zp2 (bs:List Blk):zx (znu bs):=by
 intro E h
 unfold znu at h⊢
 split at h
 ·exact⟨_,_,h,fun _ h=>h⟩
 ·exact h.elim
theorem zp1 (i:TI) (x:AV) (bs:List Blk):zx (ziw i x bs):=by
 cases x<;>try exact zx.no
 case str s=>unfold ziw;cases Nat.beq i.cls 5<;>first|exact zx.pure _ _ |exact zx.no
 case nilsl=>unfold ziw;cases Nat.beq i.cls 3<;>first|exact zx.pure _ _ |exact zx.no
 case sl k xs=>unfold ziw;cases Nat.beq i.cls 3<;>first|exact zx.pure _ _ |exact zx.no
 case ow=>unfold ziw;cases Nat.beq i.cls 3<;>first|exact zx.pure _ _ |exact zx.no
 case own id=>
  intro E h
  unfold ziw at h⊢
  simp only at h⊢
  split at h
  ·exact⟨_,_,h,fun _ h=>h⟩
  ·exact h.elim
theorem zrd (T:Tab) (i:TI) (dst:Nat) (s x:AV) (bs:List Blk):zx (ztm T i dst s x bs):=by
 intro E h
 unfold ztm at h
 split at h
 ·refine zx.bind (qt T _) (fun j=>?_) E h
  intro E h
  split at h
  ·rename_i esz _ _ _ _ _ _ _ sz _ _ _ _ k _ _ bytes _
   split at h
   ·split at h
    ·exact zx.bind (zls _ x) (fun ys=>zx.and (zx.pure _ _)) E h
    ·split at h
     ·rename_i h1 h2 h3
      simp only[h1,h2,h3]
      exact zx.bind (zls _ x) (fun ys=>zx.and (zx.pure _ _)) E h
     ·exact h.elim
    ·exact h.elim
   ·exact h.elim
  ·exact h.elim
 ·exact h.elim
set_option maxHeartbeats 1000000 in
theorem zwo (T:Tab) (C:Con) (op:Op) (dst:Nat) (ρ:Operand→AV) (ids:List Nat) (bs:List Blk):zx (qe T C op dst ρ ids bs):=by
 intro E h
 cases op with
 |move x=>exact⟨_,_,h,fun _ h=>h⟩
 |assign x=>exact⟨_,_,h,fun _ h=>h⟩
 |pick c a b=>
  simp only[qe]at h⊢
  cases e:ρ c<;>simp only[e]at h⊢
  rename_i t
  cases t
  ·exact⟨_,_,h,fun _ h=>h⟩
  ·exact⟨_,_,h,fun _ h=>h⟩
 |alloc t=>
  simp only[qe]at h⊢
  split at h
  ·exact zx.bind (qt T t) (fun i=>zx.pure _ _) E h
  ·exact h.elim
 |box t x=>
  simp only[qe]at h⊢
  split at h
  ·rename_i e;(try simp only[e]);exact⟨_,_,h,fun _ h=>h⟩
  ·exact h.elim
 |build t ps=>
  simp only[qe]at h⊢
  refine zx.bind (qt T t) (fun i=>?_) E h
  intro E h
  split at h
  ·exact zx.bind (zi8 _ _ _) (fun l=>zx.pure _ _) E h
  ·exact zx.bind (zja _ _ _) (fun l=>zx.pure _ _) E h
  ·exact h.elim
 |buildSlice t n ps=>
  simp only[qe]at h⊢
  refine zx.bind (qt T t) (fun i=>?_) E h
  intro E h
  split at h
  ·refine zx.bind (qt T _) (fun j=>?_) E h
   intro E h
   split at h
   ·split at h
    ·split at h
     ·split at h
      ·rename_i e;(try simp only[*]);exact⟨_,_,h,fun _ h=>h⟩
      ·exact h.elim
     ·split at h
      ·try simp only[*]
       exact zx.bind (zf9 _ _) (fun l=>zx.pure _ _) E h
      ·exact h.elim
    ·exact h.elim
   ·exact h.elim
  ·exact h.elim
 |makeSlice t l c=>
  simp only[qe]at h⊢
  refine zx.bind (qt T t) (fun i=>?_) E h
  intro E h
  split at h
  ·refine zx.bind (qt T _) (fun j=>?_) E h
   intro E h
   split at h
   ·split at h
    ·rename_i e1 e2 e3 e4 e5 _
     simp only[e1,e2,e3,e4,e5]
     exact zx.bind (uj _ _) (fun x=>zx.and (zx.pure _ _)) E h
    ·exact h.elim
   ·exact h.elim
  ·exact h.elim
 |load t p=>
  simp only[qe]at h⊢
  cases e:ρ p<;>simp only[e]at h⊢
  case ptr i off=>
   split at h
   ·exact zx.bind (qt T t) (fun i=>zx.bind (zhm i _ off) fun v=>zx.pure _ _) E h
   ·exact h.elim
  case rp k x off=>exact zx.bind (qt T t) (fun i=>zx.bind (zhm i _ off) fun v=>zx.pure _ _) E h
  case opt i sz j off=>
   split at h
   ·split at h
    ·rename_i e;try simp only[e]
     exact zx.idx _ _ (fun h=>h) (fun x=>zx.bind (qt T t) (fun i=>zx.bind (zhm i _ off) fun v=>zx.pure _ _)) E h
    ·exact h.elim
   ·exact h.elim
 |store t p v=>
  simp only[qe]at h⊢
  refine zx.bind (qt T t) (fun i=>?_) E h
  intro E h
  cases e1:zp3 (ρ v).cs i.sz<;>cases e2:zcl (ρ v).cs <;>simp only[e1,e2]at h⊢
  split at h
  ·rename_i e;(try simp only[e]at h⊢)
   split at h
   ·exact zx.bind (zev _ _ _) (fun l=>zx.pure _ _) E h
   ·exact h.elim
  ·rename_i e;(try simp only[e]at h⊢)
   split at h
   ·split at h
    ·rename_i e3 e4;try simp only[e3,e4]
     exact zx.bind (uj _ _) (fun l=>zx.and (zx.pure _ _)) E h
    ·exact h.elim
   ·exact h.elim
  ·exact h.elim
 |nilCheck x=>
  simp only[qe]at h⊢
  cases e:ρ x<;>simp only[e]at h⊢ <;>exact⟨_,_,h,fun _ h=>h⟩
 |binOp o t x y ty=>
  simp only[qe]at h⊢
  exact zx.bind (qt T t) (fun i=>zx.bind (ztj _ _ _ _) fun v=>zx.pure _ _) E h
 |unOp o t x=>
  simp only[qe]at h⊢
  cases o<;>cases e:ρ x<;>simp only[e]at h⊢ <;>exact⟨_,_,h,fun _ h=>h⟩
 |convert s d x=>
  simp only[qe]at h⊢
  refine zx.bind (qt T s) (fun j=>zx.bind (qt T d) (fun i=>?_)) E h
  intro E h
  cases e:ρ x<;>simp only[e]at h⊢
  ·split at h
   ·exact⟨_,_,h,fun _ h=>h⟩
   ·exact h.elim
  ·split at h
   ·rename_i e1 e2;(try simp only[e1,e2]);exact⟨_,_,h,fun _ h=>h⟩
   ·exact h.elim
 |makeFunc f x y=>
  simp only[qe]at h⊢
  split at h
  ·rename_i e;(try simp only[e]);exact⟨_,_,h,fun _ h=>h⟩
  ·exact h.elim
 |fieldAddr t x f=>
  simp only[qe]at h⊢
  refine zx.bind (qt T t) (fun i=>?_) E h
  intro E h
  split at h
  ·refine zfa (fun o s a=>?_) _ _ E h
   intro E h
   cases e:ρ x<;>simp only[e]at h⊢ <;>exact⟨_,_,h,fun _ h=>h⟩
  ·exact h.elim
 |field t x f=>
  simp only[qe]at h⊢
  refine zx.bind (qt T t) (fun i=>?_) E h
  intro E h
  split at h
  ·rename_i e;try simp only[e]
   exact zfa (fun o s a=>zx.bind (zik _ _ _ _) fun v=>zx.pure _ _) _ _ E h
  ·exact h.elim
 |indexAddr t x i=>
  simp only[qe]at h⊢
  refine zx.bind (qt T t) (fun ti=>?_) E h
  intro E h
  cases e:ρ i<;>simp only[e]at h⊢
  rename_i kk n
  split at h
  ·cases e2:ρ x<;>simp only[e2]at h⊢
   ·split at h
    ·rename_i e3;try simp only[e3]
     exact zx.and (zx.pure _ _) E h
    ·exact h.elim
   ·split at h
    ·rename_i e3;try simp only[e3]
     exact zx.idx _ _ (fun h=>by omega) (fun x=>zx.pure _ _) E h
    ·exact h.elim
   ·split at h
    ·split at h
     ·rename_i e3;try simp only[e3]
      exact zx.and (zx.pure _ _) E h
     ·exact h.elim
    ·exact h.elim
  ·cases e2:ρ x<;>simp only[e2]at h⊢ <;>exact zx.and (zx.pure _ _) E h
  ·exact h.elim
 |index t x i=>
  simp only[qe]at h⊢
  refine zx.bind (qt T t) (fun ti=>?_) E h
  intro E h
  split at h
  ·rename_i e1 e2 e3;try simp only[e1,e2,e3]
   exact zx.idx _ _ (fun h=>by omega) (fun x=>zx.pure _ _) E h
  ·rename_i e1 e2 e3;try simp only[e1,e2,e3]
   split at h
   ·rename_i e4;try simp only[e4]
    refine zx.bind (qt T _) (fun tj=>?_) E h
    intro E h
    exact zx.and (zx.bind (zik _ _ _ _) fun v=>zx.pure _ _) E h
   ·exact h.elim
  ·exact h.elim
 |extract x n=>
  simp only[qe]at h⊢
  cases e:ρ x<;>simp only[e]at h⊢
  refine zx.bind (zbc _ _ _) (fun r=>?_) E h
  intro E h
  split at h
  ·exact⟨_,_,h,fun _ h=>h⟩
  ·exact h.elim
 |call c=>
  cases hc:c.callee with
  |value f=>
   simp only[qe,hc]at h⊢
   cases e:ρ f<;>simp only[e]at h⊢
   case fn g caps=>
    cases e2:zxp T g<;>simp only[e2]at h⊢
    ·exact zx.bind (zhr _) (fun A=>zrc _ A ids bs) E h
    ·exact zx.bind (zhr _) (fun A=>ztn _ _ _ A ids bs) E h
   case cb l=>exact zx.bind (zhr _) (fun A=>zrc _ A ids bs) E h
  |invoke r m=>simp[qe,hc]at h
  |builtin b=>
   cases b with
   |len=>
    simp only[qe,hc]at h⊢
    split at h
    ·rename_i e1 e2;try simp only[e1,e2]
     split at h
     ·rename_i e3;try simp only[e3]
      exact zaj T _ (fun _ _ _=>zp2 _) E h
     ·rename_i e3;try simp only[e3]
      exact zx.bind (qt T _) (fun i=>zp1 _ _ _) E h
    ·exact h.elim
   |append=>
    simp only[qe,hc]at h⊢
    split at h
    ·rename_i e1 e2;try simp only[e1,e2]
     split at h
     ·rename_i e3;try simp only[e3]
      exact zx.bind (qt T _) (fun i=>zrd _ _ _ _ _ _) E h
     ·exact h.elim
    ·exact h.elim
   |max=>
    simp only[qe,hc]at h⊢
    split at h
    ·rename_i e1;(try simp only[e1]);exact⟨_,_,h,fun _ h=>h⟩
    ·rename_i e1;(try simp only[e1]);exact⟨_,_,h,fun _ h=>h⟩
    ·exact h.elim
   |min=>
    simp only[qe,hc]at h⊢
    split at h
    ·rename_i e1;(try simp only[e1]);exact⟨_,_,h,fun _ h=>h⟩
    ·exact h.elim
   | _=>simp[qe,hc]at h
 |makeMap t r=>
  simp only[qe]at h⊢
  refine zaj T t (fun kk vk v=>?_) E h
  intro E h
  split at h
  ·rename_i e1;simp only[e1];exact⟨_,_,h,fun _ h=>h⟩
  ·exact h.elim
 |lookup t x i ok=>exact zsr _ _ _ _ _ _ E h
 |mapUpdate t m k v=>exact zl9 _ _ _ _ _ _ E h
 |insert t m k v=>exact zl9 _ _ _ _ _ _ E h
 |slice t x lo hi mx=>
  simp only[qe]at h⊢
  refine zx.bind (qt T t) (fun i=>?_) E h
  intro E h
  cases hwn:zzg T hi with
  |true=>
   simp only[hwn]at h⊢
   split at h
   ·rename_i e1 e2 e3 e4;try simp only[e1,e2,e3,e4]
    split at h
    ·rename_i e5 e6;try simp only[e5,e6]
     exact zx.and (zx.pure _ _) E h
    ·exact h.elim
   ·exact h.elim
  |false=>simp only[hwn]at h⊢;exact zr0 _ _ _ _ _ E h
 | _=>exact False.elim h
end Go.Sx
