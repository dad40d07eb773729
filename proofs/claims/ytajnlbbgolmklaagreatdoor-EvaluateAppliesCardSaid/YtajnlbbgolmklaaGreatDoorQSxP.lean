/-
  What an operation yields can be drawn out of the execution: effO is a value and blocks, handed on.
-/
import Derived.Test.YtajnlbbgolmklaaGreatDoorQSxO
set_option linter.unusedVariables false
set_option linter.unusedSimpArgs false
namespace Go.Sx
open Go
def Out {α:Type} (F:(α→Prop)→Prop):Prop:= ∀E:α→Prop,F E→ ∃x,E x∧ ∀E':α→Prop,E' x→F E'
def zy (F:(AV→List Blk→Prop)→Prop):Prop:= ∀E:AV→List Blk→Prop,F E→ ∃r bs,E r bs∧ ∀E':AV→List Blk→Prop,E' r bs→F E'
theorem Out.pure {α:Type} (x:α):Out fun E:α→Prop=>E x:=fun _ h=>⟨x,h,fun _ h=>h⟩
theorem Out.no {α:Type}:Out fun _:α→Prop=>False:=fun _ h=>h.elim
theorem Out.bind {α β:Type} {F:(α→Prop)→Prop} {G:α→(β→Prop)→Prop} (hF:Out F) (hG: ∀x,Out (G x)):Out fun E=>F fun x=>G x E:=fun E h=>by
 obtain⟨x,h1,h2⟩:=hF _ h
 obtain⟨y,h3,h4⟩:=hG x E h1
 exact⟨y,h3,fun E' he=>h2 _ (h4 E' he)⟩
theorem Out.and {α:Type} {p:Prop} {F:(α→Prop)→Prop} (hF:Out F):Out fun E=>p∧F E:=fun E h=>by
 obtain⟨x,h1,h2⟩:=hF E h.2
 exact⟨x,h1,fun E' he=>⟨h.1,h2 E' he⟩⟩
theorem zy.pure (r:AV) (bs:List Blk):zy fun E=>E r bs:=fun _ h=>⟨r,bs,h,fun _ h=>h⟩
theorem zy.no:zy fun _=>False:=fun _ h=>h.elim
theorem zy.bind {α:Type} {F:(α→Prop)→Prop} {G:α→(AV→List Blk→Prop)→Prop} (hF:Out F) (hG: ∀x,zy (G x)):zy fun E=>F fun x=>G x E:=fun E h=>by
 obtain⟨x,h1,h2⟩:=hF _ h
 obtain⟨y,bs,h3,h4⟩:=hG x E h1
 exact⟨y,bs,h3,fun E' he=>h2 _ (h4 E' he)⟩
theorem zy.and {p:Prop} {F:(AV→List Blk→Prop)→Prop} (hF:zy F):zy fun E=>p∧F E:=fun E h=>by
 obtain⟨x,bs,h1,h2⟩:=hF E h.2
 exact⟨x,bs,h1,fun E' he=>⟨h.1,h2 E' he⟩⟩
theorem zy.idx {α:Type} (xs:List α) (j:Nat) {p:Prop} (hp:p→j<xs.length) {G:α→(AV→List Blk→Prop)→Prop} (hG: ∀x,zy (G x)):zy fun E=>p∧ ∀x,xs[j]? =some x→G x E:=fun E h=>by
 have hj:=hp h.1
 have hx:xs[j]? =some xs[j]:=List.getElem?_eq_getElem hj
 obtain⟨r,bs,h1,h2⟩:=hG _ E (h.2 _ hx)
 exact⟨r,bs,h1,fun E' he=>⟨h.1,fun y hy=>by rw[hx]at hy;cases hy;exact h2 E' he⟩⟩
theorem zqr: ∀(T:List (Nat×TI)) (t:Nat),Out (tgL T t)
 | [],_=>Out.no
 |(a,i)::r,t=>by
  intro E h
  simp only[tgL]at h⊢
  cases e:Nat.beq a t with
  |true=>simp only[e]at h⊢;exact⟨i,h,fun _ h=>h⟩
  |false=>simp only[e]at h⊢;exact zqr r t E h
theorem vf (T:Tab) (t:Nat):Out (tgK T t):=zqr T.ty t
theorem zi9 (l:List AV):Out (zhx l):=fun E h=>⟨l,(qu l E).1 h,fun E' he=>(qu l E').2 he⟩
theorem zck: ∀(l:List AV) (o n:Nat),Out (cut l o n)
 |l,0,0=>by intro E h;cases l<;>(simp only[cut]at h⊢;exact⟨[],h,fun _ h=>h⟩)
 |a::l,0,n+1=>by
  have:=Out.bind (G:=fun r (k:List AV→Prop)=>k (a::r)) (zck l 0 n) fun r=>Out.pure _
  intro E h;simp only[cut]at h⊢;exact this E h
 | [],0,_+1=>by intro E h;simp[cut]at h
 | _::l,off+1,n=>by intro E h;simp only[cut]at h⊢;exact zck l off n E h
 | [],_+1,_=>by intro E h;simp[cut]at h
theorem zft: ∀(l:List AV) (o:Nat) (m:List AV),Out (lay l o m)
 |l,0,[]=>by intro E h;cases l<;>(simp only[lay]at h⊢;exact⟨_,h,fun _ h=>h⟩)
 | _::l,0,b::m=>by
   have:=Out.bind (G:=fun r (k:List AV→Prop)=>k (b::r)) (zft l 0 m) fun r=>Out.pure _
   intro E h;simp only[lay]at h⊢;exact this E h
 | [],0,_::_=>by intro E h;simp[lay]at h
 |a::l,off+1,m=>by
  have:=Out.bind (G:=fun r (k:List AV→Prop)=>k (a::r)) (zft l off m) fun r=>Out.pure _
  intro E h;simp only[lay]at h⊢;exact this E h
 | [],_+1,m=>by intro E h;simp[lay]at h
theorem zsa (l:List AV):Out fun E:AV→Prop=>match l with
 | [a]=>E a
 | _=>False:=by
 intro E h
 split at h
 ·exact⟨_,h,fun _ h=>h⟩
 ·exact h.elim
theorem zi1 (i:TI) (l:List AV) (off:Nat):Out (ldK i l off):=by
 intro E h
 unfold ldK at h⊢
 cases e:i.agg with
 |true=>simp only[e]at h⊢;exact Out.bind (G:=fun r (E:AV→Prop)=>E (.agg r)) (zck l off i.sz) (fun r=>Out.pure _) E h
 |false=>simp only[e]at h⊢;exact Out.bind (zck l off 1) (fun r=>zsa r) E h
theorem zj4 (l:List AV) (o s:Nat) (a:Bool):Out (zpn l o s a):=by
 intro E h
 unfold zpn at h⊢
 cases a with
 |true=>exact Out.bind (G:=fun r (E:AV→Prop)=>E (.agg r)) (zck l o s) (fun r=>Out.pure _) E h
 |false=>exact Out.bind (zck l o 1) (fun r=>zsa r) E h
theorem zf6 {G:Nat→Nat→Bool→(AV→List Blk→Prop)→Prop} (hG: ∀o s a,zy (G o s a)): ∀(fs:List (Nat×Nat×Bool)) (f:Nat),zy fun E=>zbw fs f fun o s a=>G o s a E
 |(o,s,a)::_,0=>by intro E h;simp only[zbw]at h⊢;exact hG o s a E h
 |(_,_,_)::r,f+1=>by intro E h;simp only[zbw]at h⊢;exact zf6 hG r f E h
 | [],_=>by intro E h;simp[zbw]at h
theorem zhy {α:Type} {G:Nat→Nat→Bool→(α→Prop)→Prop} (hG: ∀o s a,Out (G o s a)): ∀(fs:List (Nat×Nat×Bool)) (f:Nat),Out fun E=>zbw fs f fun o s a=>G o s a E
 |(o,s,a)::_,0=>by intro E h;simp only[zbw]at h⊢;exact hG o s a E h
 |(_,_,_)::r,f+1=>by intro E h;simp only[zbw]at h⊢;exact zhy hG r f E h
 | [],_=>by intro E h;simp[zbw]at h
theorem zku (fs:List (Nat×Nat×Bool)): ∀(ps:List (Nat×AV)) (z:List AV),Out (zkv fs ps z)
 | [],z=>by intro E h;simp only[zkv]at h⊢;exact⟨z,h,fun _ h=>h⟩
 |(f,v)::r,z=>by
  intro E h
  simp only[zkv]at h⊢
  refine zhy (fun o s _=>?_) fs f E h
  intro E h
  cases h1:zsp v.cs s<;>cases h2:zds v.cs<;>simp only[h1,h2]at h⊢
  exact Out.bind (zft z o v.cs) (fun z=>zku fs r z) E h
theorem zkw (s:Nat): ∀(ps:List (Nat×AV)) (z:List AV),Out (zkx s ps z)
 | [],z=>by intro E h;simp only[zkx]at h⊢;exact⟨z,h,fun _ h=>h⟩
 |(f,v)::r,z=>by
  intro E h
  simp only[zkx]at h⊢
  cases h1:zsp v.cs s<;>cases h2:zds v.cs<;>simp only[h1,h2]at h⊢
  exact Out.bind (zft z (f*s) v.cs) (fun z=>zkw s r z) E h
theorem wp (a:AV):Out (zhw a):=by
 intro E h;unfold zhw at h;split at h
 ·exact⟨_,h,fun _ h=>h⟩
 ·exact h.elim
theorem zdj (a:AV):Out (zkr a):=by
 intro E h;unfold zkr at h;split at h
 ·exact⟨_,h,fun _ h=>h⟩
 ·exact h.elim
theorem zvy (a:AV):Out (qbk a):=by
 intro E h;unfold qbk at h;split at h
 ·exact⟨_,h,fun _ h=>h⟩
 ·exact h.elim
theorem zi7 (a:AV):Out (zz0 a):=by
 intro E h;unfold zz0 at h;split at h
 ·exact⟨_,h,fun _ h=>h⟩
 ·exact h.elim
theorem zv0 (a:AV):Out (qbl a):=by
 intro E h;unfold qbl at h;split at h
 ·exact⟨_,h,fun _ h=>h⟩
 ·exact⟨_,h,fun _ h=>h⟩
 ·exact h.elim
theorem zs4 (a:AV):Out (gLs a):=by
 intro E h;unfold gLs at h;split at h
 ·exact⟨_,h,fun _ h=>h⟩
 ·exact⟨_,h,fun _ h=>h⟩
 ·exact h.elim
theorem zz1 (a:AV):Out (gIs a):=by
 intro E h;unfold gIs at h;split at h
 ·exact⟨_,h,fun _ h=>h⟩
 ·exact⟨_,h,fun _ h=>h⟩
 ·exact h.elim
theorem zz3 (l:List AV):Out fun E:Dy×List AV→Prop=>gDy l fun e r=>E (e,r):=by
 intro E h
 unfold gDy at h
 split at h
 ·exact Out.bind (zdj _) (fun _=>Out.bind (zs4 _) fun _=>Out.bind (wp _) fun _=>Out.pure (_,_)) E h
 ·exact h.elim
theorem zdi {α:Type} {l:List AV} {G:Dy→List AV→(α→Prop)→Prop} (hG: ∀e r,Out (G e r)):Out fun E=>gDy l fun e r=>G e r E:=
 Out.bind (F:=fun E:Dy×List AV→Prop=>gDy l fun e r=>E (e,r)) (G:=fun x=>G x.1 x.2) (zz3 l) fun x=>hG _ _
theorem zz2 (l:List AV):Out fun E:Ex×List AV→Prop=>gEx l fun e r=>E (e,r):=by
 intro E h
 unfold gEx at h
 split at h
 ·exact Out.bind (wp _) (fun _=>Out.bind (wp _) fun _=>Out.bind (wp _) fun _=>Out.bind (zi7 _) fun _=>Out.bind (wp _) fun _=>
   Out.bind (zv0 _) fun _=>Out.pure (_,_)) E h
 ·exact h.elim
theorem ze7 {α:Type} {l:List AV} {G:Ex→List AV→(α→Prop)→Prop} (hG: ∀e r,Out (G e r)):Out fun E=>gEx l fun e r=>G e r E:=
 Out.bind (F:=fun E:Ex×List AV→Prop=>gEx l fun e r=>E (e,r)) (G:=fun x=>G x.1 x.2) (zz2 l) fun x=>hG _ _
theorem yf: ∀(k:Elt) (l:List AV),Out (qt k l)
 | .ex,l=>by
   intro E h;simp only[qt]at h⊢
   refine ze7 (fun e r=>?_) E h
   intro E h
   cases r with
   |nil=>exact⟨_,h,fun _ h=>h⟩
   |cons _ _=>exact h.elim
 | .ls,[s]=>fun E h=>zs4 s E h
 | .ls,[]=>fun _ h=>False.elim h
 | .ls,_::_::_=>fun _ h=>False.elim h
 | .dy,l=>by
   intro E h;simp only[qt]at h⊢
   refine zdi (fun e r=>?_) E h
   intro E h
   cases r with
   |nil=>exact⟨_,h,fun _ h=>h⟩
   |cons _ _=>exact h.elim
 | .iv,l=>by
   intro E h;simp only[qt]at h⊢
   refine zdi (fun e r=>zdi (fun e' r'=>?_)) E h
   intro E h
   split at h
   ·exact Out.bind (zdj _) (fun _=>Out.pure _) E h
   ·exact h.elim
 | .vs,[s]=>fun E h=>zz1 s E h
 | .vs,[]=>fun _ h=>False.elim h
 | .vs,_::_::_=>fun _ h=>False.elim h
 | .ki,[]=>fun _ h=>False.elim h
 | .ki,s::l=>by
   intro E h;simp only[qt]at h⊢
   refine Out.bind (wp s) (fun s=>zdi (fun e r=>zdi (fun e' r'=>?_))) E h
   intro E h
   split at h
   ·exact Out.bind (zdj _) (fun _=>Out.pure _) E h
   ·exact h.elim
 | .eqn,s::l=>by
   intro E h;simp only[qt]at h⊢
   refine Out.bind (zi7 s) (fun s=>ze7 (fun e r=>?_)) E h
   intro E h
   cases r with
   |nil=>exact⟨_,h,fun _ h=>h⟩
   |cons _ _=>exact h.elim
 | .ex2,l=>by
   intro E h;simp only[qt]at h⊢
   refine ze7 (fun e r=>ze7 (fun e' r'=>?_)) E h
   intro E h
   cases r' with
   |nil=>exact⟨_,h,fun _ h=>h⟩
   |cons _ _=>exact h.elim
 | .eqn,[]=>fun _ h=>False.elim h
 | .str,[s]=>fun E h=>zi7 s E h
 | .str,[]=>fun _ h=>False.elim h
 | .str,_::_::_=>fun _ h=>False.elim h
 | .int,[s]=>fun E h=>wp s E h
 | .int,[]=>fun _ h=>False.elim h
 | .int,_::_::_=>fun _ h=>False.elim h
 | .bool,[s]=>fun E h=>zdj s E h
 | .bool,[]=>fun _ h=>False.elim h
 | .bool,_::_::_=>fun _ h=>False.elim h
 | .u32,[s]=>fun E h=>zvy s E h
 | .u32,[]=>fun _ h=>False.elim h
 | .u32,_::_::_=>fun _ h=>False.elim h
 | .rat,[a,b]=>fun E h=>Out.bind (wp a) (fun _=>Out.bind (wp b) fun _=>Out.pure _) E h
 | .rat,[]=>fun _ h=>False.elim h
 | .rat,[_]=>fun _ h=>False.elim h
 | .rat,_::_::_::_=>fun _ h=>False.elim h
 | .op,[a,b,c,d,e,f]=>fun E h=>Out.bind (wp a) (fun _=>Out.bind (wp b) fun _=>Out.bind (wp c) fun _=>Out.bind (wp d) fun _=>Out.bind (wp e) fun _=>Out.bind (wp f) fun _=>Out.pure _) E h
 | .op,[]=>fun _ h=>False.elim h
 | .op,[_]=>fun _ h=>False.elim h
 | .op,[_,_]=>fun _ h=>False.elim h
 | .op,[_,_,_]=>fun _ h=>False.elim h
 | .op,[_,_,_,_]=>fun _ h=>False.elim h
 | .op,[_,_,_,_,_]=>fun _ h=>False.elim h
 | .op,_::_::_::_::_::_::_::_=>fun _ h=>False.elim h
theorem zha (k:Elt): ∀l:List AV,Out (zcz k l)
 | []=>by intro E h;simp only[zcz]at h⊢;exact⟨_,h,fun _ h=>h⟩
 |a::l=>by
  intro E h;simp only[zcz]at h⊢
  exact Out.bind (yf k a.cs) (fun x=>Out.bind (G:=fun xs (K:List k.T→Prop)=>K (x::xs)) (zha k l) fun xs=>Out.pure _) E h
theorem zne (k:Elt) (a:AV):Out (zyu k a):=by
 intro E h
 unfold zyu at h
 split at h<;>first|exact h.elim|exact⟨_,h,fun _ h=>h⟩
theorem ztc: ∀(z l m:List AV),Out (eqZ z l m):=by
 intro z
 induction z with
 |nil=>
  intro l m
  cases l with
  |nil=>
   cases m with
   |nil=>exact fun E h=>⟨true,h,fun _ h=>h⟩
   |cons b m=>exact fun E h=>False.elim h
  |cons a l=>exact fun E h=>False.elim h
 |cons x z ih=>
  intro l m
  cases x with
  |int k n=>
   cases k<;>first|exact fun E h=>False.elim h|skip
   cases l with
   |nil=>exact fun E h=>False.elim h
   |cons a l=>
    cases a with
    |int k a=>
     cases k<;>first|exact fun E h=>False.elim h|skip
     cases m with
     |nil=>exact fun E h=>False.elim h
     |cons b m=>
      cases b with
      |int k b=>
       cases k<;>first|exact fun E h=>False.elim h|skip
       exact Out.bind (G:=fun r (k:Bool→Prop)=>k (a==b&&r)) (ih l m) (fun r=>Out.pure _)
      | _=>exact fun E h=>False.elim h
    | _=>exact fun E h=>False.elim h
  |str s=>
   cases l with
   |nil=>exact fun E h=>False.elim h
   |cons a l=>
    cases a with
    |str a=>
     cases m with
     |nil=>exact fun E h=>False.elim h
     |cons b m=>
      cases b with
      |str b=>exact Out.bind (G:=fun r (k:Bool→Prop)=>k (a==b&&r)) (ih l m) (fun r=>Out.pure _)
      | _=>exact fun E h=>False.elim h
    | _=>exact fun E h=>False.elim h
  |bool s=>
   cases l with
   |nil=>exact fun E h=>False.elim h
   |cons a l=>
    cases a with
    |bool a=>
     cases m with
     |nil=>exact fun E h=>False.elim h
     |cons b m=>
      cases b with
      |bool b=>exact Out.bind (G:=fun r (k:Bool→Prop)=>k (a==b&&r)) (ih l m) (fun r=>Out.pure _)
      | _=>exact fun E h=>False.elim h
    | _=>exact fun E h=>False.elim h
  | _=>exact fun E h=>False.elim h
theorem zi4 (o:BinOp) (k:IntKind) (a b:Int):Out (zzx o k a b):=by
 cases o<;>first|exact Out.pure _ |exact Out.and (Out.pure _)
theorem zuy (o:BinOp) (a b:zd):Out (strB o a b):=by
 cases o<;>first|exact Out.pure _ |exact Out.and (Out.pure _)|exact Out.no
theorem zwi (i:TI) (o:BinOp) (x y:AV):Out (qat i o x y):=by
 cases x<;>cases y<;>try exact Out.no
 case int.int k a k' b=>
  intro E h
  cases o<;>simp only[qat]at h⊢
  case shl=>exact zi4 _ _ _ _ E h
  case shr=>exact zi4 _ _ _ _ E h
  all_goals (cases hk:zmb k k'<;>simp only[hk]at h⊢;exact zi4 _ _ _ _ E h)
 case str.str a b=>exact zuy _ _ _
 case bool.bool a b=>
  unfold qat
  cases Nat.beq i.cls 6<;>cases o<;>first|exact Out.pure _ |exact Out.no
 case sl.nilsl k xs=>
  unfold qat
  cases Nat.beq i.cls 3<;>cases o<;>first|exact Out.pure _ |exact Out.no
 case agg.agg l m=>
  intro E h
  simp only[qat]at h⊢
  cases h1:i.eq<;>simp only[h1]at h⊢
  cases o<;>simp only at h⊢
  ·exact Out.bind (G:=fun r (E:AV→Prop)=>E (.bool r)) (ztc i.z l m) (fun r=>Out.pure _) E h
  ·exact Out.bind (G:=fun r (E:AV→Prop)=>E (.bool !r)) (ztc i.z l m) (fun r=>Out.pure _) E h
theorem ztx (c:CT) (A:List AV) (ids:List Nat) (bs:List Blk):zy (app c A ids bs):=by
 intro E h
 obtain⟨bs',r,hc,hk⟩:=h
 unfold app
 split at hk
 ·rename_i h1 h2 h3 h4 h5
  exact⟨r,bs',hk,fun E' he=>⟨bs',r,hc,by rw[h1,h2,h3,h4,h5];exact he⟩⟩
 ·exact hk.elim
theorem zk3: ∀(n:Nat) (bs:List Blk),Out (zk5 n bs)
 |0,bs=>by intro E h;simp only[zk5]at h⊢;exact⟨bs,h,fun _ h=>h⟩
 |n+1,[]=>by intro E h;simp[zk5]at h
 |n+1,b::bs=>by
  intro E h
  cases b<;>simp only[zk5]at h⊢
  exact zk3 n bs E h
theorem zwm (c:CT) (n dst:Nat) (A:List AV) (ids:List Nat) (bs:List Blk):zy (appN c n dst A ids bs):=by
 intro E h
 unfold appN at h⊢
 refine zy.bind (zk3 n bs) (fun bs=>?_) E h
 intro E h
 obtain⟨bs',nbs,r,hc,hk⟩:=h
 split at hk
 ·rename_i h1 h2 h3 h4 h5 h6 h7 h8 h9 h10
  exact⟨_,_,hk,fun E' he=>⟨bs',nbs,r,hc,by rw[h1,h2,h3,h4,h5,h6,h7,h8,h9,h10];exact he⟩⟩
 ·exact hk.elim
theorem zbg (T:Tab) (t:Nat) {G:Elt→Elt→TI→(AV→List Blk→Prop)→Prop} (hG: ∀a b i,zy (G a b i)):zy fun E=>zgw T t fun a b i=>G a b i E:=by
 intro E h
 unfold zgw at h⊢
 refine zy.bind (vf T t) (fun i=>?_) E h
 intro E h
 split at h
 ·refine zy.bind (vf T _) (fun j=>?_) E h
  intro E h
  split at h
  ·refine zy.bind (vf T _) (fun v=>?_) E h
   intro E h
   split at h
   ·split at h
    ·rename_i e1 _ e2
     simp only[e1,e2]
     exact hG _ _ _ E h
    ·exact h.elim
   ·exact h.elim
  ·exact h.elim
 ·exact h.elim
theorem zvq (T:Tab) (t:Nat) (x i:AV) (ok:Bool) (bs:List Blk):zy (lkOp T t x i ok bs):=by
 intro E h
 unfold lkOp at h⊢
 refine zbg T t (fun kk vk v=>?_) E h
 intro E h
 split at h
 ·split at h
  ·rename_i h1 h2 h3
   simp only[h1,h2,h3]
   refine zy.bind (yf _ _) (fun key=>zy.bind (yf _ _) (fun z=>zy.bind (zi1 _ _ _) fun u=>?_)) E h
   intro E h
   cases ok
   ·exact⟨_,_,h,fun _ h=>h⟩
   ·exact⟨_,_,h,fun _ h=>h⟩
  ·exact h.elim
 ·exact h.elim
theorem znt (T:Tab) (t:Nat) (m x y:AV) (bs:List Blk):zy (qcx T t m x y bs):=by
 intro E h
 unfold qcx at h⊢
 refine zbg T t (fun kk vk v=>?_) E h
 intro E h
 split at h
 ·split at h
  ·rename_i h1 h2 h3 h4
   simp only[h1,h2,h3,h4]
   exact zy.bind (yf _ _) (fun key=>zy.bind (yf _ _) (fun z=>zy.pure _ _)) E h
  ·exact h.elim
 ·exact h.elim
theorem kv (x:Option AV) (d:Int):Out (za6 x d):=by
 intro E h
 unfold za6 at h⊢
 split at h
 ·exact⟨_,h,fun _ h=>h⟩
 ·exact⟨_,h,fun _ h=>h⟩
 ·exact h.elim
theorem zu2 (i:TI) (x:AV) (lo hi mx:Option AV):zy (qba i x lo hi mx):=by
 intro E h
 unfold qba at h⊢
 cases mx with
 |some y=>
  simp only at h⊢
  split at h
  ·split at h
   ·rename_i e1 e2
    try simp only[e1,e2]
    exact zy.bind (kv _ _) (fun l=>zy.and (zy.pure _ _)) E h
   ·exact h.elim
  ·exact h.elim
 |none=>
  simp only at h⊢
  cases x<;>simp only at h⊢
  case str s=>
   cases e:Nat.beq i.cls 5<;>simp only[e]at h⊢
   exact zy.bind (kv _ _) (fun l=>zy.bind (kv _ _) fun u=>zy.and (zy.pure _ _)) E h
  case nilsl=>
   cases e:Nat.beq i.cls 3<;>simp only[e]at h⊢
   exact zy.bind (kv _ _) (fun l=>zy.bind (kv _ _) fun u=>zy.and (zy.pure _ _)) E h
  case sl k xs=>
   cases e:Nat.beq i.cls 3<;>cases e':Nat.beq i.esz k.size<;>simp only[e,e']at h⊢
   exact zy.bind (kv _ _) (fun l=>zy.bind (kv _ _) fun u=>zy.and (zy.pure _ _)) E h
theorem zso (bs:List Blk):zy (zpt bs):=by
 intro E h
 unfold zpt at h⊢
 split at h
 ·exact⟨_,_,h,fun _ h=>h⟩
 ·exact h.elim
theorem zsn (i:TI) (x:AV) (bs:List Blk):zy (zkh i x bs):=by
 cases x<;>try exact zy.no
 case str s=>unfold zkh;cases Nat.beq i.cls 5<;>first|exact zy.pure _ _ |exact zy.no
 case nilsl=>unfold zkh;cases Nat.beq i.cls 3<;>first|exact zy.pure _ _ |exact zy.no
 case sl k xs=>unfold zkh;cases Nat.beq i.cls 3<;>first|exact zy.pure _ _ |exact zy.no
 case ow=>unfold zkh;cases Nat.beq i.cls 3<;>first|exact zy.pure _ _ |exact zy.no
 case own id=>
  intro E h
  unfold zkh at h⊢
  simp only at h⊢
  split at h
  ·exact⟨_,_,h,fun _ h=>h⟩
  ·exact h.elim
theorem zty (T:Tab) (i:TI) (dst:Nat) (s x:AV) (bs:List Blk):zy (zwl T i dst s x bs):=by
 intro E h
 unfold zwl at h
 split at h
 ·refine zy.bind (vf T _) (fun j=>?_) E h
  intro E h
  split at h
  ·rename_i esz _ _ _ _ _ _ _ sz _ _ _ _ k _ _ bytes _
   split at h
   ·split at h
    ·exact zy.bind (zne _ x) (fun ys=>zy.and (zy.pure _ _)) E h
    ·split at h
     ·rename_i h1 h2 h3
      simp only[h1,h2,h3]
      exact zy.bind (zne _ x) (fun ys=>zy.and (zy.pure _ _)) E h
     ·exact h.elim
    ·exact h.elim
   ·exact h.elim
  ·exact h.elim
 ·exact h.elim
set_option maxHeartbeats 1000000 in
theorem zz9 (T:Tab) (C:Con) (op:Op) (dst:Nat) (ρ:Operand→AV) (ids:List Nat) (bs:List Blk):zy (qg T C op dst ρ ids bs):=by
 intro E h
 cases op with
 |move x=>exact⟨_,_,h,fun _ h=>h⟩
 |assign x=>exact⟨_,_,h,fun _ h=>h⟩
 |pick c a b=>
  simp only[qg]at h⊢
  cases e:ρ c<;>simp only[e]at h⊢
  rename_i t
  cases t
  ·exact⟨_,_,h,fun _ h=>h⟩
  ·exact⟨_,_,h,fun _ h=>h⟩
 |alloc t=>
  simp only[qg]at h⊢
  split at h
  ·exact zy.bind (vf T t) (fun i=>zy.pure _ _) E h
  ·exact h.elim
 |box t x=>
  simp only[qg]at h⊢
  split at h
  ·rename_i e;(try simp only[e]);exact⟨_,_,h,fun _ h=>h⟩
  ·exact h.elim
 |build t ps=>
  simp only[qg]at h⊢
  refine zy.bind (vf T t) (fun i=>?_) E h
  intro E h
  split at h
  ·exact zy.bind (zku _ _ _) (fun l=>zy.pure _ _) E h
  ·exact zy.bind (zkw _ _ _) (fun l=>zy.pure _ _) E h
  ·exact h.elim
 |buildSlice t n ps=>
  simp only[qg]at h⊢
  refine zy.bind (vf T t) (fun i=>?_) E h
  intro E h
  split at h
  ·refine zy.bind (vf T _) (fun j=>?_) E h
   intro E h
   split at h
   ·split at h
    ·split at h
     ·split at h
      ·rename_i e;(try simp only[*]);exact⟨_,_,h,fun _ h=>h⟩
      ·exact h.elim
     ·split at h
      ·try simp only[*]
       exact zy.bind (zha _ _) (fun l=>zy.pure _ _) E h
      ·exact h.elim
    ·exact h.elim
   ·exact h.elim
  ·exact h.elim
 |makeSlice t l c=>
  simp only[qg]at h⊢
  refine zy.bind (vf T t) (fun i=>?_) E h
  intro E h
  split at h
  ·refine zy.bind (vf T _) (fun j=>?_) E h
   intro E h
   split at h
   ·split at h
    ·rename_i e1 e2 e3 e4 e5 _
     simp only[e1,e2,e3,e4,e5]
     exact zy.bind (yf _ _) (fun x=>zy.and (zy.pure _ _)) E h
    ·exact h.elim
   ·exact h.elim
  ·exact h.elim
 |load t p=>
  simp only[qg]at h⊢
  cases e:ρ p<;>simp only[e]at h⊢
  case ptr i off=>
   split at h
   ·exact zy.bind (vf T t) (fun i=>zy.bind (zi1 i _ off) fun v=>zy.pure _ _) E h
   ·exact h.elim
  case rp k x off=>exact zy.bind (vf T t) (fun i=>zy.bind (zi1 i _ off) fun v=>zy.pure _ _) E h
  case opt i sz j off=>
   split at h
   ·split at h
    ·rename_i e;try simp only[e]
     exact zy.idx _ _ (fun h=>h) (fun x=>zy.bind (vf T t) (fun i=>zy.bind (zi1 i _ off) fun v=>zy.pure _ _)) E h
    ·exact h.elim
   ·exact h.elim
 |store t p v=>
  simp only[qg]at h⊢
  refine zy.bind (vf T t) (fun i=>?_) E h
  intro E h
  cases e1:zsp (ρ v).cs i.sz<;>cases e2:zds (ρ v).cs <;>simp only[e1,e2]at h⊢
  split at h
  ·rename_i e;(try simp only[e]at h⊢)
   split at h
   ·exact zy.bind (zft _ _ _) (fun l=>zy.pure _ _) E h
   ·exact h.elim
  ·rename_i e;(try simp only[e]at h⊢)
   split at h
   ·split at h
    ·rename_i e3 e4;try simp only[e3,e4]
     exact zy.bind (yf _ _) (fun l=>zy.and (zy.pure _ _)) E h
    ·exact h.elim
   ·exact h.elim
  ·exact h.elim
 |nilCheck x=>
  simp only[qg]at h⊢
  cases e:ρ x<;>simp only[e]at h⊢ <;>exact⟨_,_,h,fun _ h=>h⟩
 |binOp o t x y ty=>
  simp only[qg]at h⊢
  exact zy.bind (vf T t) (fun i=>zy.bind (zwi _ _ _ _) fun v=>zy.pure _ _) E h
 |unOp o t x=>
  simp only[qg]at h⊢
  cases o<;>cases e:ρ x<;>simp only[e]at h⊢ <;>exact⟨_,_,h,fun _ h=>h⟩
 |convert s d x=>
  simp only[qg]at h⊢
  refine zy.bind (vf T s) (fun j=>zy.bind (vf T d) (fun i=>?_)) E h
  intro E h
  cases e:ρ x<;>simp only[e]at h⊢
  ·split at h
   ·exact⟨_,_,h,fun _ h=>h⟩
   ·exact h.elim
  ·split at h
   ·rename_i e1 e2;(try simp only[e1,e2]);exact⟨_,_,h,fun _ h=>h⟩
   ·exact h.elim
 |makeFunc f x y=>
  simp only[qg]at h⊢
  split at h
  ·rename_i e;(try simp only[e]);exact⟨_,_,h,fun _ h=>h⟩
  ·exact h.elim
 |fieldAddr t x f=>
  simp only[qg]at h⊢
  refine zy.bind (vf T t) (fun i=>?_) E h
  intro E h
  split at h
  ·refine zf6 (fun o s a=>?_) _ _ E h
   intro E h
   cases e:ρ x<;>simp only[e]at h⊢ <;>exact⟨_,_,h,fun _ h=>h⟩
  ·exact h.elim
 |field t x f=>
  simp only[qg]at h⊢
  refine zy.bind (vf T t) (fun i=>?_) E h
  intro E h
  split at h
  ·rename_i e;try simp only[e]
   exact zf6 (fun o s a=>zy.bind (zj4 _ _ _ _) fun v=>zy.pure _ _) _ _ E h
  ·exact h.elim
 |indexAddr t x i=>
  simp only[qg]at h⊢
  refine zy.bind (vf T t) (fun ti=>?_) E h
  intro E h
  cases e:ρ i<;>simp only[e]at h⊢
  rename_i kk n
  split at h
  ·cases e2:ρ x<;>simp only[e2]at h⊢
   ·split at h
    ·rename_i e3;try simp only[e3]
     exact zy.and (zy.pure _ _) E h
    ·exact h.elim
   ·split at h
    ·rename_i e3;try simp only[e3]
     exact zy.idx _ _ (fun h=>by omega) (fun x=>zy.pure _ _) E h
    ·exact h.elim
   ·split at h
    ·split at h
     ·rename_i e3;try simp only[e3]
      exact zy.and (zy.pure _ _) E h
     ·exact h.elim
    ·exact h.elim
  ·cases e2:ρ x<;>simp only[e2]at h⊢ <;>exact zy.and (zy.pure _ _) E h
  ·exact h.elim
 |index t x i=>
  simp only[qg]at h⊢
  refine zy.bind (vf T t) (fun ti=>?_) E h
  intro E h
  split at h
  ·rename_i e1 e2 e3;try simp only[e1,e2,e3]
   exact zy.idx _ _ (fun h=>by omega) (fun x=>zy.pure _ _) E h
  ·rename_i e1 e2 e3;try simp only[e1,e2,e3]
   split at h
   ·rename_i e4;try simp only[e4]
    refine zy.bind (vf T _) (fun tj=>?_) E h
    intro E h
    exact zy.and (zy.bind (zj4 _ _ _ _) fun v=>zy.pure _ _) E h
   ·exact h.elim
  ·exact h.elim
 |extract x n=>
  simp only[qg]at h⊢
  cases e:ρ x<;>simp only[e]at h⊢
  refine zy.bind (zck _ _ _) (fun r=>?_) E h
  intro E h
  split at h
  ·exact⟨_,_,h,fun _ h=>h⟩
  ·exact h.elim
 |call c=>
  cases hc:c.callee with
  |value f=>
   simp only[qg,hc]at h⊢
   cases e:ρ f<;>simp only[e]at h⊢
   case fn g caps=>
    cases e2:zzl T g<;>simp only[e2]at h⊢
    ·exact zy.bind (zi9 _) (fun A=>ztx _ A ids bs) E h
    ·exact zy.bind (zi9 _) (fun A=>zwm _ _ _ A ids bs) E h
   case cb l=>exact zy.bind (zi9 _) (fun A=>ztx _ A ids bs) E h
  |invoke r m=>simp[qg,hc]at h
  |builtin b=>
   cases b with
   |len=>
    simp only[qg,hc]at h⊢
    split at h
    ·rename_i e1 e2;try simp only[e1,e2]
     split at h
     ·rename_i e3;try simp only[e3]
      exact zbg T _ (fun _ _ _=>zso _) E h
     ·rename_i e3;try simp only[e3]
      exact zy.bind (vf T _) (fun i=>zsn _ _ _) E h
    ·exact h.elim
   |append=>
    simp only[qg,hc]at h⊢
    split at h
    ·rename_i e1 e2;try simp only[e1,e2]
     split at h
     ·rename_i e3;try simp only[e3]
      exact zy.bind (vf T _) (fun i=>zty _ _ _ _ _ _) E h
     ·exact h.elim
    ·exact h.elim
   |max=>
    simp only[qg,hc]at h⊢
    split at h
    ·rename_i e1;(try simp only[e1]);exact⟨_,_,h,fun _ h=>h⟩
    ·rename_i e1;(try simp only[e1]);exact⟨_,_,h,fun _ h=>h⟩
    ·exact h.elim
   |min=>
    simp only[qg,hc]at h⊢
    split at h
    ·rename_i e1;(try simp only[e1]);exact⟨_,_,h,fun _ h=>h⟩
    ·exact h.elim
   | _=>simp[qg,hc]at h
 |makeMap t r=>
  simp only[qg]at h⊢
  refine zbg T t (fun kk vk v=>?_) E h
  intro E h
  split at h
  ·rename_i e1;simp only[e1];exact⟨_,_,h,fun _ h=>h⟩
  ·exact h.elim
 |lookup t x i ok=>exact zvq _ _ _ _ _ _ E h
 |mapUpdate t m k v=>exact znt _ _ _ _ _ _ E h
 |insert t m k v=>exact znt _ _ _ _ _ _ E h
 |slice t x lo hi mx=>
  simp only[qg]at h⊢
  refine zy.bind (vf T t) (fun i=>?_) E h
  intro E h
  cases hwn:qc7 T hi with
  |true=>
   simp only[hwn]at h⊢
   split at h
   ·rename_i e1 e2 e3 e4;try simp only[e1,e2,e3,e4]
    split at h
    ·rename_i e5 e6;try simp only[e5,e6]
     exact zy.and (zy.pure _ _) E h
    ·exact h.elim
   ·exact h.elim
  |false=>simp only[hwn]at h⊢;exact zu2 _ _ _ _ _ E h
 | _=>exact False.elim h
end Go.Sx
