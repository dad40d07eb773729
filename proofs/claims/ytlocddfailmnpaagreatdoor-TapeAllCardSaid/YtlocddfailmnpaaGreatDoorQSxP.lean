/-
  What an operation yields can be drawn out of the execution: effO is a value and blocks, handed on.
-/
import Derived.Test.YtlocddfailmnpaaGreatDoorQSxO
set_option linter.unusedVariables false
set_option linter.unusedSimpArgs false
namespace Go.Sx
open Go
def Out {α:Type} (F:(α→Prop)→Prop):Prop:= ∀E:α→Prop,F E→ ∃x,E x∧ ∀E':α→Prop,E' x→F E'
def zz (F:(AV→List Blk→Prop)→Prop):Prop:= ∀E:AV→List Blk→Prop,F E→ ∃r bs,E r bs∧ ∀E':AV→List Blk→Prop,E' r bs→F E'
theorem Out.pure {α:Type} (x:α):Out fun E:α→Prop=>E x:=fun _ h=>⟨x,h,fun _ h=>h⟩
theorem Out.no {α:Type}:Out fun _:α→Prop=>False:=fun _ h=>h.elim
theorem Out.bind {α β:Type} {F:(α→Prop)→Prop} {G:α→(β→Prop)→Prop} (hF:Out F) (hG: ∀x,Out (G x)):Out fun E=>F fun x=>G x E:=fun E h=>by
 obtain⟨x,h1,h2⟩:=hF _ h
 obtain⟨y,h3,h4⟩:=hG x E h1
 exact⟨y,h3,fun E' he=>h2 _ (h4 E' he)⟩
theorem Out.and {α:Type} {p:Prop} {F:(α→Prop)→Prop} (hF:Out F):Out fun E=>p∧F E:=fun E h=>by
 obtain⟨x,h1,h2⟩:=hF E h.2
 exact⟨x,h1,fun E' he=>⟨h.1,h2 E' he⟩⟩
theorem zz.pure (r:AV) (bs:List Blk):zz fun E=>E r bs:=fun _ h=>⟨r,bs,h,fun _ h=>h⟩
theorem zz.no:zz fun _=>False:=fun _ h=>h.elim
theorem zz.bind {α:Type} {F:(α→Prop)→Prop} {G:α→(AV→List Blk→Prop)→Prop} (hF:Out F) (hG: ∀x,zz (G x)):zz fun E=>F fun x=>G x E:=fun E h=>by
 obtain⟨x,h1,h2⟩:=hF _ h
 obtain⟨y,bs,h3,h4⟩:=hG x E h1
 exact⟨y,bs,h3,fun E' he=>h2 _ (h4 E' he)⟩
theorem zz.and {p:Prop} {F:(AV→List Blk→Prop)→Prop} (hF:zz F):zz fun E=>p∧F E:=fun E h=>by
 obtain⟨x,bs,h1,h2⟩:=hF E h.2
 exact⟨x,bs,h1,fun E' he=>⟨h.1,h2 E' he⟩⟩
theorem zz.idx {α:Type} (xs:List α) (j:Nat) {p:Prop} (hp:p→j<xs.length) {G:α→(AV→List Blk→Prop)→Prop} (hG: ∀x,zz (G x)):zz fun E=>p∧ ∀x,xs[j]? =some x→G x E:=fun E h=>by
 have hj:=hp h.1
 have hx:xs[j]? =some xs[j]:=List.getElem?_eq_getElem hj
 obtain⟨r,bs,h1,h2⟩:=hG _ E (h.2 _ hx)
 exact⟨r,bs,h1,fun E' he=>⟨h.1,fun y hy=>by rw[hx]at hy;cases hy;exact h2 E' he⟩⟩
theorem zqf: ∀(T:List (Nat×TI)) (t:Nat),Out (tgL T t)
 | [],_=>Out.no
 |(a,i)::r,t=>by
  intro E h
  simp only[tgL]at h⊢
  cases e:Nat.beq a t with
  |true=>simp only[e]at h⊢;exact⟨i,h,fun _ h=>h⟩
  |false=>simp only[e]at h⊢;exact zqf r t E h
theorem va (T:Tab) (t:Nat):Out (tgK T t):=zqf T.ty t
theorem zim (l:List AV):Out (zgo l):=fun E h=>⟨l,(qk l E).1 h,fun E' he=>(qk l E').2 he⟩
theorem zb3: ∀(l:List AV) (o n:Nat),Out (cut l o n)
 |l,0,0=>by intro E h;cases l<;>(simp only[cut]at h⊢;exact⟨[],h,fun _ h=>h⟩)
 |a::l,0,n+1=>by
  have:=Out.bind (G:=fun r (k:List AV→Prop)=>k (a::r)) (zb3 l 0 n) fun r=>Out.pure _
  intro E h;simp only[cut]at h⊢;exact this E h
 | [],0,_+1=>by intro E h;simp[cut]at h
 | _::l,off+1,n=>by intro E h;simp only[cut]at h⊢;exact zb3 l off n E h
 | [],_+1,_=>by intro E h;simp[cut]at h
theorem zfb: ∀(l:List AV) (o:Nat) (m:List AV),Out (lay l o m)
 |l,0,[]=>by intro E h;cases l<;>(simp only[lay]at h⊢;exact⟨_,h,fun _ h=>h⟩)
 | _::l,0,b::m=>by
   have:=Out.bind (G:=fun r (k:List AV→Prop)=>k (b::r)) (zfb l 0 m) fun r=>Out.pure _
   intro E h;simp only[lay]at h⊢;exact this E h
 | [],0,_::_=>by intro E h;simp[lay]at h
 |a::l,off+1,m=>by
  have:=Out.bind (G:=fun r (k:List AV→Prop)=>k (a::r)) (zfb l off m) fun r=>Out.pure _
  intro E h;simp only[lay]at h⊢;exact this E h
 | [],_+1,m=>by intro E h;simp[lay]at h
theorem zrx (l:List AV):Out fun E:AV→Prop=>match l with
 | [a]=>E a
 | _=>False:=by
 intro E h
 split at h
 ·exact⟨_,h,fun _ h=>h⟩
 ·exact h.elim
theorem zif (i:TI) (l:List AV) (off:Nat):Out (ldK i l off):=by
 intro E h
 unfold ldK at h⊢
 cases e:i.agg with
 |true=>simp only[e]at h⊢;exact Out.bind (G:=fun r (E:AV→Prop)=>E (.agg r)) (zb3 l off i.sz) (fun r=>Out.pure _) E h
 |false=>simp only[e]at h⊢;exact Out.bind (zb3 l off 1) (fun r=>zrx r) E h
theorem zjj (l:List AV) (o s:Nat) (a:Bool):Out (zpc l o s a):=by
 intro E h
 unfold zpc at h⊢
 cases a with
 |true=>exact Out.bind (G:=fun r (E:AV→Prop)=>E (.agg r)) (zb3 l o s) (fun r=>Out.pure _) E h
 |false=>exact Out.bind (zb3 l o 1) (fun r=>zrx r) E h
theorem zfq {G:Nat→Nat→Bool→(AV→List Blk→Prop)→Prop} (hG: ∀o s a,zz (G o s a)): ∀(fs:List (Nat×Nat×Bool)) (f:Nat),zz fun E=>zbl fs f fun o s a=>G o s a E
 |(o,s,a)::_,0=>by intro E h;simp only[zbl]at h⊢;exact hG o s a E h
 |(_,_,_)::r,f+1=>by intro E h;simp only[zbl]at h⊢;exact zfq hG r f E h
 | [],_=>by intro E h;simp[zbl]at h
theorem zhk {α:Type} {G:Nat→Nat→Bool→(α→Prop)→Prop} (hG: ∀o s a,Out (G o s a)): ∀(fs:List (Nat×Nat×Bool)) (f:Nat),Out fun E=>zbl fs f fun o s a=>G o s a E
 |(o,s,a)::_,0=>by intro E h;simp only[zbl]at h⊢;exact hG o s a E h
 |(_,_,_)::r,f+1=>by intro E h;simp only[zbl]at h⊢;exact zhk hG r f E h
 | [],_=>by intro E h;simp[zbl]at h
theorem zke (fs:List (Nat×Nat×Bool)): ∀(ps:List (Nat×AV)) (z:List AV),Out (zkf fs ps z)
 | [],z=>by intro E h;simp only[zkf]at h⊢;exact⟨z,h,fun _ h=>h⟩
 |(f,v)::r,z=>by
  intro E h
  simp only[zkf]at h⊢
  refine zhk (fun o s _=>?_) fs f E h
  intro E h
  cases h1:zse v.cs s<;>cases h2:zdd v.cs<;>simp only[h1,h2]at h⊢
  exact Out.bind (zfb z o v.cs) (fun z=>zke fs r z) E h
theorem zkg (s:Nat): ∀(ps:List (Nat×AV)) (z:List AV),Out (zkh s ps z)
 | [],z=>by intro E h;simp only[zkh]at h⊢;exact⟨z,h,fun _ h=>h⟩
 |(f,v)::r,z=>by
  intro E h
  simp only[zkh]at h⊢
  cases h1:zse v.cs s<;>cases h2:zdd v.cs<;>simp only[h1,h2]at h⊢
  exact Out.bind (zfb z (f*s) v.cs) (fun z=>zkg s r z) E h
theorem wq (a:AV):Out (zhj a):=by
 intro E h;unfold zhj at h;split at h
 ·exact⟨_,h,fun _ h=>h⟩
 ·exact h.elim
theorem zc1 (a:AV):Out (zkb a):=by
 intro E h;unfold zkb at h;split at h
 ·exact⟨_,h,fun _ h=>h⟩
 ·exact h.elim
theorem zvk (a:AV):Out (qa6 a):=by
 intro E h;unfold qa6 at h;split at h
 ·exact⟨_,h,fun _ h=>h⟩
 ·exact h.elim
theorem zik (a:AV):Out (zzq a):=by
 intro E h;unfold zzq at h;split at h
 ·exact⟨_,h,fun _ h=>h⟩
 ·exact h.elim
theorem zvn (a:AV):Out (qa7 a):=by
 intro E h;unfold qa7 at h;split at h
 ·exact⟨_,h,fun _ h=>h⟩
 ·exact⟨_,h,fun _ h=>h⟩
 ·exact h.elim
theorem zsr (a:AV):Out (gLs a):=by
 intro E h;unfold gLs at h;split at h
 ·exact⟨_,h,fun _ h=>h⟩
 ·exact⟨_,h,fun _ h=>h⟩
 ·exact h.elim
theorem zzr (a:AV):Out (gIs a):=by
 intro E h;unfold gIs at h;split at h
 ·exact⟨_,h,fun _ h=>h⟩
 ·exact⟨_,h,fun _ h=>h⟩
 ·exact h.elim
theorem zzt (l:List AV):Out fun E:Dy×List AV→Prop=>gDy l fun e r=>E (e,r):=by
 intro E h
 unfold gDy at h
 split at h
 ·exact Out.bind (zc1 _) (fun _=>Out.bind (zsr _) fun _=>Out.bind (wq _) fun _=>Out.pure (_,_)) E h
 ·exact h.elim
theorem zc0 {α:Type} {l:List AV} {G:Dy→List AV→(α→Prop)→Prop} (hG: ∀e r,Out (G e r)):Out fun E=>gDy l fun e r=>G e r E:=
 Out.bind (F:=fun E:Dy×List AV→Prop=>gDy l fun e r=>E (e,r)) (G:=fun x=>G x.1 x.2) (zzt l) fun x=>hG _ _
theorem zzs (l:List AV):Out fun E:Ex×List AV→Prop=>gEx l fun e r=>E (e,r):=by
 intro E h
 unfold gEx at h
 split at h
 ·exact Out.bind (wq _) (fun _=>Out.bind (wq _) fun _=>Out.bind (wq _) fun _=>Out.bind (zik _) fun _=>Out.bind (wq _) fun _=>
   Out.bind (zvn _) fun _=>Out.pure (_,_)) E h
 ·exact h.elim
theorem zeo {α:Type} {l:List AV} {G:Ex→List AV→(α→Prop)→Prop} (hG: ∀e r,Out (G e r)):Out fun E=>gEx l fun e r=>G e r E:=
 Out.bind (F:=fun E:Ex×List AV→Prop=>gEx l fun e r=>E (e,r)) (G:=fun x=>G x.1 x.2) (zzs l) fun x=>hG _ _
theorem yb: ∀(k:Elt) (l:List AV),Out (qs k l)
 | .ex,l=>by
   intro E h;simp only[qs]at h⊢
   refine zeo (fun e r=>?_) E h
   intro E h
   cases r with
   |nil=>exact⟨_,h,fun _ h=>h⟩
   |cons _ _=>exact h.elim
 | .ls,[s]=>fun E h=>zsr s E h
 | .ls,[]=>fun _ h=>False.elim h
 | .ls,_::_::_=>fun _ h=>False.elim h
 | .dy,l=>by
   intro E h;simp only[qs]at h⊢
   refine zc0 (fun e r=>?_) E h
   intro E h
   cases r with
   |nil=>exact⟨_,h,fun _ h=>h⟩
   |cons _ _=>exact h.elim
 | .iv,l=>by
   intro E h;simp only[qs]at h⊢
   refine zc0 (fun e r=>zc0 (fun e' r'=>?_)) E h
   intro E h
   split at h
   ·exact Out.bind (zc1 _) (fun _=>Out.pure _) E h
   ·exact h.elim
 | .vs,[s]=>fun E h=>zzr s E h
 | .vs,[]=>fun _ h=>False.elim h
 | .vs,_::_::_=>fun _ h=>False.elim h
 | .ki,[]=>fun _ h=>False.elim h
 | .ki,s::l=>by
   intro E h;simp only[qs]at h⊢
   refine Out.bind (wq s) (fun s=>zc0 (fun e r=>zc0 (fun e' r'=>?_))) E h
   intro E h
   split at h
   ·exact Out.bind (zc1 _) (fun _=>Out.pure _) E h
   ·exact h.elim
 | .eqn,s::l=>by
   intro E h;simp only[qs]at h⊢
   refine Out.bind (zik s) (fun s=>zeo (fun e r=>?_)) E h
   intro E h
   cases r with
   |nil=>exact⟨_,h,fun _ h=>h⟩
   |cons _ _=>exact h.elim
 | .ex2,l=>by
   intro E h;simp only[qs]at h⊢
   refine zeo (fun e r=>zeo (fun e' r'=>?_)) E h
   intro E h
   cases r' with
   |nil=>exact⟨_,h,fun _ h=>h⟩
   |cons _ _=>exact h.elim
 | .eqn,[]=>fun _ h=>False.elim h
 | .str,[s]=>fun E h=>zik s E h
 | .str,[]=>fun _ h=>False.elim h
 | .str,_::_::_=>fun _ h=>False.elim h
 | .int,[s]=>fun E h=>wq s E h
 | .int,[]=>fun _ h=>False.elim h
 | .int,_::_::_=>fun _ h=>False.elim h
 | .bool,[s]=>fun E h=>zc1 s E h
 | .bool,[]=>fun _ h=>False.elim h
 | .bool,_::_::_=>fun _ h=>False.elim h
 | .u32,[s]=>fun E h=>zvk s E h
 | .u32,[]=>fun _ h=>False.elim h
 | .u32,_::_::_=>fun _ h=>False.elim h
 | .rat,[a,b]=>fun E h=>Out.bind (wq a) (fun _=>Out.bind (wq b) fun _=>Out.pure _) E h
 | .rat,[]=>fun _ h=>False.elim h
 | .rat,[_]=>fun _ h=>False.elim h
 | .rat,_::_::_::_=>fun _ h=>False.elim h
 | .op,[a,b,c,d,e,f]=>fun E h=>Out.bind (wq a) (fun _=>Out.bind (wq b) fun _=>Out.bind (wq c) fun _=>Out.bind (wq d) fun _=>Out.bind (wq e) fun _=>Out.bind (wq f) fun _=>Out.pure _) E h
 | .op,[]=>fun _ h=>False.elim h
 | .op,[_]=>fun _ h=>False.elim h
 | .op,[_,_]=>fun _ h=>False.elim h
 | .op,[_,_,_]=>fun _ h=>False.elim h
 | .op,[_,_,_,_]=>fun _ h=>False.elim h
 | .op,[_,_,_,_,_]=>fun _ h=>False.elim h
 | .op,_::_::_::_::_::_::_::_=>fun _ h=>False.elim h
theorem zgy (k:Elt): ∀l:List AV,Out (zdt k l)
 | []=>by intro E h;simp only[zdt]at h⊢;exact⟨_,h,fun _ h=>h⟩
 |a::l=>by
  intro E h;simp only[zdt]at h⊢
  exact Out.bind (yb k a.cs) (fun x=>Out.bind (G:=fun xs (K:List k.T→Prop)=>K (x::xs)) (zgy k l) fun xs=>Out.pure _) E h
theorem zmx (k:Elt) (a:AV):Out (zye k a):=by
 intro E h
 unfold zye at h
 split at h<;>first|exact h.elim|exact⟨_,h,fun _ h=>h⟩
theorem zsx: ∀(z l m:List AV),Out (eqZ z l m):=by
 intro z
 induction z with
 |nil=>
  intro l m
  cases l with
  |nil=>
   cases m with
   |nil=>exact fun E h=>⟨true,h,fun _ h=>h⟩
   |cons b m=>exact fun E h=>False.elim h
  |cons a l=>exact fun E h=>False.elim h
 |cons x z ih=>
  intro l m
  cases x with
  |int k n=>
   cases k<;>first|exact fun E h=>False.elim h|skip
   cases l with
   |nil=>exact fun E h=>False.elim h
   |cons a l=>
    cases a with
    |int k a=>
     cases k<;>first|exact fun E h=>False.elim h|skip
     cases m with
     |nil=>exact fun E h=>False.elim h
     |cons b m=>
      cases b with
      |int k b=>
       cases k<;>first|exact fun E h=>False.elim h|skip
       exact Out.bind (G:=fun r (k:Bool→Prop)=>k (a==b&&r)) (ih l m) (fun r=>Out.pure _)
      | _=>exact fun E h=>False.elim h
    | _=>exact fun E h=>False.elim h
  |str s=>
   cases l with
   |nil=>exact fun E h=>False.elim h
   |cons a l=>
    cases a with
    |str a=>
     cases m with
     |nil=>exact fun E h=>False.elim h
     |cons b m=>
      cases b with
      |str b=>exact Out.bind (G:=fun r (k:Bool→Prop)=>k (a==b&&r)) (ih l m) (fun r=>Out.pure _)
      | _=>exact fun E h=>False.elim h
    | _=>exact fun E h=>False.elim h
  |bool s=>
   cases l with
   |nil=>exact fun E h=>False.elim h
   |cons a l=>
    cases a with
    |bool a=>
     cases m with
     |nil=>exact fun E h=>False.elim h
     |cons b m=>
      cases b with
      |bool b=>exact Out.bind (G:=fun r (k:Bool→Prop)=>k (a==b&&r)) (ih l m) (fun r=>Out.pure _)
      | _=>exact fun E h=>False.elim h
    | _=>exact fun E h=>False.elim h
  | _=>exact fun E h=>False.elim h
theorem zih (o:BinOp) (k:IntKind) (a b:Int):Out (zzn o k a b):=by
 cases o<;>first|exact Out.pure _ |exact Out.and (Out.pure _)
theorem zui (o:BinOp) (a b:zg):Out (strB o a b):=by
 cases o<;>first|exact Out.pure _ |exact Out.and (Out.pure _)|exact Out.no
theorem zv2 (i:TI) (o:BinOp) (x y:AV):Out (qah i o x y):=by
 cases x<;>cases y<;>try exact Out.no
 case int.int k a k' b=>
  intro E h
  cases o<;>simp only[qah]at h⊢
  case shl=>exact zih _ _ _ _ E h
  case shr=>exact zih _ _ _ _ E h
  all_goals (cases hk:zly k k'<;>simp only[hk]at h⊢;exact zih _ _ _ _ E h)
 case str.str a b=>exact zui _ _ _
 case bool.bool a b=>
  unfold qah
  cases Nat.beq i.cls 6<;>cases o<;>first|exact Out.pure _ |exact Out.no
 case sl.nilsl k xs=>
  unfold qah
  cases Nat.beq i.cls 3<;>cases o<;>first|exact Out.pure _ |exact Out.no
 case agg.agg l m=>
  intro E h
  simp only[qah]at h⊢
  cases h1:i.eq<;>simp only[h1]at h⊢
  cases o<;>simp only at h⊢
  ·exact Out.bind (G:=fun r (E:AV→Prop)=>E (.bool r)) (zsx i.z l m) (fun r=>Out.pure _) E h
  ·exact Out.bind (G:=fun r (E:AV→Prop)=>E (.bool !r)) (zsx i.z l m) (fun r=>Out.pure _) E h
theorem ztm (c:CT) (A:List AV) (ids:List Nat) (bs:List Blk):zz (app c A ids bs):=by
 intro E h
 obtain⟨bs',r,hc,hk⟩:=h
 unfold app
 split at hk
 ·rename_i h1 h2 h3 h4 h5
  exact⟨r,bs',hk,fun E' he=>⟨bs',r,hc,by rw[h1,h2,h3,h4,h5];exact he⟩⟩
 ·exact hk.elim
theorem zkm: ∀(n:Nat) (bs:List Blk),Out (zko n bs)
 |0,bs=>by intro E h;simp only[zko]at h⊢;exact⟨bs,h,fun _ h=>h⟩
 |n+1,[]=>by intro E h;simp[zko]at h
 |n+1,b::bs=>by
  intro E h
  cases b<;>simp only[zko]at h⊢
  exact zkm n bs E h
theorem zv6 (c:CT) (n dst:Nat) (A:List AV) (ids:List Nat) (bs:List Blk):zz (appN c n dst A ids bs):=by
 intro E h
 unfold appN at h⊢
 refine zz.bind (zkm n bs) (fun bs=>?_) E h
 intro E h
 obtain⟨bs',nbs,r,hc,hk⟩:=h
 split at hk
 ·rename_i h1 h2 h3 h4 h5 h6 h7 h8 h9 h10
  exact⟨_,_,hk,fun E' he=>⟨bs',nbs,r,hc,by rw[h1,h2,h3,h4,h5,h6,h7,h8,h9,h10];exact he⟩⟩
 ·exact hk.elim
theorem za7 (T:Tab) (t:Nat) {G:Elt→Elt→TI→(AV→List Blk→Prop)→Prop} (hG: ∀a b i,zz (G a b i)):zz fun E=>zgk T t fun a b i=>G a b i E:=by
 intro E h
 unfold zgk at h⊢
 refine zz.bind (va T t) (fun i=>?_) E h
 intro E h
 split at h
 ·refine zz.bind (va T _) (fun j=>?_) E h
  intro E h
  split at h
  ·refine zz.bind (va T _) (fun v=>?_) E h
   intro E h
   split at h
   ·split at h
    ·rename_i e1 _ e2
     simp only[e1,e2]
     exact hG _ _ _ E h
    ·exact h.elim
   ·exact h.elim
  ·exact h.elim
 ·exact h.elim
theorem zva (T:Tab) (t:Nat) (x i:AV) (ok:Bool) (bs:List Blk):zz (lkOp T t x i ok bs):=by
 intro E h
 unfold lkOp at h⊢
 refine za7 T t (fun kk vk v=>?_) E h
 intro E h
 split at h
 ·split at h
  ·rename_i h1 h2 h3
   simp only[h1,h2,h3]
   refine zz.bind (yb _ _) (fun key=>zz.bind (yb _ _) (fun z=>zz.bind (zif _ _ _) fun u=>?_)) E h
   intro E h
   cases ok
   ·exact⟨_,_,h,fun _ h=>h⟩
   ·exact⟨_,_,h,fun _ h=>h⟩
  ·exact h.elim
 ·exact h.elim
theorem znd (T:Tab) (t:Nat) (m x y:AV) (bs:List Blk):zz (qcw T t m x y bs):=by
 intro E h
 unfold qcw at h⊢
 refine za7 T t (fun kk vk v=>?_) E h
 intro E h
 split at h
 ·split at h
  ·rename_i h1 h2 h3 h4
   simp only[h1,h2,h3,h4]
   exact zz.bind (yb _ _) (fun key=>zz.bind (yb _ _) (fun z=>zz.pure _ _)) E h
  ·exact h.elim
 ·exact h.elim
theorem kv (x:Option AV) (d:Int):Out (zay x d):=by
 intro E h
 unfold zay at h⊢
 split at h
 ·exact⟨_,h,fun _ h=>h⟩
 ·exact⟨_,h,fun _ h=>h⟩
 ·exact h.elim
theorem zum (i:TI) (x:AV) (lo hi mx:Option AV):zz (qaz i x lo hi mx):=by
 intro E h
 unfold qaz at h⊢
 cases mx with
 |some y=>
  simp only at h⊢
  split at h
  ·split at h
   ·rename_i e1 e2
    try simp only[e1,e2]
    exact zz.bind (kv _ _) (fun l=>zz.and (zz.pure _ _)) E h
   ·exact h.elim
  ·exact h.elim
 |none=>
  simp only at h⊢
  cases x<;>simp only at h⊢
  case str s=>
   cases e:Nat.beq i.cls 5<;>simp only[e]at h⊢
   exact zz.bind (kv _ _) (fun l=>zz.bind (kv _ _) fun u=>zz.and (zz.pure _ _)) E h
  case nilsl=>
   cases e:Nat.beq i.cls 3<;>simp only[e]at h⊢
   exact zz.bind (kv _ _) (fun l=>zz.bind (kv _ _) fun u=>zz.and (zz.pure _ _)) E h
  case sl k xs=>
   cases e:Nat.beq i.cls 3<;>cases e':Nat.beq i.esz k.size<;>simp only[e,e']at h⊢
   exact zz.bind (kv _ _) (fun l=>zz.bind (kv _ _) fun u=>zz.and (zz.pure _ _)) E h
theorem zsd (bs:List Blk):zz (zph bs):=by
 intro E h
 unfold zph at h⊢
 split at h
 ·exact⟨_,_,h,fun _ h=>h⟩
 ·exact h.elim
theorem zsc (i:TI) (x:AV) (bs:List Blk):zz (zjz i x bs):=by
 cases x<;>try exact zz.no
 case str s=>unfold zjz;cases Nat.beq i.cls 5<;>first|exact zz.pure _ _ |exact zz.no
 case nilsl=>unfold zjz;cases Nat.beq i.cls 3<;>first|exact zz.pure _ _ |exact zz.no
 case sl k xs=>unfold zjz;cases Nat.beq i.cls 3<;>first|exact zz.pure _ _ |exact zz.no
 case ow=>unfold zjz;cases Nat.beq i.cls 3<;>first|exact zz.pure _ _ |exact zz.no
 case own id=>
  intro E h
  unfold zjz at h⊢
  simp only at h⊢
  split at h
  ·exact⟨_,_,h,fun _ h=>h⟩
  ·exact h.elim
theorem ztn (T:Tab) (i:TI) (dst:Nat) (s x:AV) (bs:List Blk):zz (zv5 T i dst s x bs):=by
 intro E h
 unfold zv5 at h
 split at h
 ·refine zz.bind (va T _) (fun j=>?_) E h
  intro E h
  split at h
  ·rename_i esz _ _ _ _ _ _ _ sz _ _ _ _ k _ _ bytes _
   split at h
   ·split at h
    ·exact zz.bind (zmx _ x) (fun ys=>zz.and (zz.pure _ _)) E h
    ·split at h
     ·rename_i h1 h2 h3
      simp only[h1,h2,h3]
      exact zz.bind (zmx _ x) (fun ys=>zz.and (zz.pure _ _)) E h
     ·exact h.elim
    ·exact h.elim
   ·exact h.elim
  ·exact h.elim
 ·exact h.elim
set_option maxHeartbeats 1000000 in
theorem zz0 (T:Tab) (C:Con) (op:Op) (dst:Nat) (ρ:Operand→AV) (ids:List Nat) (bs:List Blk):zz (qe T C op dst ρ ids bs):=by
 intro E h
 cases op with
 |move x=>exact⟨_,_,h,fun _ h=>h⟩
 |assign x=>exact⟨_,_,h,fun _ h=>h⟩
 |pick c a b=>
  simp only[qe]at h⊢
  cases e:ρ c<;>simp only[e]at h⊢
  rename_i t
  cases t
  ·exact⟨_,_,h,fun _ h=>h⟩
  ·exact⟨_,_,h,fun _ h=>h⟩
 |alloc t=>
  simp only[qe]at h⊢
  split at h
  ·exact zz.bind (va T t) (fun i=>zz.pure _ _) E h
  ·exact h.elim
 |box t x=>
  simp only[qe]at h⊢
  split at h
  ·rename_i e;(try simp only[e]);exact⟨_,_,h,fun _ h=>h⟩
  ·exact h.elim
 |build t ps=>
  simp only[qe]at h⊢
  refine zz.bind (va T t) (fun i=>?_) E h
  intro E h
  split at h
  ·exact zz.bind (zke _ _ _) (fun l=>zz.pure _ _) E h
  ·exact zz.bind (zkg _ _ _) (fun l=>zz.pure _ _) E h
  ·exact h.elim
 |buildSlice t n ps=>
  simp only[qe]at h⊢
  refine zz.bind (va T t) (fun i=>?_) E h
  intro E h
  split at h
  ·refine zz.bind (va T _) (fun j=>?_) E h
   intro E h
   split at h
   ·split at h
    ·split at h
     ·split at h
      ·rename_i e;(try simp only[*]);exact⟨_,_,h,fun _ h=>h⟩
      ·exact h.elim
     ·split at h
      ·try simp only[*]
       exact zz.bind (zgy _ _) (fun l=>zz.pure _ _) E h
      ·exact h.elim
    ·exact h.elim
   ·exact h.elim
  ·exact h.elim
 |makeSlice t l c=>
  simp only[qe]at h⊢
  refine zz.bind (va T t) (fun i=>?_) E h
  intro E h
  split at h
  ·refine zz.bind (va T _) (fun j=>?_) E h
   intro E h
   split at h
   ·split at h
    ·rename_i e1 e2 e3 e4 e5 _
     simp only[e1,e2,e3,e4,e5]
     exact zz.bind (yb _ _) (fun x=>zz.and (zz.pure _ _)) E h
    ·exact h.elim
   ·exact h.elim
  ·exact h.elim
 |load t p=>
  simp only[qe]at h⊢
  cases e:ρ p<;>simp only[e]at h⊢
  case ptr i off=>
   split at h
   ·exact zz.bind (va T t) (fun i=>zz.bind (zif i _ off) fun v=>zz.pure _ _) E h
   ·exact h.elim
  case rp k x off=>exact zz.bind (va T t) (fun i=>zz.bind (zif i _ off) fun v=>zz.pure _ _) E h
  case opt i sz j off=>
   split at h
   ·split at h
    ·rename_i e;try simp only[e]
     exact zz.idx _ _ (fun h=>h) (fun x=>zz.bind (va T t) (fun i=>zz.bind (zif i _ off) fun v=>zz.pure _ _)) E h
    ·exact h.elim
   ·exact h.elim
 |store t p v=>
  simp only[qe]at h⊢
  refine zz.bind (va T t) (fun i=>?_) E h
  intro E h
  cases e1:zse (ρ v).cs i.sz<;>cases e2:zdd (ρ v).cs <;>simp only[e1,e2]at h⊢
  split at h
  ·rename_i e;(try simp only[e]at h⊢)
   split at h
   ·exact zz.bind (zfb _ _ _) (fun l=>zz.pure _ _) E h
   ·exact h.elim
  ·rename_i e;(try simp only[e]at h⊢)
   split at h
   ·split at h
    ·rename_i e3 e4;try simp only[e3,e4]
     exact zz.bind (yb _ _) (fun l=>zz.and (zz.pure _ _)) E h
    ·exact h.elim
   ·exact h.elim
  ·exact h.elim
 |nilCheck x=>
  simp only[qe]at h⊢
  cases e:ρ x<;>simp only[e]at h⊢ <;>exact⟨_,_,h,fun _ h=>h⟩
 |binOp o t x y ty=>
  simp only[qe]at h⊢
  exact zz.bind (va T t) (fun i=>zz.bind (zv2 _ _ _ _) fun v=>zz.pure _ _) E h
 |unOp o t x=>
  simp only[qe]at h⊢
  cases o<;>cases e:ρ x<;>simp only[e]at h⊢ <;>exact⟨_,_,h,fun _ h=>h⟩
 |convert s d x=>
  simp only[qe]at h⊢
  refine zz.bind (va T s) (fun j=>zz.bind (va T d) (fun i=>?_)) E h
  intro E h
  cases e:ρ x<;>simp only[e]at h⊢
  ·split at h
   ·exact⟨_,_,h,fun _ h=>h⟩
   ·exact h.elim
  ·split at h
   ·rename_i e1 e2;(try simp only[e1,e2]);exact⟨_,_,h,fun _ h=>h⟩
   ·exact h.elim
 |makeFunc f x y=>
  simp only[qe]at h⊢
  split at h
  ·rename_i e;(try simp only[e]);exact⟨_,_,h,fun _ h=>h⟩
  ·exact h.elim
 |fieldAddr t x f=>
  simp only[qe]at h⊢
  refine zz.bind (va T t) (fun i=>?_) E h
  intro E h
  split at h
  ·refine zfq (fun o s a=>?_) _ _ E h
   intro E h
   cases e:ρ x<;>simp only[e]at h⊢ <;>exact⟨_,_,h,fun _ h=>h⟩
  ·exact h.elim
 |field t x f=>
  simp only[qe]at h⊢
  refine zz.bind (va T t) (fun i=>?_) E h
  intro E h
  split at h
  ·rename_i e;try simp only[e]
   exact zfq (fun o s a=>zz.bind (zjj _ _ _ _) fun v=>zz.pure _ _) _ _ E h
  ·exact h.elim
 |indexAddr t x i=>
  simp only[qe]at h⊢
  refine zz.bind (va T t) (fun ti=>?_) E h
  intro E h
  cases e:ρ i<;>simp only[e]at h⊢
  rename_i kk n
  split at h
  ·cases e2:ρ x<;>simp only[e2]at h⊢
   ·split at h
    ·rename_i e3;try simp only[e3]
     exact zz.and (zz.pure _ _) E h
    ·exact h.elim
   ·split at h
    ·rename_i e3;try simp only[e3]
     exact zz.idx _ _ (fun h=>by omega) (fun x=>zz.pure _ _) E h
    ·exact h.elim
   ·split at h
    ·split at h
     ·rename_i e3;try simp only[e3]
      exact zz.and (zz.pure _ _) E h
     ·exact h.elim
    ·exact h.elim
  ·cases e2:ρ x<;>simp only[e2]at h⊢ <;>exact zz.and (zz.pure _ _) E h
  ·exact h.elim
 |index t x i=>
  simp only[qe]at h⊢
  refine zz.bind (va T t) (fun ti=>?_) E h
  intro E h
  split at h
  ·rename_i e1 e2 e3;try simp only[e1,e2,e3]
   exact zz.idx _ _ (fun h=>by omega) (fun x=>zz.pure _ _) E h
  ·rename_i e1 e2 e3;try simp only[e1,e2,e3]
   split at h
   ·rename_i e4;try simp only[e4]
    refine zz.bind (va T _) (fun tj=>?_) E h
    intro E h
    exact zz.and (zz.bind (zjj _ _ _ _) fun v=>zz.pure _ _) E h
   ·exact h.elim
  ·exact h.elim
 |extract x n=>
  simp only[qe]at h⊢
  cases e:ρ x<;>simp only[e]at h⊢
  refine zz.bind (zb3 _ _ _) (fun r=>?_) E h
  intro E h
  split at h
  ·exact⟨_,_,h,fun _ h=>h⟩
  ·exact h.elim
 |call c=>
  cases hc:c.callee with
  |value f=>
   simp only[qe,hc]at h⊢
   cases e:ρ f<;>simp only[e]at h⊢
   case fn g caps=>
    cases e2:zza T g<;>simp only[e2]at h⊢
    ·exact zz.bind (zim _) (fun A=>ztm _ A ids bs) E h
    ·exact zz.bind (zim _) (fun A=>zv6 _ _ _ A ids bs) E h
   case cb l=>exact zz.bind (zim _) (fun A=>ztm _ A ids bs) E h
  |invoke r m=>simp[qe,hc]at h
  |builtin b=>
   cases b with
   |len=>
    simp only[qe,hc]at h⊢
    split at h
    ·rename_i e1 e2;try simp only[e1,e2]
     split at h
     ·rename_i e3;try simp only[e3]
      exact za7 T _ (fun _ _ _=>zsd _) E h
     ·rename_i e3;try simp only[e3]
      exact zz.bind (va T _) (fun i=>zsc _ _ _) E h
    ·exact h.elim
   |append=>
    simp only[qe,hc]at h⊢
    split at h
    ·rename_i e1 e2;try simp only[e1,e2]
     split at h
     ·rename_i e3;try simp only[e3]
      exact zz.bind (va T _) (fun i=>ztn _ _ _ _ _ _) E h
     ·exact h.elim
    ·exact h.elim
   |max=>
    simp only[qe,hc]at h⊢
    split at h
    ·rename_i e1;(try simp only[e1]);exact⟨_,_,h,fun _ h=>h⟩
    ·rename_i e1;(try simp only[e1]);exact⟨_,_,h,fun _ h=>h⟩
    ·exact h.elim
   |min=>
    simp only[qe,hc]at h⊢
    split at h
    ·rename_i e1;(try simp only[e1]);exact⟨_,_,h,fun _ h=>h⟩
    ·exact h.elim
   | _=>simp[qe,hc]at h
 |makeMap t r=>
  simp only[qe]at h⊢
  refine za7 T t (fun kk vk v=>?_) E h
  intro E h
  split at h
  ·rename_i e1;simp only[e1];exact⟨_,_,h,fun _ h=>h⟩
  ·exact h.elim
 |lookup t x i ok=>exact zva _ _ _ _ _ _ E h
 |mapUpdate t m k v=>exact znd _ _ _ _ _ _ E h
 |insert t m k v=>exact znd _ _ _ _ _ _ E h
 |slice t x lo hi mx=>
  simp only[qe]at h⊢
  refine zz.bind (va T t) (fun i=>?_) E h
  intro E h
  cases hwn:qc7 T hi with
  |true=>
   simp only[hwn]at h⊢
   split at h
   ·rename_i e1 e2 e3 e4;try simp only[e1,e2,e3,e4]
    split at h
    ·rename_i e5 e6;try simp only[e5,e6]
     exact zz.and (zz.pure _ _) E h
    ·exact h.elim
   ·exact h.elim
  |false=>simp only[hwn]at h⊢;exact zum _ _ _ _ _ E h
 | _=>exact False.elim h
end Go.Sx
