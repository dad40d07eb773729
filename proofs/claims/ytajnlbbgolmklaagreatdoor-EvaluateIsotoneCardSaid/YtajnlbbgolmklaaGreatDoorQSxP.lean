/-
  What an operation yields can be drawn out of the execution: effO is a value and blocks, handed on.
-/
import Derived.Test.YtajnlbbgolmklaaGreatDoorQSxO
set_option linter.unusedVariables false
set_option linter.unusedSimpArgs false
namespace Go.Sx
open Go
def Out {α:Type} (F:(α→Prop)→Prop):Prop:= ∀E:α→Prop,F E→ ∃x,E x∧ ∀E':α→Prop,E' x→F E'
def Out2 (F:(AV→List Blk→Prop)→Prop):Prop:= ∀E:AV→List Blk→Prop,F E→ ∃r bs,E r bs∧ ∀E':AV→List Blk→Prop,E' r bs→F E'
theorem Out.pure {α:Type} (x:α):Out fun E:α→Prop=>E x:=fun _ h=>⟨x,h,fun _ h=>h⟩
theorem Out.no {α:Type}:Out fun _:α→Prop=>False:=fun _ h=>h.elim
theorem Out.bind {α β:Type} {F:(α→Prop)→Prop} {G:α→(β→Prop)→Prop} (hF:Out F) (hG: ∀x,Out (G x)):Out fun E=>F fun x=>G x E:=fun E h=>by
 obtain⟨x,h1,h2⟩:=hF _ h
 obtain⟨y,h3,h4⟩:=hG x E h1
 exact⟨y,h3,fun E' he=>h2 _ (h4 E' he)⟩
theorem Out.and {α:Type} {p:Prop} {F:(α→Prop)→Prop} (hF:Out F):Out fun E=>p∧F E:=fun E h=>by
 obtain⟨x,h1,h2⟩:=hF E h.2
 exact⟨x,h1,fun E' he=>⟨h.1,h2 E' he⟩⟩
theorem Out2.pure (r:AV) (bs:List Blk):Out2 fun E=>E r bs:=fun _ h=>⟨r,bs,h,fun _ h=>h⟩
theorem Out2.no:Out2 fun _=>False:=fun _ h=>h.elim
theorem Out2.bind {α:Type} {F:(α→Prop)→Prop} {G:α→(AV→List Blk→Prop)→Prop} (hF:Out F) (hG: ∀x,Out2 (G x)):Out2 fun E=>F fun x=>G x E:=fun E h=>by
 obtain⟨x,h1,h2⟩:=hF _ h
 obtain⟨y,bs,h3,h4⟩:=hG x E h1
 exact⟨y,bs,h3,fun E' he=>h2 _ (h4 E' he)⟩
theorem Out2.and {p:Prop} {F:(AV→List Blk→Prop)→Prop} (hF:Out2 F):Out2 fun E=>p∧F E:=fun E h=>by
 obtain⟨x,bs,h1,h2⟩:=hF E h.2
 exact⟨x,bs,h1,fun E' he=>⟨h.1,h2 E' he⟩⟩
theorem Out2.idx {α:Type} (xs:List α) (j:Nat) {p:Prop} (hp:p→j<xs.length) {G:α→(AV→List Blk→Prop)→Prop} (hG: ∀x,Out2 (G x)):Out2 fun E=>p∧ ∀x,xs[j]? =some x→G x E:=fun E h=>by
 have hj:=hp h.1
 have hx:xs[j]? =some xs[j]:=List.getElem?_eq_getElem hj
 obtain⟨r,bs,h1,h2⟩:=hG _ E (h.2 _ hx)
 exact⟨r,bs,h1,fun E' he=>⟨h.1,fun y hy=>by rw[hx]at hy;cases hy;exact h2 E' he⟩⟩
theorem tgL_out: ∀(T:List (Nat×TI)) (t:Nat),Out (tgL T t)
 | [],_=>Out.no
 |(a,i)::r,t=>by
  intro E h
  simp only[tgL]at h⊢
  cases e:Nat.beq a t with
  |true=>simp only[e]at h⊢;exact⟨i,h,fun _ h=>h⟩
  |false=>simp only[e]at h⊢;exact tgL_out r t E h
theorem tgK_out (T:Tab) (t:Nat):Out (tgK T t):=tgL_out T.ty t
theorem frcL_out (l:List AV):Out (frcL l):=fun E h=>⟨l,(frcL_iff l E).1 h,fun E' he=>(frcL_iff l E').2 he⟩
theorem cut_out: ∀(l:List AV) (o n:Nat),Out (cut l o n)
 |l,0,0=>by intro E h;cases l<;>(simp only[cut]at h⊢;exact⟨[],h,fun _ h=>h⟩)
 |a::l,0,n+1=>by
  have:=Out.bind (G:=fun r (k:List AV→Prop)=>k (a::r)) (cut_out l 0 n) fun r=>Out.pure _
  intro E h;simp only[cut]at h⊢;exact this E h
 | [],0,_+1=>by intro E h;simp[cut]at h
 | _::l,off+1,n=>by intro E h;simp only[cut]at h⊢;exact cut_out l off n E h
 | [],_+1,_=>by intro E h;simp[cut]at h
theorem lay_out: ∀(l:List AV) (o:Nat) (m:List AV),Out (lay l o m)
 |l,0,[]=>by intro E h;cases l<;>(simp only[lay]at h⊢;exact⟨_,h,fun _ h=>h⟩)
 | _::l,0,b::m=>by
   have:=Out.bind (G:=fun r (k:List AV→Prop)=>k (b::r)) (lay_out l 0 m) fun r=>Out.pure _
   intro E h;simp only[lay]at h⊢;exact this E h
 | [],0,_::_=>by intro E h;simp[lay]at h
 |a::l,off+1,m=>by
  have:=Out.bind (G:=fun r (k:List AV→Prop)=>k (a::r)) (lay_out l off m) fun r=>Out.pure _
  intro E h;simp only[lay]at h⊢;exact this E h
 | [],_+1,m=>by intro E h;simp[lay]at h
theorem one_out (l:List AV):Out fun E:AV→Prop=>match l with
 | [a]=>E a
 | _=>False:=by
 intro E h
 split at h
 ·exact⟨_,h,fun _ h=>h⟩
 ·exact h.elim
theorem ldK_out (i:TI) (l:List AV) (off:Nat):Out (ldK i l off):=by
 intro E h
 unfold ldK at h⊢
 cases e:i.agg with
 |true=>simp only[e]at h⊢;exact Out.bind (G:=fun r (E:AV→Prop)=>E (.agg r)) (cut_out l off i.sz) (fun r=>Out.pure _) E h
 |false=>simp only[e]at h⊢;exact Out.bind (cut_out l off 1) (fun r=>one_out r) E h
theorem partK_out (l:List AV) (o s:Nat) (a:Bool):Out (partK l o s a):=by
 intro E h
 unfold partK at h⊢
 cases a with
 |true=>exact Out.bind (G:=fun r (E:AV→Prop)=>E (.agg r)) (cut_out l o s) (fun r=>Out.pure _) E h
 |false=>exact Out.bind (cut_out l o 1) (fun r=>one_out r) E h
theorem fldOf_out {G:Nat→Nat→Bool→(AV→List Blk→Prop)→Prop} (hG: ∀o s a,Out2 (G o s a)): ∀(fs:List (Nat×Nat×Bool)) (f:Nat),Out2 fun E=>fldOf fs f fun o s a=>G o s a E
 |(o,s,a)::_,0=>by intro E h;simp only[fldOf]at h⊢;exact hG o s a E h
 |(_,_,_)::r,f+1=>by intro E h;simp only[fldOf]at h⊢;exact fldOf_out hG r f E h
 | [],_=>by intro E h;simp[fldOf]at h
theorem fldOf_out' {α:Type} {G:Nat→Nat→Bool→(α→Prop)→Prop} (hG: ∀o s a,Out (G o s a)): ∀(fs:List (Nat×Nat×Bool)) (f:Nat),Out fun E=>fldOf fs f fun o s a=>G o s a E
 |(o,s,a)::_,0=>by intro E h;simp only[fldOf]at h⊢;exact hG o s a E h
 |(_,_,_)::r,f+1=>by intro E h;simp only[fldOf]at h⊢;exact fldOf_out' hG r f E h
 | [],_=>by intro E h;simp[fldOf]at h
theorem fillS_out (fs:List (Nat×Nat×Bool)): ∀(ps:List (Nat×AV)) (z:List AV),Out (fillS fs ps z)
 | [],z=>by intro E h;simp only[fillS]at h⊢;exact⟨z,h,fun _ h=>h⟩
 |(f,v)::r,z=>by
  intro E h
  simp only[fillS]at h⊢
  refine fldOf_out' (fun o s _=>?_) fs f E h
  intro E h
  cases h1:lenB v.cs s<;>cases h2:oneL v.cs<;>simp only[h1,h2]at h⊢
  exact Out.bind (lay_out z o v.cs) (fun z=>fillS_out fs r z) E h
theorem fillA_out (s:Nat): ∀(ps:List (Nat×AV)) (z:List AV),Out (fillA s ps z)
 | [],z=>by intro E h;simp only[fillA]at h⊢;exact⟨z,h,fun _ h=>h⟩
 |(f,v)::r,z=>by
  intro E h
  simp only[fillA]at h⊢
  cases h1:lenB v.cs s<;>cases h2:oneL v.cs<;>simp only[h1,h2]at h⊢
  exact Out.bind (lay_out z (f*s) v.cs) (fun z=>fillA_out s r z) E h
theorem gInt_out (a:AV):Out (gInt a):=by
 intro E h;unfold gInt at h;split at h
 ·exact⟨_,h,fun _ h=>h⟩
 ·exact h.elim
theorem gBool_out (a:AV):Out (gBool a):=by
 intro E h;unfold gBool at h;split at h
 ·exact⟨_,h,fun _ h=>h⟩
 ·exact h.elim
theorem gU32_out (a:AV):Out (gU32 a):=by
 intro E h;unfold gU32 at h;split at h
 ·exact⟨_,h,fun _ h=>h⟩
 ·exact h.elim
theorem gStr_out (a:AV):Out (gStr a):=by
 intro E h;unfold gStr at h;split at h
 ·exact⟨_,h,fun _ h=>h⟩
 ·exact h.elim
theorem gExs_out (a:AV):Out (gExs a):=by
 intro E h;unfold gExs at h;split at h
 ·exact⟨_,h,fun _ h=>h⟩
 ·exact⟨_,h,fun _ h=>h⟩
 ·exact h.elim
theorem gLs_out (a:AV):Out (gLs a):=by
 intro E h;unfold gLs at h;split at h
 ·exact⟨_,h,fun _ h=>h⟩
 ·exact⟨_,h,fun _ h=>h⟩
 ·exact h.elim
theorem gIs_out (a:AV):Out (gIs a):=by
 intro E h;unfold gIs at h;split at h
 ·exact⟨_,h,fun _ h=>h⟩
 ·exact⟨_,h,fun _ h=>h⟩
 ·exact h.elim
theorem gDy_out (l:List AV):Out fun E:Dy×List AV→Prop=>gDy l fun e r=>E (e,r):=by
 intro E h
 unfold gDy at h
 split at h
 ·exact Out.bind (gBool_out _) (fun _=>Out.bind (gLs_out _) fun _=>Out.bind (gInt_out _) fun _=>Out.pure (_,_)) E h
 ·exact h.elim
theorem gDy_bind {α:Type} {l:List AV} {G:Dy→List AV→(α→Prop)→Prop} (hG: ∀e r,Out (G e r)):Out fun E=>gDy l fun e r=>G e r E:=
 Out.bind (F:=fun E:Dy×List AV→Prop=>gDy l fun e r=>E (e,r)) (G:=fun x=>G x.1 x.2) (gDy_out l) fun x=>hG _ _
theorem gEx_out (l:List AV):Out fun E:Ex×List AV→Prop=>gEx l fun e r=>E (e,r):=by
 intro E h
 unfold gEx at h
 split at h
 ·exact Out.bind (gInt_out _) (fun _=>Out.bind (gInt_out _) fun _=>Out.bind (gInt_out _) fun _=>Out.bind (gStr_out _) fun _=>Out.bind (gInt_out _) fun _=>
   Out.bind (gExs_out _) fun _=>Out.pure (_,_)) E h
 ·exact h.elim
theorem gEx_bind {α:Type} {l:List AV} {G:Ex→List AV→(α→Prop)→Prop} (hG: ∀e r,Out (G e r)):Out fun E=>gEx l fun e r=>G e r E:=
 Out.bind (F:=fun E:Ex×List AV→Prop=>gEx l fun e r=>E (e,r)) (G:=fun x=>G x.1 x.2) (gEx_out l) fun x=>hG _ _
theorem reify_out: ∀(k:Elt) (l:List AV),Out (reify k l)
 | .ex,l=>by
   intro E h;simp only[reify]at h⊢
   refine gEx_bind (fun e r=>?_) E h
   intro E h
   cases r with
   |nil=>exact⟨_,h,fun _ h=>h⟩
   |cons _ _=>exact h.elim
 | .ls,[s]=>fun E h=>gLs_out s E h
 | .ls,[]=>fun _ h=>False.elim h
 | .ls,_::_::_=>fun _ h=>False.elim h
 | .dy,l=>by
   intro E h;simp only[reify]at h⊢
   refine gDy_bind (fun e r=>?_) E h
   intro E h
   cases r with
   |nil=>exact⟨_,h,fun _ h=>h⟩
   |cons _ _=>exact h.elim
 | .iv,l=>by
   intro E h;simp only[reify]at h⊢
   refine gDy_bind (fun e r=>gDy_bind (fun e' r'=>?_)) E h
   intro E h
   split at h
   ·exact Out.bind (gBool_out _) (fun _=>Out.pure _) E h
   ·exact h.elim
 | .vs,[s]=>fun E h=>gIs_out s E h
 | .vs,[]=>fun _ h=>False.elim h
 | .vs,_::_::_=>fun _ h=>False.elim h
 | .ki,[]=>fun _ h=>False.elim h
 | .ki,s::l=>by
   intro E h;simp only[reify]at h⊢
   refine Out.bind (gInt_out s) (fun s=>gDy_bind (fun e r=>gDy_bind (fun e' r'=>?_))) E h
   intro E h
   split at h
   ·exact Out.bind (gBool_out _) (fun _=>Out.pure _) E h
   ·exact h.elim
 | .eqn,s::l=>by
   intro E h;simp only[reify]at h⊢
   refine Out.bind (gStr_out s) (fun s=>gEx_bind (fun e r=>?_)) E h
   intro E h
   cases r with
   |nil=>exact⟨_,h,fun _ h=>h⟩
   |cons _ _=>exact h.elim
 | .ex2,l=>by
   intro E h;simp only[reify]at h⊢
   refine gEx_bind (fun e r=>gEx_bind (fun e' r'=>?_)) E h
   intro E h
   cases r' with
   |nil=>exact⟨_,h,fun _ h=>h⟩
   |cons _ _=>exact h.elim
 | .eqn,[]=>fun _ h=>False.elim h
 | .str,[s]=>fun E h=>gStr_out s E h
 | .str,[]=>fun _ h=>False.elim h
 | .str,_::_::_=>fun _ h=>False.elim h
 | .int,[s]=>fun E h=>gInt_out s E h
 | .int,[]=>fun _ h=>False.elim h
 | .int,_::_::_=>fun _ h=>False.elim h
 | .bool,[s]=>fun E h=>gBool_out s E h
 | .bool,[]=>fun _ h=>False.elim h
 | .bool,_::_::_=>fun _ h=>False.elim h
 | .u32,[s]=>fun E h=>gU32_out s E h
 | .u32,[]=>fun _ h=>False.elim h
 | .u32,_::_::_=>fun _ h=>False.elim h
 | .rat,[a,b]=>fun E h=>Out.bind (gInt_out a) (fun _=>Out.bind (gInt_out b) fun _=>Out.pure _) E h
 | .rat,[]=>fun _ h=>False.elim h
 | .rat,[_]=>fun _ h=>False.elim h
 | .rat,_::_::_::_=>fun _ h=>False.elim h
 | .op,[a,b,c,d,e,f]=>fun E h=>Out.bind (gInt_out a) (fun _=>Out.bind (gInt_out b) fun _=>Out.bind (gInt_out c) fun _=>Out.bind (gInt_out d) fun _=>Out.bind (gInt_out e) fun _=>Out.bind (gInt_out f) fun _=>Out.pure _) E h
 | .op,[]=>fun _ h=>False.elim h
 | .op,[_]=>fun _ h=>False.elim h
 | .op,[_,_]=>fun _ h=>False.elim h
 | .op,[_,_,_]=>fun _ h=>False.elim h
 | .op,[_,_,_,_]=>fun _ h=>False.elim h
 | .op,[_,_,_,_,_]=>fun _ h=>False.elim h
 | .op,_::_::_::_::_::_::_::_=>fun _ h=>False.elim h
theorem reifyL_out (k:Elt): ∀l:List AV,Out (reifyL k l)
 | []=>by intro E h;simp only[reifyL]at h⊢;exact⟨_,h,fun _ h=>h⟩
 |a::l=>by
  intro E h;simp only[reifyL]at h⊢
  exact Out.bind (reify_out k a.cs) (fun x=>Out.bind (G:=fun xs (K:List k.T→Prop)=>K (x::xs)) (reifyL_out k l) fun xs=>Out.pure _) E h
theorem slOf_out (k:Elt) (a:AV):Out (slOf k a):=by
 intro E h
 unfold slOf at h
 split at h<;>first|exact h.elim|exact⟨_,h,fun _ h=>h⟩
theorem eqZ_out: ∀(z l m:List AV),Out (eqZ z l m):=by
 intro z
 induction z with
 |nil=>
  intro l m
  cases l with
  |nil=>
   cases m with
   |nil=>exact fun E h=>⟨true,h,fun _ h=>h⟩
   |cons b m=>exact fun E h=>False.elim h
  |cons a l=>exact fun E h=>False.elim h
 |cons x z ih=>
  intro l m
  cases x with
  |int k n=>
   cases k<;>first|exact fun E h=>False.elim h|skip
   cases l with
   |nil=>exact fun E h=>False.elim h
   |cons a l=>
    cases a with
    |int k a=>
     cases k<;>first|exact fun E h=>False.elim h|skip
     cases m with
     |nil=>exact fun E h=>False.elim h
     |cons b m=>
      cases b with
      |int k b=>
       cases k<;>first|exact fun E h=>False.elim h|skip
       exact Out.bind (G:=fun r (k:Bool→Prop)=>k (a==b&&r)) (ih l m) (fun r=>Out.pure _)
      | _=>exact fun E h=>False.elim h
    | _=>exact fun E h=>False.elim h
  |str s=>
   cases l with
   |nil=>exact fun E h=>False.elim h
   |cons a l=>
    cases a with
    |str a=>
     cases m with
     |nil=>exact fun E h=>False.elim h
     |cons b m=>
      cases b with
      |str b=>exact Out.bind (G:=fun r (k:Bool→Prop)=>k (a==b&&r)) (ih l m) (fun r=>Out.pure _)
      | _=>exact fun E h=>False.elim h
    | _=>exact fun E h=>False.elim h
  |bool s=>
   cases l with
   |nil=>exact fun E h=>False.elim h
   |cons a l=>
    cases a with
    |bool a=>
     cases m with
     |nil=>exact fun E h=>False.elim h
     |cons b m=>
      cases b with
      |bool b=>exact Out.bind (G:=fun r (k:Bool→Prop)=>k (a==b&&r)) (ih l m) (fun r=>Out.pure _)
      | _=>exact fun E h=>False.elim h
    | _=>exact fun E h=>False.elim h
  | _=>exact fun E h=>False.elim h
theorem intB_out (o:BinOp) (k:IntKind) (a b:Int):Out (intB o k a b):=by
 cases o<;>first|exact Out.pure _ |exact Out.and (Out.pure _)
theorem strB_out (o:BinOp) (a b:Bytes):Out (strB o a b):=by
 cases o<;>first|exact Out.pure _ |exact Out.and (Out.pure _)|exact Out.no
theorem binA_out (i:TI) (o:BinOp) (x y:AV):Out (binA i o x y):=by
 cases x<;>cases y<;>try exact Out.no
 case int.int k a k' b=>
  intro E h
  cases o<;>simp only[binA]at h⊢
  case shl=>exact intB_out _ _ _ _ E h
  case shr=>exact intB_out _ _ _ _ E h
  all_goals (cases hk:kindB k k'<;>simp only[hk]at h⊢;exact intB_out _ _ _ _ E h)
 case str.str a b=>exact strB_out _ _ _
 case bool.bool a b=>
  unfold binA
  cases Nat.beq i.cls 6<;>cases o<;>first|exact Out.pure _ |exact Out.no
 case sl.nilsl k xs=>
  unfold binA
  cases Nat.beq i.cls 3<;>cases o<;>first|exact Out.pure _ |exact Out.no
 case agg.agg l m=>
  intro E h
  simp only[binA]at h⊢
  cases h1:i.eq<;>simp only[h1]at h⊢
  cases o<;>simp only at h⊢
  ·exact Out.bind (G:=fun r (E:AV→Prop)=>E (.bool r)) (eqZ_out i.z l m) (fun r=>Out.pure _) E h
  ·exact Out.bind (G:=fun r (E:AV→Prop)=>E (.bool !r)) (eqZ_out i.z l m) (fun r=>Out.pure _) E h
theorem app_out (c:CT) (A:List AV) (ids:List Nat) (bs:List Blk):Out2 (app c A ids bs):=by
 intro E h
 obtain⟨bs',r,hc,hk⟩:=h
 unfold app
 split at hk
 ·rename_i h1 h2 h3 h4 h5
  exact⟨r,bs',hk,fun E' he=>⟨bs',r,hc,by rw[h1,h2,h3,h4,h5];exact he⟩⟩
 ·exact hk.elim
theorem dropF_out: ∀(n:Nat) (bs:List Blk),Out (dropF n bs)
 |0,bs=>by intro E h;simp only[dropF]at h⊢;exact⟨bs,h,fun _ h=>h⟩
 |n+1,[]=>by intro E h;simp[dropF]at h
 |n+1,b::bs=>by
  intro E h
  cases b<;>simp only[dropF]at h⊢
  exact dropF_out n bs E h
theorem appN_out (c:CT) (n dst:Nat) (A:List AV) (ids:List Nat) (bs:List Blk):Out2 (appN c n dst A ids bs):=by
 intro E h
 unfold appN at h⊢
 refine Out2.bind (dropF_out n bs) (fun bs=>?_) E h
 intro E h
 obtain⟨bs',nbs,r,hc,hk⟩:=h
 split at hk
 ·rename_i h1 h2 h3 h4 h5 h6 h7 h8 h9 h10
  exact⟨_,_,hk,fun E' he=>⟨bs',nbs,r,hc,by rw[h1,h2,h3,h4,h5,h6,h7,h8,h9,h10];exact he⟩⟩
 ·exact hk.elim
theorem mapTy_out2 (T:Tab) (t:Nat) {G:Elt→Elt→TI→(AV→List Blk→Prop)→Prop} (hG: ∀a b i,Out2 (G a b i)):Out2 fun E=>mapTy T t fun a b i=>G a b i E:=by
 intro E h
 unfold mapTy at h⊢
 refine Out2.bind (tgK_out T t) (fun i=>?_) E h
 intro E h
 split at h
 ·refine Out2.bind (tgK_out T _) (fun j=>?_) E h
  intro E h
  split at h
  ·refine Out2.bind (tgK_out T _) (fun v=>?_) E h
   intro E h
   split at h
   ·split at h
    ·rename_i e1 _ e2
     simp only[e1,e2]
     exact hG _ _ _ E h
    ·exact h.elim
   ·exact h.elim
  ·exact h.elim
 ·exact h.elim
theorem lkOp_out (T:Tab) (t:Nat) (x i:AV) (ok:Bool) (bs:List Blk):Out2 (lkOp T t x i ok bs):=by
 intro E h
 unfold lkOp at h⊢
 refine mapTy_out2 T t (fun kk vk v=>?_) E h
 intro E h
 split at h
 ·split at h
  ·rename_i h1 h2 h3
   simp only[h1,h2,h3]
   refine Out2.bind (reify_out _ _) (fun key=>Out2.bind (reify_out _ _) (fun z=>Out2.bind (ldK_out _ _ _) fun u=>?_)) E h
   intro E h
   cases ok
   ·exact⟨_,_,h,fun _ h=>h⟩
   ·exact⟨_,_,h,fun _ h=>h⟩
  ·exact h.elim
 ·exact h.elim
theorem muOp_out (T:Tab) (t:Nat) (m x y:AV) (bs:List Blk):Out2 (muOp T t m x y bs):=by
 intro E h
 unfold muOp at h⊢
 refine mapTy_out2 T t (fun kk vk v=>?_) E h
 intro E h
 split at h
 ·split at h
  ·rename_i h1 h2 h3 h4
   simp only[h1,h2,h3,h4]
   exact Out2.bind (reify_out _ _) (fun key=>Out2.bind (reify_out _ _) (fun z=>Out2.pure _ _)) E h
  ·exact h.elim
 ·exact h.elim
theorem boundK_out (x:Option AV) (d:Int):Out (boundK x d):=by
 intro E h
 unfold boundK at h⊢
 split at h
 ·exact⟨_,h,fun _ h=>h⟩
 ·exact⟨_,h,fun _ h=>h⟩
 ·exact h.elim
theorem slOp_out (i:TI) (x:AV) (lo hi mx:Option AV):Out2 (slOp i x lo hi mx):=by
 intro E h
 unfold slOp at h⊢
 cases mx with
 |some y=>
  simp only at h⊢
  split at h
  ·split at h
   ·rename_i e1 e2
    try simp only[e1,e2]
    exact Out2.bind (boundK_out _ _) (fun l=>Out2.and (Out2.pure _ _)) E h
   ·exact h.elim
  ·exact h.elim
 |none=>
  simp only at h⊢
  cases x<;>simp only at h⊢
  case str s=>
   cases e:Nat.beq i.cls 5<;>simp only[e]at h⊢
   exact Out2.bind (boundK_out _ _) (fun l=>Out2.bind (boundK_out _ _) fun u=>Out2.and (Out2.pure _ _)) E h
  case nilsl=>
   cases e:Nat.beq i.cls 3<;>simp only[e]at h⊢
   exact Out2.bind (boundK_out _ _) (fun l=>Out2.bind (boundK_out _ _) fun u=>Out2.and (Out2.pure _ _)) E h
  case sl k xs=>
   cases e:Nat.beq i.cls 3<;>cases e':Nat.beq i.esz k.size<;>simp only[e,e']at h⊢
   exact Out2.bind (boundK_out _ _) (fun l=>Out2.bind (boundK_out _ _) fun u=>Out2.and (Out2.pure _ _)) E h
theorem lenMp_out (bs:List Blk):Out2 (lenMp bs):=by
 intro E h
 unfold lenMp at h⊢
 split at h
 ·exact⟨_,_,h,fun _ h=>h⟩
 ·exact h.elim
theorem lenOp_out (i:TI) (x:AV) (bs:List Blk):Out2 (lenOp i x bs):=by
 cases x<;>try exact Out2.no
 case str s=>unfold lenOp;cases Nat.beq i.cls 5<;>first|exact Out2.pure _ _ |exact Out2.no
 case nilsl=>unfold lenOp;cases Nat.beq i.cls 3<;>first|exact Out2.pure _ _ |exact Out2.no
 case sl k xs=>unfold lenOp;cases Nat.beq i.cls 3<;>first|exact Out2.pure _ _ |exact Out2.no
 case ow=>unfold lenOp;cases Nat.beq i.cls 3<;>first|exact Out2.pure _ _ |exact Out2.no
 case own id=>
  intro E h
  unfold lenOp at h⊢
  simp only at h⊢
  split at h
  ·exact⟨_,_,h,fun _ h=>h⟩
  ·exact h.elim
theorem appOp_out (T:Tab) (i:TI) (dst:Nat) (s x:AV) (bs:List Blk):Out2 (appOp T i dst s x bs):=by
 intro E h
 unfold appOp at h
 split at h
 ·refine Out2.bind (tgK_out T _) (fun j=>?_) E h
  intro E h
  split at h
  ·rename_i esz _ _ _ _ _ _ _ sz _ _ _ _ k _ _ bytes _
   split at h
   ·split at h
    ·exact Out2.bind (slOf_out _ x) (fun ys=>Out2.and (Out2.pure _ _)) E h
    ·split at h
     ·rename_i h1 h2 h3
      simp only[h1,h2,h3]
      exact Out2.bind (slOf_out _ x) (fun ys=>Out2.and (Out2.pure _ _)) E h
     ·exact h.elim
    ·exact h.elim
   ·exact h.elim
  ·exact h.elim
 ·exact h.elim
set_option maxHeartbeats 1000000 in
theorem eff_out (T:Tab) (C:Con) (op:Op) (dst:Nat) (ρ:Operand→AV) (ids:List Nat) (bs:List Blk):Out2 (effO T C op dst ρ ids bs):=by
 intro E h
 cases op with
 |move x=>exact⟨_,_,h,fun _ h=>h⟩
 |assign x=>exact⟨_,_,h,fun _ h=>h⟩
 |pick c a b=>
  simp only[effO]at h⊢
  cases e:ρ c<;>simp only[e]at h⊢
  rename_i t
  cases t
  ·exact⟨_,_,h,fun _ h=>h⟩
  ·exact⟨_,_,h,fun _ h=>h⟩
 |alloc t=>
  simp only[effO]at h⊢
  split at h
  ·exact Out2.bind (tgK_out T t) (fun i=>Out2.pure _ _) E h
  ·exact h.elim
 |box t x=>
  simp only[effO]at h⊢
  split at h
  ·rename_i e;(try simp only[e]);exact⟨_,_,h,fun _ h=>h⟩
  ·exact h.elim
 |build t ps=>
  simp only[effO]at h⊢
  refine Out2.bind (tgK_out T t) (fun i=>?_) E h
  intro E h
  split at h
  ·exact Out2.bind (fillS_out _ _ _) (fun l=>Out2.pure _ _) E h
  ·exact Out2.bind (fillA_out _ _ _) (fun l=>Out2.pure _ _) E h
  ·exact h.elim
 |buildSlice t n ps=>
  simp only[effO]at h⊢
  refine Out2.bind (tgK_out T t) (fun i=>?_) E h
  intro E h
  split at h
  ·refine Out2.bind (tgK_out T _) (fun j=>?_) E h
   intro E h
   split at h
   ·split at h
    ·split at h
     ·split at h
      ·rename_i e;(try simp only[*]);exact⟨_,_,h,fun _ h=>h⟩
      ·exact h.elim
     ·split at h
      ·try simp only[*]
       exact Out2.bind (reifyL_out _ _) (fun l=>Out2.pure _ _) E h
      ·exact h.elim
    ·exact h.elim
   ·exact h.elim
  ·exact h.elim
 |makeSlice t l c=>
  simp only[effO]at h⊢
  refine Out2.bind (tgK_out T t) (fun i=>?_) E h
  intro E h
  split at h
  ·refine Out2.bind (tgK_out T _) (fun j=>?_) E h
   intro E h
   split at h
   ·split at h
    ·rename_i e1 e2 e3 e4 e5 _
     simp only[e1,e2,e3,e4,e5]
     exact Out2.bind (reify_out _ _) (fun x=>Out2.and (Out2.pure _ _)) E h
    ·exact h.elim
   ·exact h.elim
  ·exact h.elim
 |load t p=>
  simp only[effO]at h⊢
  cases e:ρ p<;>simp only[e]at h⊢
  case ptr i off=>
   split at h
   ·exact Out2.bind (tgK_out T t) (fun i=>Out2.bind (ldK_out i _ off) fun v=>Out2.pure _ _) E h
   ·exact h.elim
  case rp k x off=>exact Out2.bind (tgK_out T t) (fun i=>Out2.bind (ldK_out i _ off) fun v=>Out2.pure _ _) E h
  case opt i sz j off=>
   split at h
   ·split at h
    ·rename_i e;try simp only[e]
     exact Out2.idx _ _ (fun h=>h) (fun x=>Out2.bind (tgK_out T t) (fun i=>Out2.bind (ldK_out i _ off) fun v=>Out2.pure _ _)) E h
    ·exact h.elim
   ·exact h.elim
 |store t p v=>
  simp only[effO]at h⊢
  refine Out2.bind (tgK_out T t) (fun i=>?_) E h
  intro E h
  cases e1:lenB (ρ v).cs i.sz<;>cases e2:oneL (ρ v).cs <;>simp only[e1,e2]at h⊢
  split at h
  ·rename_i e;(try simp only[e]at h⊢)
   split at h
   ·exact Out2.bind (lay_out _ _ _) (fun l=>Out2.pure _ _) E h
   ·exact h.elim
  ·rename_i e;(try simp only[e]at h⊢)
   split at h
   ·split at h
    ·rename_i e3 e4;try simp only[e3,e4]
     exact Out2.bind (reify_out _ _) (fun l=>Out2.and (Out2.pure _ _)) E h
    ·exact h.elim
   ·exact h.elim
  ·exact h.elim
 |nilCheck x=>
  simp only[effO]at h⊢
  cases e:ρ x<;>simp only[e]at h⊢ <;>exact⟨_,_,h,fun _ h=>h⟩
 |binOp o t x y ty=>
  simp only[effO]at h⊢
  exact Out2.bind (tgK_out T t) (fun i=>Out2.bind (binA_out _ _ _ _) fun v=>Out2.pure _ _) E h
 |unOp o t x=>
  simp only[effO]at h⊢
  cases o<;>cases e:ρ x<;>simp only[e]at h⊢ <;>exact⟨_,_,h,fun _ h=>h⟩
 |convert s d x=>
  simp only[effO]at h⊢
  refine Out2.bind (tgK_out T s) (fun j=>Out2.bind (tgK_out T d) (fun i=>?_)) E h
  intro E h
  cases e:ρ x<;>simp only[e]at h⊢
  ·split at h
   ·exact⟨_,_,h,fun _ h=>h⟩
   ·exact h.elim
  ·split at h
   ·rename_i e1 e2;(try simp only[e1,e2]);exact⟨_,_,h,fun _ h=>h⟩
   ·exact h.elim
 |makeFunc f x y=>
  simp only[effO]at h⊢
  split at h
  ·rename_i e;(try simp only[e]);exact⟨_,_,h,fun _ h=>h⟩
  ·exact h.elim
 |fieldAddr t x f=>
  simp only[effO]at h⊢
  refine Out2.bind (tgK_out T t) (fun i=>?_) E h
  intro E h
  split at h
  ·refine fldOf_out (fun o s a=>?_) _ _ E h
   intro E h
   cases e:ρ x<;>simp only[e]at h⊢ <;>exact⟨_,_,h,fun _ h=>h⟩
  ·exact h.elim
 |field t x f=>
  simp only[effO]at h⊢
  refine Out2.bind (tgK_out T t) (fun i=>?_) E h
  intro E h
  split at h
  ·rename_i e;try simp only[e]
   exact fldOf_out (fun o s a=>Out2.bind (partK_out _ _ _ _) fun v=>Out2.pure _ _) _ _ E h
  ·exact h.elim
 |indexAddr t x i=>
  simp only[effO]at h⊢
  refine Out2.bind (tgK_out T t) (fun ti=>?_) E h
  intro E h
  cases e:ρ i<;>simp only[e]at h⊢
  rename_i kk n
  split at h
  ·cases e2:ρ x<;>simp only[e2]at h⊢
   ·split at h
    ·rename_i e3;try simp only[e3]
     exact Out2.and (Out2.pure _ _) E h
    ·exact h.elim
   ·split at h
    ·rename_i e3;try simp only[e3]
     exact Out2.idx _ _ (fun h=>by omega) (fun x=>Out2.pure _ _) E h
    ·exact h.elim
   ·split at h
    ·split at h
     ·rename_i e3;try simp only[e3]
      exact Out2.and (Out2.pure _ _) E h
     ·exact h.elim
    ·exact h.elim
  ·cases e2:ρ x<;>simp only[e2]at h⊢ <;>exact Out2.and (Out2.pure _ _) E h
  ·exact h.elim
 |index t x i=>
  simp only[effO]at h⊢
  refine Out2.bind (tgK_out T t) (fun ti=>?_) E h
  intro E h
  split at h
  ·rename_i e1 e2 e3;try simp only[e1,e2,e3]
   exact Out2.idx _ _ (fun h=>by omega) (fun x=>Out2.pure _ _) E h
  ·rename_i e1 e2 e3;try simp only[e1,e2,e3]
   split at h
   ·rename_i e4;try simp only[e4]
    refine Out2.bind (tgK_out T _) (fun tj=>?_) E h
    intro E h
    exact Out2.and (Out2.bind (partK_out _ _ _ _) fun v=>Out2.pure _ _) E h
   ·exact h.elim
  ·exact h.elim
 |extract x n=>
  simp only[effO]at h⊢
  cases e:ρ x<;>simp only[e]at h⊢
  refine Out2.bind (cut_out _ _ _) (fun r=>?_) E h
  intro E h
  split at h
  ·exact⟨_,_,h,fun _ h=>h⟩
  ·exact h.elim
 |call c=>
  cases hc:c.callee with
  |value f=>
   simp only[effO,hc]at h⊢
   cases e:ρ f<;>simp only[e]at h⊢
   case fn g caps=>
    cases e2:nbOf T g<;>simp only[e2]at h⊢
    ·exact Out2.bind (frcL_out _) (fun A=>app_out _ A ids bs) E h
    ·exact Out2.bind (frcL_out _) (fun A=>appN_out _ _ _ A ids bs) E h
   case cb l=>exact Out2.bind (frcL_out _) (fun A=>app_out _ A ids bs) E h
  |invoke r m=>simp[effO,hc]at h
  |builtin b=>
   cases b with
   |len=>
    simp only[effO,hc]at h⊢
    split at h
    ·rename_i e1 e2;try simp only[e1,e2]
     split at h
     ·rename_i e3;try simp only[e3]
      exact mapTy_out2 T _ (fun _ _ _=>lenMp_out _) E h
     ·rename_i e3;try simp only[e3]
      exact Out2.bind (tgK_out T _) (fun i=>lenOp_out _ _ _) E h
    ·exact h.elim
   |append=>
    simp only[effO,hc]at h⊢
    split at h
    ·rename_i e1 e2;try simp only[e1,e2]
     split at h
     ·rename_i e3;try simp only[e3]
      exact Out2.bind (tgK_out T _) (fun i=>appOp_out _ _ _ _ _ _) E h
     ·exact h.elim
    ·exact h.elim
   |max=>
    simp only[effO,hc]at h⊢
    split at h
    ·rename_i e1;(try simp only[e1]);exact⟨_,_,h,fun _ h=>h⟩
    ·rename_i e1;(try simp only[e1]);exact⟨_,_,h,fun _ h=>h⟩
    ·exact h.elim
   |min=>
    simp only[effO,hc]at h⊢
    split at h
    ·rename_i e1;(try simp only[e1]);exact⟨_,_,h,fun _ h=>h⟩
    ·exact h.elim
   | _=>simp[effO,hc]at h
 |makeMap t r=>
  simp only[effO]at h⊢
  refine mapTy_out2 T t (fun kk vk v=>?_) E h
  intro E h
  split at h
  ·rename_i e1;simp only[e1];exact⟨_,_,h,fun _ h=>h⟩
  ·exact h.elim
 |lookup t x i ok=>exact lkOp_out _ _ _ _ _ _ E h
 |mapUpdate t m k v=>exact muOp_out _ _ _ _ _ _ E h
 |insert t m k v=>exact muOp_out _ _ _ _ _ _ E h
 |slice t x lo hi mx=>
  simp only[effO]at h⊢
  refine Out2.bind (tgK_out T t) (fun i=>?_) E h
  intro E h
  cases hwn:isWn T hi with
  |true=>
   simp only[hwn]at h⊢
   split at h
   ·rename_i e1 e2 e3 e4;try simp only[e1,e2,e3,e4]
    split at h
    ·rename_i e5 e6;try simp only[e5,e6]
     exact Out2.and (Out2.pure _ _) E h
    ·exact h.elim
   ·exact h.elim
  |false=>simp only[hwn]at h⊢;exact slOp_out _ _ _ _ _ E h
 | _=>exact False.elim h
end Go.Sx
