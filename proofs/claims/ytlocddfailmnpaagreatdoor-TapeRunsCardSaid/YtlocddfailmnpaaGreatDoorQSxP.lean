/-
  What an operation yields can be drawn out of the execution: effO is a value and blocks, handed on.
-/
import Derived.Test.YtlocddfailmnpaaGreatDoorQSxO
set_option linter.unusedVariables false
set_option linter.unusedSimpArgs false
namespace Go.Sx
open Go
def Out {α:Type} (F:(α→Prop)→Prop):Prop:= ∀E:α→Prop,F E→ ∃x,E x∧ ∀E':α→Prop,E' x→F E'
def zz (F:(AV→List Blk→Prop)→Prop):Prop:= ∀E:AV→List Blk→Prop,F E→ ∃r bs,E r bs∧ ∀E':AV→List Blk→Prop,E' r bs→F E'
theorem Out.pure {α:Type} (x:α):Out fun E:α→Prop=>E x:=fun _ h=>⟨x,h,fun _ h=>h⟩
theorem Out.no {α:Type}:Out fun _:α→Prop=>False:=fun _ h=>h.elim
theorem Out.bind {α β:Type} {F:(α→Prop)→Prop} {G:α→(β→Prop)→Prop} (hF:Out F) (hG: ∀x,Out (G x)):Out fun E=>F fun x=>G x E:=fun E h=>by
 obtain⟨x,h1,h2⟩:=hF _ h
 obtain⟨y,h3,h4⟩:=hG x E h1
 exact⟨y,h3,fun E' he=>h2 _ (h4 E' he)⟩
theorem Out.and {α:Type} {p:Prop} {F:(α→Prop)→Prop} (hF:Out F):Out fun E=>p∧F E:=fun E h=>by
 obtain⟨x,h1,h2⟩:=hF E h.2
 exact⟨x,h1,fun E' he=>⟨h.1,h2 E' he⟩⟩
theorem zz.pure (r:AV) (bs:List Blk):zz fun E=>E r bs:=fun _ h=>⟨r,bs,h,fun _ h=>h⟩
theorem zz.no:zz fun _=>False:=fun _ h=>h.elim
theorem zz.bind {α:Type} {F:(α→Prop)→Prop} {G:α→(AV→List Blk→Prop)→Prop} (hF:Out F) (hG: ∀x,zz (G x)):zz fun E=>F fun x=>G x E:=fun E h=>by
 obtain⟨x,h1,h2⟩:=hF _ h
 obtain⟨y,bs,h3,h4⟩:=hG x E h1
 exact⟨y,bs,h3,fun E' he=>h2 _ (h4 E' he)⟩
theorem zz.and {p:Prop} {F:(AV→List Blk→Prop)→Prop} (hF:zz F):zz fun E=>p∧F E:=fun E h=>by
 obtain⟨x,bs,h1,h2⟩:=hF E h.2
 exact⟨x,bs,h1,fun E' he=>⟨h.1,h2 E' he⟩⟩
theorem zz.idx {α:Type} (xs:List α) (j:Nat) {p:Prop} (hp:p→j<xs.length) {G:α→(AV→List Blk→Prop)→Prop} (hG: ∀x,zz (G x)):zz fun E=>p∧ ∀x,xs[j]? =some x→G x E:=fun E h=>by
 have hj:=hp h.1
 have hx:xs[j]? =some xs[j]:=List.getElem?_eq_getElem hj
 obtain⟨r,bs,h1,h2⟩:=hG _ E (h.2 _ hx)
 exact⟨r,bs,h1,fun E' he=>⟨h.1,fun y hy=>by rw[hx]at hy;cases hy;exact h2 E' he⟩⟩
theorem zq1: ∀(T:List (Nat×TI)) (t:Nat),Out (tgL T t)
 | [],_=>Out.no
 |(a,i)::r,t=>by
  intro E h
  simp only[tgL]at h⊢
  cases e:Nat.beq a t with
  |true=>simp only[e]at h⊢;exact⟨i,h,fun _ h=>h⟩
  |false=>simp only[e]at h⊢;exact zq1 r t E h
theorem vf (T:Tab) (t:Nat):Out (tgK T t):=zq1 T.ty t
theorem zi1 (l:List AV):Out (zgy l):=fun E h=>⟨l,(ql l E).1 h,fun E' he=>(ql l E').2 he⟩
theorem zcf: ∀(l:List AV) (o n:Nat),Out (cut l o n)
 |l,0,0=>by intro E h;cases l<;>(simp only[cut]at h⊢;exact⟨[],h,fun _ h=>h⟩)
 |a::l,0,n+1=>by
  have:=Out.bind (G:=fun r (k:List AV→Prop)=>k (a::r)) (zcf l 0 n) fun r=>Out.pure _
  intro E h;simp only[cut]at h⊢;exact this E h
 | [],0,_+1=>by intro E h;simp[cut]at h
 | _::l,off+1,n=>by intro E h;simp only[cut]at h⊢;exact zcf l off n E h
 | [],_+1,_=>by intro E h;simp[cut]at h
theorem zfr: ∀(l:List AV) (o:Nat) (m:List AV),Out (lay l o m)
 |l,0,[]=>by intro E h;cases l<;>(simp only[lay]at h⊢;exact⟨_,h,fun _ h=>h⟩)
 | _::l,0,b::m=>by
   have:=Out.bind (G:=fun r (k:List AV→Prop)=>k (b::r)) (zfr l 0 m) fun r=>Out.pure _
   intro E h;simp only[lay]at h⊢;exact this E h
 | [],0,_::_=>by intro E h;simp[lay]at h
 |a::l,off+1,m=>by
  have:=Out.bind (G:=fun r (k:List AV→Prop)=>k (a::r)) (zfr l off m) fun r=>Out.pure _
  intro E h;simp only[lay]at h⊢;exact this E h
 | [],_+1,m=>by intro E h;simp[lay]at h
theorem zsh (l:List AV):Out fun E:AV→Prop=>match l with
 | [a]=>E a
 | _=>False:=by
 intro E h
 split at h
 ·exact⟨_,h,fun _ h=>h⟩
 ·exact h.elim
theorem ziu (i:TI) (l:List AV) (off:Nat):Out (ldK i l off):=by
 intro E h
 unfold ldK at h⊢
 cases e:i.agg with
 |true=>simp only[e]at h⊢;exact Out.bind (G:=fun r (E:AV→Prop)=>E (.agg r)) (zcf l off i.sz) (fun r=>Out.pure _) E h
 |false=>simp only[e]at h⊢;exact Out.bind (zcf l off 1) (fun r=>zsh r) E h
theorem zju (l:List AV) (o s:Nat) (a:Bool):Out (zpw l o s a):=by
 intro E h
 unfold zpw at h⊢
 cases a with
 |true=>exact Out.bind (G:=fun r (E:AV→Prop)=>E (.agg r)) (zcf l o s) (fun r=>Out.pure _) E h
 |false=>exact Out.bind (zcf l o 1) (fun r=>zsh r) E h
theorem zf7 {G:Nat→Nat→Bool→(AV→List Blk→Prop)→Prop} (hG: ∀o s a,zz (G o s a)): ∀(fs:List (Nat×Nat×Bool)) (f:Nat),zz fun E=>zbv fs f fun o s a=>G o s a E
 |(o,s,a)::_,0=>by intro E h;simp only[zbv]at h⊢;exact hG o s a E h
 |(_,_,_)::r,f+1=>by intro E h;simp only[zbv]at h⊢;exact zf7 hG r f E h
 | [],_=>by intro E h;simp[zbv]at h
theorem zht {α:Type} {G:Nat→Nat→Bool→(α→Prop)→Prop} (hG: ∀o s a,Out (G o s a)): ∀(fs:List (Nat×Nat×Bool)) (f:Nat),Out fun E=>zbv fs f fun o s a=>G o s a E
 |(o,s,a)::_,0=>by intro E h;simp only[zbv]at h⊢;exact hG o s a E h
 |(_,_,_)::r,f+1=>by intro E h;simp only[zbv]at h⊢;exact zht hG r f E h
 | [],_=>by intro E h;simp[zbv]at h
theorem zkm (fs:List (Nat×Nat×Bool)): ∀(ps:List (Nat×AV)) (z:List AV),Out (zkn fs ps z)
 | [],z=>by intro E h;simp only[zkn]at h⊢;exact⟨z,h,fun _ h=>h⟩
 |(f,v)::r,z=>by
  intro E h
  simp only[zkn]at h⊢
  refine zht (fun o s _=>?_) fs f E h
  intro E h
  cases h1:zs0 v.cs s<;>cases h2:zdt v.cs<;>simp only[h1,h2]at h⊢
  exact Out.bind (zfr z o v.cs) (fun z=>zkm fs r z) E h
theorem zko (s:Nat): ∀(ps:List (Nat×AV)) (z:List AV),Out (zkp s ps z)
 | [],z=>by intro E h;simp only[zkp]at h⊢;exact⟨z,h,fun _ h=>h⟩
 |(f,v)::r,z=>by
  intro E h
  simp only[zkp]at h⊢
  cases h1:zs0 v.cs s<;>cases h2:zdt v.cs<;>simp only[h1,h2]at h⊢
  exact Out.bind (zfr z (f*s) v.cs) (fun z=>zko s r z) E h
theorem wq (a:AV):Out (zhs a):=by
 intro E h;unfold zhs at h;split at h
 ·exact⟨_,h,fun _ h=>h⟩
 ·exact h.elim
theorem zde (a:AV):Out (zkj a):=by
 intro E h;unfold zkj at h;split at h
 ·exact⟨_,h,fun _ h=>h⟩
 ·exact h.elim
theorem zv6 (a:AV):Out (qbx a):=by
 intro E h;unfold qbx at h;split at h
 ·exact⟨_,h,fun _ h=>h⟩
 ·exact h.elim
theorem ziz (a:AV):Out (qag a):=by
 intro E h;unfold qag at h;split at h
 ·exact⟨_,h,fun _ h=>h⟩
 ·exact h.elim
theorem zv9 (a:AV):Out (qby a):=by
 intro E h;unfold qby at h;split at h
 ·exact⟨_,h,fun _ h=>h⟩
 ·exact⟨_,h,fun _ h=>h⟩
 ·exact h.elim
theorem ztd (a:AV):Out (gLs a):=by
 intro E h;unfold gLs at h;split at h
 ·exact⟨_,h,fun _ h=>h⟩
 ·exact⟨_,h,fun _ h=>h⟩
 ·exact h.elim
theorem qah (a:AV):Out (gIs a):=by
 intro E h;unfold gIs at h;split at h
 ·exact⟨_,h,fun _ h=>h⟩
 ·exact⟨_,h,fun _ h=>h⟩
 ·exact h.elim
theorem qaj (l:List AV):Out fun E:Dy×List AV→Prop=>gDy l fun e r=>E (e,r):=by
 intro E h
 unfold gDy at h
 split at h
 ·exact Out.bind (zde _) (fun _=>Out.bind (ztd _) fun _=>Out.bind (wq _) fun _=>Out.pure (_,_)) E h
 ·exact h.elim
theorem zdd {α:Type} {l:List AV} {G:Dy→List AV→(α→Prop)→Prop} (hG: ∀e r,Out (G e r)):Out fun E=>gDy l fun e r=>G e r E:=
 Out.bind (F:=fun E:Dy×List AV→Prop=>gDy l fun e r=>E (e,r)) (G:=fun x=>G x.1 x.2) (qaj l) fun x=>hG _ _
theorem qai (l:List AV):Out fun E:Ex×List AV→Prop=>gEx l fun e r=>E (e,r):=by
 intro E h
 unfold gEx at h
 split at h
 ·exact Out.bind (wq _) (fun _=>Out.bind (wq _) fun _=>Out.bind (wq _) fun _=>Out.bind (ziz _) fun _=>Out.bind (wq _) fun _=>
   Out.bind (zv9 _) fun _=>Out.pure (_,_)) E h
 ·exact h.elim
theorem ze3 {α:Type} {l:List AV} {G:Ex→List AV→(α→Prop)→Prop} (hG: ∀e r,Out (G e r)):Out fun E=>gEx l fun e r=>G e r E:=
 Out.bind (F:=fun E:Ex×List AV→Prop=>gEx l fun e r=>E (e,r)) (G:=fun x=>G x.1 x.2) (qai l) fun x=>hG _ _
theorem yd: ∀(k:Elt) (l:List AV),Out (qu k l)
 | .ex,l=>by
   intro E h;simp only[qu]at h⊢
   refine ze3 (fun e r=>?_) E h
   intro E h
   cases r with
   |nil=>exact⟨_,h,fun _ h=>h⟩
   |cons _ _=>exact h.elim
 | .ls,[s]=>fun E h=>ztd s E h
 | .ls,[]=>fun _ h=>False.elim h
 | .ls,_::_::_=>fun _ h=>False.elim h
 | .dy,l=>by
   intro E h;simp only[qu]at h⊢
   refine zdd (fun e r=>?_) E h
   intro E h
   cases r with
   |nil=>exact⟨_,h,fun _ h=>h⟩
   |cons _ _=>exact h.elim
 | .iv,l=>by
   intro E h;simp only[qu]at h⊢
   refine zdd (fun e r=>zdd (fun e' r'=>?_)) E h
   intro E h
   split at h
   ·exact Out.bind (zde _) (fun _=>Out.pure _) E h
   ·exact h.elim
 | .vs,[s]=>fun E h=>qah s E h
 | .vs,[]=>fun _ h=>False.elim h
 | .vs,_::_::_=>fun _ h=>False.elim h
 | .ki,[]=>fun _ h=>False.elim h
 | .ki,s::l=>by
   intro E h;simp only[qu]at h⊢
   refine Out.bind (wq s) (fun s=>zdd (fun e r=>zdd (fun e' r'=>?_))) E h
   intro E h
   split at h
   ·exact Out.bind (zde _) (fun _=>Out.pure _) E h
   ·exact h.elim
 | .eqn,s::l=>by
   intro E h;simp only[qu]at h⊢
   refine Out.bind (ziz s) (fun s=>ze3 (fun e r=>?_)) E h
   intro E h
   cases r with
   |nil=>exact⟨_,h,fun _ h=>h⟩
   |cons _ _=>exact h.elim
 | .ex2,l=>by
   intro E h;simp only[qu]at h⊢
   refine ze3 (fun e r=>ze3 (fun e' r'=>?_)) E h
   intro E h
   cases r' with
   |nil=>exact⟨_,h,fun _ h=>h⟩
   |cons _ _=>exact h.elim
 | .eqn,[]=>fun _ h=>False.elim h
 | .str,[s]=>fun E h=>ziz s E h
 | .str,[]=>fun _ h=>False.elim h
 | .str,_::_::_=>fun _ h=>False.elim h
 | .int,[s]=>fun E h=>wq s E h
 | .int,[]=>fun _ h=>False.elim h
 | .int,_::_::_=>fun _ h=>False.elim h
 | .bool,[s]=>fun E h=>zde s E h
 | .bool,[]=>fun _ h=>False.elim h
 | .bool,_::_::_=>fun _ h=>False.elim h
 | .u32,[s]=>fun E h=>zv6 s E h
 | .u32,[]=>fun _ h=>False.elim h
 | .u32,_::_::_=>fun _ h=>False.elim h
 | .rat,[a,b]=>fun E h=>Out.bind (wq a) (fun _=>Out.bind (wq b) fun _=>Out.pure _) E h
 | .rat,[]=>fun _ h=>False.elim h
 | .rat,[_]=>fun _ h=>False.elim h
 | .rat,_::_::_::_=>fun _ h=>False.elim h
 | .op,[a,b,c,d,e,f]=>fun E h=>Out.bind (wq a) (fun _=>Out.bind (wq b) fun _=>Out.bind (wq c) fun _=>Out.bind (wq d) fun _=>Out.bind (wq e) fun _=>Out.bind (wq f) fun _=>Out.pure _) E h
 | .op,[]=>fun _ h=>False.elim h
 | .op,[_]=>fun _ h=>False.elim h
 | .op,[_,_]=>fun _ h=>False.elim h
 | .op,[_,_,_]=>fun _ h=>False.elim h
 | .op,[_,_,_,_]=>fun _ h=>False.elim h
 | .op,[_,_,_,_,_]=>fun _ h=>False.elim h
 | .op,_::_::_::_::_::_::_::_=>fun _ h=>False.elim h
theorem zg7 (k:Elt): ∀l:List AV,Out (zd8 k l)
 | []=>by intro E h;simp only[zd8]at h⊢;exact⟨_,h,fun _ h=>h⟩
 |a::l=>by
  intro E h;simp only[zd8]at h⊢
  exact Out.bind (yd k a.cs) (fun x=>Out.bind (G:=fun xs (K:List k.T→Prop)=>K (x::xs)) (zg7 k l) fun xs=>Out.pure _) E h
theorem znd (k:Elt) (a:AV):Out (zy1 k a):=by
 intro E h
 unfold zy1 at h
 split at h<;>first|exact h.elim|exact⟨_,h,fun _ h=>h⟩
theorem ztk: ∀(z l m:List AV),Out (eqZ z l m):=by
 intro z
 induction z with
 |nil=>
  intro l m
  cases l with
  |nil=>
   cases m with
   |nil=>exact fun E h=>⟨true,h,fun _ h=>h⟩
   |cons b m=>exact fun E h=>False.elim h
  |cons a l=>exact fun E h=>False.elim h
 |cons x z ih=>
  intro l m
  cases x with
  |int k n=>
   cases k<;>first|exact fun E h=>False.elim h|skip
   cases l with
   |nil=>exact fun E h=>False.elim h
   |cons a l=>
    cases a with
    |int k a=>
     cases k<;>first|exact fun E h=>False.elim h|skip
     cases m with
     |nil=>exact fun E h=>False.elim h
     |cons b m=>
      cases b with
      |int k b=>
       cases k<;>first|exact fun E h=>False.elim h|skip
       exact Out.bind (G:=fun r (k:Bool→Prop)=>k (a==b&&r)) (ih l m) (fun r=>Out.pure _)
      | _=>exact fun E h=>False.elim h
    | _=>exact fun E h=>False.elim h
  |str s=>
   cases l with
   |nil=>exact fun E h=>False.elim h
   |cons a l=>
    cases a with
    |str a=>
     cases m with
     |nil=>exact fun E h=>False.elim h
     |cons b m=>
      cases b with
      |str b=>exact Out.bind (G:=fun r (k:Bool→Prop)=>k (a==b&&r)) (ih l m) (fun r=>Out.pure _)
      | _=>exact fun E h=>False.elim h
    | _=>exact fun E h=>False.elim h
  |bool s=>
   cases l with
   |nil=>exact fun E h=>False.elim h
   |cons a l=>
    cases a with
    |bool a=>
     cases m with
     |nil=>exact fun E h=>False.elim h
     |cons b m=>
      cases b with
      |bool b=>exact Out.bind (G:=fun r (k:Bool→Prop)=>k (a==b&&r)) (ih l m) (fun r=>Out.pure _)
      | _=>exact fun E h=>False.elim h
    | _=>exact fun E h=>False.elim h
  | _=>exact fun E h=>False.elim h
theorem ziw (o:BinOp) (k:IntKind) (a b:Int):Out (qad o k a b):=by
 cases o<;>first|exact Out.pure _ |exact Out.and (Out.pure _)
theorem zu3 (o:BinOp) (a b:zf):Out (strB o a b):=by
 cases o<;>first|exact Out.pure _ |exact Out.and (Out.pure _)|exact Out.no
theorem zwp (i:TI) (o:BinOp) (x y:AV):Out (qa8 i o x y):=by
 cases x<;>cases y<;>try exact Out.no
 case int.int k a k' b=>
  intro E h
  cases o<;>simp only[qa8]at h⊢
  case shl=>exact ziw _ _ _ _ E h
  case shr=>exact ziw _ _ _ _ E h
  all_goals (cases hk:zma k k'<;>simp only[hk]at h⊢;exact ziw _ _ _ _ E h)
 case str.str a b=>exact zu3 _ _ _
 case bool.bool a b=>
  unfold qa8
  cases Nat.beq i.cls 6<;>cases o<;>first|exact Out.pure _ |exact Out.no
 case sl.nilsl k xs=>
  unfold qa8
  cases Nat.beq i.cls 3<;>cases o<;>first|exact Out.pure _ |exact Out.no
 case agg.agg l m=>
  intro E h
  simp only[qa8]at h⊢
  cases h1:i.eq<;>simp only[h1]at h⊢
  cases o<;>simp only at h⊢
  ·exact Out.bind (G:=fun r (E:AV→Prop)=>E (.bool r)) (ztk i.z l m) (fun r=>Out.pure _) E h
  ·exact Out.bind (G:=fun r (E:AV→Prop)=>E (.bool !r)) (ztk i.z l m) (fun r=>Out.pure _) E h
theorem zt8 (c:CT) (A:List AV) (ids:List Nat) (bs:List Blk):zz (app c A ids bs):=by
 intro E h
 obtain⟨bs',r,hc,hk⟩:=h
 unfold app
 split at hk
 ·rename_i h1 h2 h3 h4 h5
  exact⟨r,bs',hk,fun E' he=>⟨bs',r,hc,by rw[h1,h2,h3,h4,h5];exact he⟩⟩
 ·exact hk.elim
theorem zkv: ∀(n:Nat) (bs:List Blk),Out (zkx n bs)
 |0,bs=>by intro E h;simp only[zkx]at h⊢;exact⟨bs,h,fun _ h=>h⟩
 |n+1,[]=>by intro E h;simp[zkx]at h
 |n+1,b::bs=>by
  intro E h
  cases b<;>simp only[zkx]at h⊢
  exact zkv n bs E h
theorem zwt (c:CT) (n dst:Nat) (A:List AV) (ids:List Nat) (bs:List Blk):zz (appN c n dst A ids bs):=by
 intro E h
 unfold appN at h⊢
 refine zz.bind (zkv n bs) (fun bs=>?_) E h
 intro E h
 obtain⟨bs',nbs,r,hc,hk⟩:=h
 split at hk
 ·rename_i h1 h2 h3 h4 h5 h6 h7 h8 h9 h10
  exact⟨_,_,hk,fun E' he=>⟨bs',nbs,r,hc,by rw[h1,h2,h3,h4,h5,h6,h7,h8,h9,h10];exact he⟩⟩
 ·exact hk.elim
theorem zbf (T:Tab) (t:Nat) {G:Elt→Elt→TI→(AV→List Blk→Prop)→Prop} (hG: ∀a b i,zz (G a b i)):zz fun E=>zgu T t fun a b i=>G a b i E:=by
 intro E h
 unfold zgu at h⊢
 refine zz.bind (vf T t) (fun i=>?_) E h
 intro E h
 split at h
 ·refine zz.bind (vf T _) (fun j=>?_) E h
  intro E h
  split at h
  ·refine zz.bind (vf T _) (fun v=>?_) E h
   intro E h
   split at h
   ·split at h
    ·rename_i e1 _ e2
     simp only[e1,e2]
     exact hG _ _ _ E h
    ·exact h.elim
   ·exact h.elim
  ·exact h.elim
 ·exact h.elim
theorem zvw (T:Tab) (t:Nat) (x i:AV) (ok:Bool) (bs:List Blk):zz (lkOp T t x i ok bs):=by
 intro E h
 unfold lkOp at h⊢
 refine zbf T t (fun kk vk v=>?_) E h
 intro E h
 split at h
 ·split at h
  ·rename_i h1 h2 h3
   simp only[h1,h2,h3]
   refine zz.bind (yd _ _) (fun key=>zz.bind (yd _ _) (fun z=>zz.bind (ziu _ _ _) fun u=>?_)) E h
   intro E h
   cases ok
   ·exact⟨_,_,h,fun _ h=>h⟩
   ·exact⟨_,_,h,fun _ h=>h⟩
  ·exact h.elim
 ·exact h.elim
theorem znw (T:Tab) (t:Nat) (m x y:AV) (bs:List Blk):zz (qdn T t m x y bs):=by
 intro E h
 unfold qdn at h⊢
 refine zbf T t (fun kk vk v=>?_) E h
 intro E h
 split at h
 ·split at h
  ·rename_i h1 h2 h3 h4
   simp only[h1,h2,h3,h4]
   exact zz.bind (yd _ _) (fun key=>zz.bind (yd _ _) (fun z=>zz.pure _ _)) E h
  ·exact h.elim
 ·exact h.elim
theorem kz (x:Option AV) (d:Int):Out (za5 x d):=by
 intro E h
 unfold za5 at h⊢
 split at h
 ·exact⟨_,h,fun _ h=>h⟩
 ·exact⟨_,h,fun _ h=>h⟩
 ·exact h.elim
theorem zu7 (i:TI) (x:AV) (lo hi mx:Option AV):zz (qbp i x lo hi mx):=by
 intro E h
 unfold qbp at h⊢
 cases mx with
 |some y=>
  simp only at h⊢
  split at h
  ·split at h
   ·rename_i e1 e2
    try simp only[e1,e2]
    exact zz.bind (kz _ _) (fun l=>zz.and (zz.pure _ _)) E h
   ·exact h.elim
  ·exact h.elim
 |none=>
  simp only at h⊢
  cases x<;>simp only at h⊢
  case str s=>
   cases e:Nat.beq i.cls 5<;>simp only[e]at h⊢
   exact zz.bind (kz _ _) (fun l=>zz.bind (kz _ _) fun u=>zz.and (zz.pure _ _)) E h
  case nilsl=>
   cases e:Nat.beq i.cls 3<;>simp only[e]at h⊢
   exact zz.bind (kz _ _) (fun l=>zz.bind (kz _ _) fun u=>zz.and (zz.pure _ _)) E h
  case sl k xs=>
   cases e:Nat.beq i.cls 3<;>cases e':Nat.beq i.esz k.size<;>simp only[e,e']at h⊢
   exact zz.bind (kz _ _) (fun l=>zz.bind (kz _ _) fun u=>zz.and (zz.pure _ _)) E h
theorem zsz (bs:List Blk):zz (zp3 bs):=by
 intro E h
 unfold zp3 at h⊢
 split at h
 ·exact⟨_,_,h,fun _ h=>h⟩
 ·exact h.elim
theorem zsy (i:TI) (x:AV) (bs:List Blk):zz (zj6 i x bs):=by
 cases x<;>try exact zz.no
 case str s=>unfold zj6;cases Nat.beq i.cls 5<;>first|exact zz.pure _ _ |exact zz.no
 case nilsl=>unfold zj6;cases Nat.beq i.cls 3<;>first|exact zz.pure _ _ |exact zz.no
 case sl k xs=>unfold zj6;cases Nat.beq i.cls 3<;>first|exact zz.pure _ _ |exact zz.no
 case ow=>unfold zj6;cases Nat.beq i.cls 3<;>first|exact zz.pure _ _ |exact zz.no
 case own id=>
  intro E h
  unfold zj6 at h⊢
  simp only at h⊢
  split at h
  ·exact⟨_,_,h,fun _ h=>h⟩
  ·exact h.elim
theorem zt9 (T:Tab) (i:TI) (dst:Nat) (s x:AV) (bs:List Blk):zz (zws T i dst s x bs):=by
 intro E h
 unfold zws at h
 split at h
 ·refine zz.bind (vf T _) (fun j=>?_) E h
  intro E h
  split at h
  ·rename_i esz _ _ _ _ _ _ _ sz _ _ _ _ k _ _ bytes _
   split at h
   ·split at h
    ·exact zz.bind (znd _ x) (fun ys=>zz.and (zz.pure _ _)) E h
    ·split at h
     ·rename_i h1 h2 h3
      simp only[h1,h2,h3]
      exact zz.bind (znd _ x) (fun ys=>zz.and (zz.pure _ _)) E h
     ·exact h.elim
    ·exact h.elim
   ·exact h.elim
  ·exact h.elim
 ·exact h.elim
set_option maxHeartbeats 1000000 in
theorem qar (T:Tab) (C:Con) (op:Op) (dst:Nat) (ρ:Operand→AV) (ids:List Nat) (bs:List Blk):zz (qf T C op dst ρ ids bs):=by
 intro E h
 cases op with
 |move x=>exact⟨_,_,h,fun _ h=>h⟩
 |assign x=>exact⟨_,_,h,fun _ h=>h⟩
 |pick c a b=>
  simp only[qf]at h⊢
  cases e:ρ c<;>simp only[e]at h⊢
  rename_i t
  cases t
  ·exact⟨_,_,h,fun _ h=>h⟩
  ·exact⟨_,_,h,fun _ h=>h⟩
 |alloc t=>
  simp only[qf]at h⊢
  split at h
  ·exact zz.bind (vf T t) (fun i=>zz.pure _ _) E h
  ·exact h.elim
 |box t x=>
  simp only[qf]at h⊢
  split at h
  ·rename_i e;(try simp only[e]);exact⟨_,_,h,fun _ h=>h⟩
  ·exact h.elim
 |build t ps=>
  simp only[qf]at h⊢
  refine zz.bind (vf T t) (fun i=>?_) E h
  intro E h
  split at h
  ·exact zz.bind (zkm _ _ _) (fun l=>zz.pure _ _) E h
  ·exact zz.bind (zko _ _ _) (fun l=>zz.pure _ _) E h
  ·exact h.elim
 |buildSlice t n ps=>
  simp only[qf]at h⊢
  refine zz.bind (vf T t) (fun i=>?_) E h
  intro E h
  split at h
  ·refine zz.bind (vf T _) (fun j=>?_) E h
   intro E h
   split at h
   ·split at h
    ·split at h
     ·split at h
      ·rename_i e;(try simp only[*]);exact⟨_,_,h,fun _ h=>h⟩
      ·exact h.elim
     ·split at h
      ·try simp only[*]
       exact zz.bind (zg7 _ _) (fun l=>zz.pure _ _) E h
      ·exact h.elim
    ·exact h.elim
   ·exact h.elim
  ·exact h.elim
 |makeSlice t l c=>
  simp only[qf]at h⊢
  refine zz.bind (vf T t) (fun i=>?_) E h
  intro E h
  split at h
  ·refine zz.bind (vf T _) (fun j=>?_) E h
   intro E h
   split at h
   ·split at h
    ·rename_i e1 e2 e3 e4 e5 _
     simp only[e1,e2,e3,e4,e5]
     exact zz.bind (yd _ _) (fun x=>zz.and (zz.pure _ _)) E h
    ·exact h.elim
   ·exact h.elim
  ·exact h.elim
 |load t p=>
  simp only[qf]at h⊢
  cases e:ρ p<;>simp only[e]at h⊢
  case ptr i off=>
   split at h
   ·exact zz.bind (vf T t) (fun i=>zz.bind (ziu i _ off) fun v=>zz.pure _ _) E h
   ·exact h.elim
  case rp k x off=>exact zz.bind (vf T t) (fun i=>zz.bind (ziu i _ off) fun v=>zz.pure _ _) E h
  case opt i sz j off=>
   split at h
   ·split at h
    ·rename_i e;try simp only[e]
     exact zz.idx _ _ (fun h=>h) (fun x=>zz.bind (vf T t) (fun i=>zz.bind (ziu i _ off) fun v=>zz.pure _ _)) E h
    ·exact h.elim
   ·exact h.elim
 |store t p v=>
  simp only[qf]at h⊢
  refine zz.bind (vf T t) (fun i=>?_) E h
  intro E h
  cases e1:zs0 (ρ v).cs i.sz<;>cases e2:zdt (ρ v).cs <;>simp only[e1,e2]at h⊢
  split at h
  ·rename_i e;(try simp only[e]at h⊢)
   split at h
   ·exact zz.bind (zfr _ _ _) (fun l=>zz.pure _ _) E h
   ·exact h.elim
  ·rename_i e;(try simp only[e]at h⊢)
   split at h
   ·split at h
    ·rename_i e3 e4;try simp only[e3,e4]
     exact zz.bind (yd _ _) (fun l=>zz.and (zz.pure _ _)) E h
    ·exact h.elim
   ·exact h.elim
  ·exact h.elim
 |nilCheck x=>
  simp only[qf]at h⊢
  cases e:ρ x<;>simp only[e]at h⊢ <;>exact⟨_,_,h,fun _ h=>h⟩
 |binOp o t x y ty=>
  simp only[qf]at h⊢
  exact zz.bind (vf T t) (fun i=>zz.bind (zwp _ _ _ _) fun v=>zz.pure _ _) E h
 |unOp o t x=>
  simp only[qf]at h⊢
  cases o<;>cases e:ρ x<;>simp only[e]at h⊢ <;>exact⟨_,_,h,fun _ h=>h⟩
 |convert s d x=>
  simp only[qf]at h⊢
  refine zz.bind (vf T s) (fun j=>zz.bind (vf T d) (fun i=>?_)) E h
  intro E h
  cases e:ρ x<;>simp only[e]at h⊢
  ·split at h
   ·exact⟨_,_,h,fun _ h=>h⟩
   ·exact h.elim
  ·split at h
   ·rename_i e1 e2;(try simp only[e1,e2]);exact⟨_,_,h,fun _ h=>h⟩
   ·exact h.elim
 |makeFunc f x y=>
  simp only[qf]at h⊢
  split at h
  ·rename_i e;(try simp only[e]);exact⟨_,_,h,fun _ h=>h⟩
  ·exact h.elim
 |fieldAddr t x f=>
  simp only[qf]at h⊢
  refine zz.bind (vf T t) (fun i=>?_) E h
  intro E h
  split at h
  ·refine zf7 (fun o s a=>?_) _ _ E h
   intro E h
   cases e:ρ x<;>simp only[e]at h⊢ <;>exact⟨_,_,h,fun _ h=>h⟩
  ·exact h.elim
 |field t x f=>
  simp only[qf]at h⊢
  refine zz.bind (vf T t) (fun i=>?_) E h
  intro E h
  split at h
  ·rename_i e;try simp only[e]
   exact zf7 (fun o s a=>zz.bind (zju _ _ _ _) fun v=>zz.pure _ _) _ _ E h
  ·exact h.elim
 |indexAddr t x i=>
  simp only[qf]at h⊢
  refine zz.bind (vf T t) (fun ti=>?_) E h
  intro E h
  cases e:ρ i<;>simp only[e]at h⊢
  rename_i kk n
  split at h
  ·cases e2:ρ x<;>simp only[e2]at h⊢
   ·split at h
    ·rename_i e3;try simp only[e3]
     exact zz.and (zz.pure _ _) E h
    ·exact h.elim
   ·split at h
    ·rename_i e3;try simp only[e3]
     exact zz.idx _ _ (fun h=>by omega) (fun x=>zz.pure _ _) E h
    ·exact h.elim
   ·split at h
    ·split at h
     ·rename_i e3;try simp only[e3]
      exact zz.and (zz.pure _ _) E h
     ·exact h.elim
    ·exact h.elim
  ·cases e2:ρ x<;>simp only[e2]at h⊢ <;>exact zz.and (zz.pure _ _) E h
  ·exact h.elim
 |index t x i=>
  simp only[qf]at h⊢
  refine zz.bind (vf T t) (fun ti=>?_) E h
  intro E h
  split at h
  ·rename_i e1 e2 e3;try simp only[e1,e2,e3]
   exact zz.idx _ _ (fun h=>by omega) (fun x=>zz.pure _ _) E h
  ·rename_i e1 e2 e3;try simp only[e1,e2,e3]
   split at h
   ·rename_i e4;try simp only[e4]
    refine zz.bind (vf T _) (fun tj=>?_) E h
    intro E h
    exact zz.and (zz.bind (zju _ _ _ _) fun v=>zz.pure _ _) E h
   ·exact h.elim
  ·exact h.elim
 |extract x n=>
  simp only[qf]at h⊢
  cases e:ρ x<;>simp only[e]at h⊢
  refine zz.bind (zcf _ _ _) (fun r=>?_) E h
  intro E h
  split at h
  ·exact⟨_,_,h,fun _ h=>h⟩
  ·exact h.elim
 |call c=>
  cases hc:c.callee with
  |value f=>
   simp only[qf,hc]at h⊢
   cases e:ρ f<;>simp only[e]at h⊢
   case fn g caps=>
    cases e2:zzz T g<;>simp only[e2]at h⊢
    ·exact zz.bind (zi1 _) (fun A=>zt8 _ A ids bs) E h
    ·exact zz.bind (zi1 _) (fun A=>zwt _ _ _ A ids bs) E h
   case cb l=>exact zz.bind (zi1 _) (fun A=>zt8 _ A ids bs) E h
  |invoke r m=>simp[qf,hc]at h
  |builtin b=>
   cases b with
   |len=>
    simp only[qf,hc]at h⊢
    split at h
    ·rename_i e1 e2;try simp only[e1,e2]
     split at h
     ·rename_i e3;try simp only[e3]
      exact zbf T _ (fun _ _ _=>zsz _) E h
     ·rename_i e3;try simp only[e3]
      exact zz.bind (vf T _) (fun i=>zsy _ _ _) E h
    ·exact h.elim
   |append=>
    simp only[qf,hc]at h⊢
    split at h
    ·rename_i e1 e2;try simp only[e1,e2]
     split at h
     ·rename_i e3;try simp only[e3]
      exact zz.bind (vf T _) (fun i=>zt9 _ _ _ _ _ _) E h
     ·exact h.elim
    ·exact h.elim
   |max=>
    simp only[qf,hc]at h⊢
    split at h
    ·rename_i e1;(try simp only[e1]);exact⟨_,_,h,fun _ h=>h⟩
    ·rename_i e1;(try simp only[e1]);exact⟨_,_,h,fun _ h=>h⟩
    ·exact h.elim
   |min=>
    simp only[qf,hc]at h⊢
    split at h
    ·rename_i e1;(try simp only[e1]);exact⟨_,_,h,fun _ h=>h⟩
    ·exact h.elim
   | _=>simp[qf,hc]at h
 |makeMap t r=>
  simp only[qf]at h⊢
  refine zbf T t (fun kk vk v=>?_) E h
  intro E h
  split at h
  ·rename_i e1;simp only[e1];exact⟨_,_,h,fun _ h=>h⟩
  ·exact h.elim
 |lookup t x i ok=>exact zvw _ _ _ _ _ _ E h
 |mapUpdate t m k v=>exact znw _ _ _ _ _ _ E h
 |insert t m k v=>exact znw _ _ _ _ _ _ E h
 |slice t x lo hi mx=>
  simp only[qf]at h⊢
  refine zz.bind (vf T t) (fun i=>?_) E h
  intro E h
  cases hwn:qd0 T hi with
  |true=>
   simp only[hwn]at h⊢
   split at h
   ·rename_i e1 e2 e3 e4;try simp only[e1,e2,e3,e4]
    split at h
    ·rename_i e5 e6;try simp only[e5,e6]
     exact zz.and (zz.pure _ _) E h
    ·exact h.elim
   ·exact h.elim
  |false=>simp only[hwn]at h⊢;exact zu7 _ _ _ _ _ E h
 | _=>exact False.elim h
end Go.Sx
