/- What an abstract value says of a value, and a state of a frame and a world. -/
import Derived.Test.YtlbmkjbgfkgcmaaGreatDoorTSxB
import Derived.Laws.CopyRow
set_option linter.all false
open Go.Value renaming cells->q0
namespace Go.Sx
open Go
abbrev kf:=Nat->Obj->Prop
def zb5(V:kf)(b o:Nat)(v:Value):Prop:=∃cs T fr,V b (.cells cs T fr)/\cs[o]? =some v
mutual
inductive Leaf(V:kf):AV->Value->Prop
 |bool (b:Bool):Leaf V (.bool b) (.bool b)
 |int (k:IntKind) (n:Int):Leaf V (.int k n) (.int k n)
 |str (s:zb7):Leaf V (.str s) (.string ⟨s.toArray⟩)
 |sl (k:Elt) (xs:List k.T) (ao:Option Addr) (n cap b o:Nat) (hn:n=xs.length) (hc:n<=cap) (hm:cap<=maxLen) (ha:xs≠ []->ao=some ⟨b,o,none⟩)
   (h:∀i x,xs[i]? =some x->At V k x b (o+i*k.size)):Leaf V (.sl k xs) (.slice ao n cap)
 |nilf:Leaf V .nilf .nilFunc
 |fn (f:Nat) (l:List Nat) (vs:Array Value) (hs:vs.size=l.length) (h:∀(i n:Nat),l[i]? =some n->∃b o,vs[i]? =some (Value.pointer (some ⟨b,o,none⟩))/\zb5 V b o (.func (.func n) #[] #[])):Leaf V (.fn f (fkL l)) (.func (.func f) #[] vs)
inductive At(V:kf):(k:Elt)->k.T->Nat->Nat->Prop
 |mk (k:Elt) (x:k.T) (b o:Nat) (f:Nat->Value) (h1:∀j,j<k.size->zb5 V b (o+j) (f j))
   (h2:∀j u,(k.cells x)[j]? =some u->Leaf V u (f j)):At V k x b o
end
theorem zb5.mono{V V':kf}(h:∀b o,V b o->V' b o){b o:Nat}{v:Value}(c:zb5 V b o v):zb5 V' b o v:=by
 obtain⟨cs,T,fr,h1,h2⟩:=c;exact⟨cs,T,fr,h _ _ h1,h2⟩
theorem Leaf.mono{V V':kf}(h:∀b o,V b o->V' b o){u:AV}{v:Value}(l:Leaf V u v):Leaf V' u v:=
 Leaf.rec (motive_1:=fun u v _=>Leaf V' u v) (motive_2:=fun k x b o _=>At V' k x b o)
  (fun b=>.bool b) (fun k n=>.int k n) (fun s=>.str s)
  (fun k xs ao n cap b o hn hc hm ha _ ih=>.sl k xs ao n cap b o hn hc hm ha ih)
  .nilf (fun f l vs hs hh=>.fn f l vs hs fun i n hi=>by obtain⟨b,o,h1,h2⟩:=hh i n hi;exact⟨b,o,h1,h2.mono h⟩)
  (fun k x b o f h1 _ ih=>.mk k x b o f (fun j hj=>(h1 j hj).mono h) ih) l
theorem At.mono{V V':kf}(h:∀b o,V b o->V' b o){k:Elt}{x:k.T}{b o:Nat}(l:At V k x b o):At V' k x b o:=by
 cases l with
 |mk _ _ _ _ f h1 h2=>exact .mk _ _ _ _ f (fun j hj=>(h1 j hj).mono h) (fun j u hu=>(h2 j u hu).mono h)
def CLe(V V':kf):Prop:=∀b cs T fr,V b (.cells cs T fr)->V' b (.cells cs T fr)
theorem CLe.of{V V':kf}(h:∀b o,V b o->V' b o):CLe V V':=fun b cs T fr=>h b _
theorem zb5.cmono{V V':kf}(h:CLe V V'){b o:Nat}{v:Value}(c:zb5 V b o v):zb5 V' b o v:=by
 obtain⟨cs,T,fr,h1,h2⟩:=c;exact⟨cs,T,fr,h _ _ _ _ h1,h2⟩
theorem Leaf.cmono{V V':kf}(h:CLe V V'){u:AV}{v:Value}(l:Leaf V u v):Leaf V' u v:=
 Leaf.rec (motive_1:=fun u v _=>Leaf V' u v) (motive_2:=fun k x b o _=>At V' k x b o)
  (fun b=>.bool b) (fun k n=>.int k n) (fun s=>.str s)
  (fun k xs ao n cap b o hn hc hm ha _ ih=>.sl k xs ao n cap b o hn hc hm ha ih)
  .nilf (fun f l vs hs hh=>.fn f l vs hs fun i n hi=>by obtain⟨b,o,h1,h2⟩:=hh i n hi;exact⟨b,o,h1,h2.cmono h⟩)
  (fun k x b o f h1 _ ih=>.mk k x b o f (fun j hj=>(h1 j hj).cmono h) ih) l
theorem At.cmono{V V':kf}(h:CLe V V'){k:Elt}{x:k.T}{b o:Nat}(l:At V k x b o):At V' k x b o:=by
 cases l with
 |mk _ _ _ _ f h1 h2=>exact .mk _ _ _ _ f (fun j hj=>(h1 j hj).cmono h) (fun j u hu=>(h2 j u hu).cmono h)
structure Env where
 V:kf
 pt:Nat->Option Nat
 ow:Nat->Option Value
mutual
def R(ρ:Env):AV->Value->Prop
 |.any,_=>True
 |.bool b,v=>v=.bool b
 |.int k n,v=>v=.int k n
 |.str s,v=>v=.string ⟨s.toArray⟩
 |.nilp,v=>v=.pointer none
 |.ptr i o,v=>(∃p,v=.pointer (some p))/\∀b,ρ.pt i=some b->v=.pointer (some ⟨b,o,none⟩)
 |.rp k x o,v=>∃b p,v=.pointer (some ⟨b,p+o,none⟩)/\At ρ.V k x b p
 |.opt i s j o,v=>(∃p,v=.pointer (some p))/\∀h,ρ.ow i=some h->∃b n c,h=.slice (some ⟨b,0,none⟩) n c/\v=.pointer (some ⟨b,j*s+o,none⟩)
 |.ow i s j n,v=>(∃b p c,v=.slice (some ⟨b,p,none⟩) n c)/\∀h,ρ.ow i=some h->∃b m c c',h=.slice (some ⟨b,0,none⟩) m c/\v=.slice (some ⟨b,j*s,none⟩) n c'
 |.nilsl,v=>v=.slice none 0 0
 |.sl k xs,v=>Leaf ρ.V (.sl k xs) v
 |.own i,v=>(∃a n c,v=.slice a n c)/\∀h,ρ.ow i=some h->v=h
 |.agg l,v=>∃vs,v=.agg vs/\Rs ρ l vs.toList
 |.tup l,v=>∃vs,v=.tuple vs/\Rs ρ l vs.toList
 |.fn f l,v=>∃vs,v=.func (.func f) #[] vs/\Rs ρ l vs.toList
 |.nilf,v=>v=.nilFunc
 |.mp i,v=>(∃p,v=.map (some p))/\∀b,ρ.pt i=some b->v=.map (some b)
 |.nilm,v=>v=.map none
 |.ub p q,v=>∃b,v=.bool b/\(b=true->p)/\(b=false->q)
 |.cb l,v=>v=.func (.yield l) #[] #[]
 |.val x,v=>v=x/\v.oneCell'=true
def Rs(ρ:Env):List AV->List Value->Prop
 | [],[]=>True
 |a::l,v::vs=>R ρ a v/\Rs ρ l vs
 | _,_=>False
end
def Env.le(ρ ρ':Env)(ids:List Nat):Prop:=
 (∀b o,ρ.V b o->ρ'.V b o)/\∀i∈ids,(∀b,ρ'.pt i=some b->ρ.pt i=some b)/\(∀h,ρ'.ow i=some h->ρ.ow i=some h)
theorem Env.le.sub{ρ ρ':Env}{ids ids':List Nat}(h:ρ.le ρ' ids)(hs:∀i∈ids',i∈ids):ρ.le ρ' ids':=⟨h.1,fun i hi=>h.2 i (hs i hi)⟩
mutual
theorem R.imp{ρ ρ':Env}:∀(a:AV)(v:Value),ρ.le ρ' a.ids->R ρ a v->R ρ' a v
 |.any,_,_,_=>by simp[R]
 |.bool _,_,_,h=>by simpa[R]using h
 |.int _ _,_,_,h=>by simpa[R]using h
 |.str _,_,_,h=>by simpa[R]using h
 |.nilp,_,_,h=>by simpa[R]using h
 |.ptr i o,v,hl,h=>by
   simp only[R]at h⊢;exact⟨h.1,fun b hb=>h.2 b ((hl.2 i (by simp[AV.ids])).1 b hb)⟩
 |.rp k x o,v,hl,h=>by
   simp only[R]at h⊢;obtain⟨b,p,hv,ha⟩:=h;exact⟨b,p,hv,ha.mono hl.1⟩
 |.opt i s j o,v,hl,h=>by
   simp only[R]at h⊢;exact⟨h.1,fun b hb=>h.2 b ((hl.2 i (by simp[AV.ids])).2 b hb)⟩
 |.ow i s j n,v,hl,h=>by
   simp only[R]at h⊢;exact⟨h.1,fun b hb=>h.2 b ((hl.2 i (by simp[AV.ids])).2 b hb)⟩
 |.nilsl,_,_,h=>by simpa[R]using h
 |.sl k xs,v,hl,h=>by
   simp only[R]at h⊢;exact h.mono hl.1
 |.own i,v,hl,h=>by
   simp only[R]at h⊢;exact⟨h.1,fun b hb=>h.2 b ((hl.2 i (by simp[AV.ids])).2 b hb)⟩
 |.agg l,v,hl,h=>by
   simp only[R]at h⊢;obtain⟨vs,hv,hr⟩:=h;exact⟨vs,hv,Rs.imp l _ (by simpa[AV.ids]using hl) hr⟩
 |.tup l,v,hl,h=>by
   simp only[R]at h⊢;obtain⟨vs,hv,hr⟩:=h;exact⟨vs,hv,Rs.imp l _ (by simpa[AV.ids]using hl) hr⟩
 |.fn f l,v,hl,h=>by
   simp only[R]at h⊢;obtain⟨vs,hv,hr⟩:=h;exact⟨vs,hv,Rs.imp l _ (by simpa[AV.ids]using hl) hr⟩
 |.nilf,_,_,h=>by simpa[R]using h
 |.mp i,v,hl,h=>by
   simp only[R]at h⊢;exact⟨h.1,fun b hb=>h.2 b ((hl.2 i (by simp[AV.ids])).1 b hb)⟩
 |.nilm,_,_,h=>by simpa[R]using h
 |.ub _ _,_,_,h=>by simpa only[R]using h
 |.cb _,_,_,h=>by simpa[R]using h
 |.val _,_,_,h=>by simpa[R]using h
theorem Rs.imp{ρ ρ':Env}:∀(l:List AV)(vs:List Value),ρ.le ρ' (wk l)->Rs ρ l vs->Rs ρ' l vs
 | [],[],_,_=>by simp[Rs]
 | [],_::_,_,h=>by simp[Rs]at h
 | _::_,[],_,h=>by simp[Rs]at h
 |a::l,v::vs,hl,h=>by
  simp only[Rs]at h⊢;exact⟨R.imp a v (hl.sub fun i hi=>by simp[wk,hi]) h.1,Rs.imp l vs (hl.sub fun i hi=>by simp[wk,hi]) h.2⟩
end
mutual
theorem R.cmono{V V':kf}{pt:Nat->Option Nat}{ow:Nat->Option Value}(hV:CLe V V'):∀(a:AV)(v:Value),R ⟨V,pt,ow⟩ a v->R ⟨V',pt,ow⟩ a v
 |.any,_,_=>by simp[R]
 |.bool _,_,h=>by simpa[R]using h
 |.int _ _,_,h=>by simpa[R]using h
 |.str _,_,h=>by simpa[R]using h
 |.nilp,_,h=>by simpa[R]using h
 |.ptr i o,v,h=>by simpa only[R]using h
 |.rp k x o,v,h=>by
   simp only[R]at h⊢;obtain⟨b,p,hv,ha⟩:=h;exact⟨b,p,hv,ha.cmono hV⟩
 |.opt i s j o,v,h=>by simpa only[R]using h
 |.ow i s j n,v,h=>by simpa only[R]using h
 |.nilsl,_,h=>by simpa[R]using h
 |.sl k xs,v,h=>by
   simp only[R]at h⊢;exact h.cmono hV
 |.own i,v,h=>by simpa only[R]using h
 |.agg l,v,h=>by
   simp only[R]at h⊢;obtain⟨vs,hv,hr⟩:=h;exact⟨vs,hv,Rs.cmono hV l _ hr⟩
 |.tup l,v,h=>by
   simp only[R]at h⊢;obtain⟨vs,hv,hr⟩:=h;exact⟨vs,hv,Rs.cmono hV l _ hr⟩
 |.fn f l,v,h=>by
   simp only[R]at h⊢;obtain⟨vs,hv,hr⟩:=h;exact⟨vs,hv,Rs.cmono hV l _ hr⟩
 |.nilf,_,h=>by simpa[R]using h
 |.mp i,v,h=>by simpa only[R]using h
 |.nilm,_,h=>by simpa[R]using h
 |.ub _ _,_,h=>by simpa only[R]using h
 |.cb _,_,h=>by simpa[R]using h
 |.val _,_,h=>by simpa[R]using h
theorem Rs.cmono{V V':kf}{pt:Nat->Option Nat}{ow:Nat->Option Value}(hV:CLe V V'):∀(l:List AV)(vs:List Value),Rs ⟨V,pt,ow⟩ l vs->Rs ⟨V',pt,ow⟩ l vs
 | [],[],_=>by simp[Rs]
 | [],_::_,h=>by simp[Rs]at h
 | _::_,[],h=>by simp[Rs]at h
 |a::l,v::vs,h=>by
  simp only[Rs]at h⊢;exact⟨R.cmono hV a v h.1,Rs.cmono hV l vs h.2⟩
end
theorem Rs.length{ρ:Env}:∀ {l:List AV}{vs:List Value},Rs ρ l vs->l.length=vs.length
 | [],[],_=>rfl
 | [],_::_,h=>by simp[Rs]at h
 | _::_,[],h=>by simp[Rs]at h
 | _::l,_::vs,h=>by simp only[Rs]at h;simp[Rs.length h.2]
theorem Rs.get{ρ:Env}:∀ {l:List AV}{vs:List Value},Rs ρ l vs->∀ {i:Nat}{a:AV},l[i]? =some a->∃v,vs[i]? =some v/\R ρ a v
 | [],[],_,i,a,h=>by simp at h
 | [],_::_,h,_,_,_=>by simp[Rs]at h
 | _::_,[],h,_,_,_=>by simp[Rs]at h
 |x::l,v::vs,h,0,a,e=>by simp only[Rs]at h;simp at e;subst e;exact⟨v,OC,h.1⟩
 |x::l,v::vs,h,i+1,a,e=>by simp only[Rs]at h;simp at e;simpa using Rs.get h.2 e
theorem Rs.set{ρ:Env}{a:AV}{v:Value}(hv:R ρ a v):∀ {l:List AV}{vs:List Value}(i:Nat),Rs ρ l vs->Rs ρ (l.set i a) (vs.set i v)
 | [],[],i,_=>by simp[Rs]
 | [],_::_,_,h=>by simp[Rs]at h
 | _::_,[],_,h=>by simp[Rs]at h
 |x::l,u::vs,0,h=>by simp only[Rs]at h;simp only[List.set_cons_zero,Rs];exact⟨hv,h.2⟩
 |x::l,u::vs,i+1,h=>by simp only[Rs]at h;simp only[List.set_cons_succ,Rs];exact⟨h.1,Rs.set hv i h.2⟩
theorem Rs.append{ρ:Env}:∀ {l m:List AV}{vs us:List Value},Rs ρ l vs->Rs ρ m us->Rs ρ (l++m) (vs++us)
 | [],m,[],us,_,h=>by simpa using h
 | [],_,_::_,_,h,_=>by simp[Rs]at h
 | _::_,_,[],_,h,_=>by simp[Rs]at h
 |a::l,m,v::vs,us,h,h'=>by simp only[Rs]at h;simp only[List.cons_append,Rs];exact⟨h.1,Rs.append h.2 h'⟩
theorem Rs.split{ρ:Env}:∀ {l m:List AV}{vs:List Value},Rs ρ (l++m) vs->∃us ws,vs=us++ws/\Rs ρ l us/\Rs ρ m ws
 | [],m,vs,h=>⟨[],vs,rfl,by simp[Rs],by simpa using h⟩
 |a::l,m,[],h=>by simp[Rs]at h
 |a::l,m,v::vs,h=>by
  simp only[List.cons_append,Rs]at h;obtain⟨us,ws,e,h1,h2⟩:=Rs.split h.2;exact⟨v::us,ws,by simp[e],by simp only[Rs];exact⟨h.1,h1⟩,h2⟩
theorem Rs.of_get{ρ:Env}:∀ {l:List AV}{vs:List Value},l.length=vs.length->(∀(i:Nat)(a:AV)(v:Value),l[i]? =some a->vs[i]? =some v->R ρ a v)->Rs ρ l vs
 | [],[],_,_=>by simp[Rs]
 | [],_::_,h,_=>by simp at h
 | _::_,[],h,_=>by simp at h
 |a::l,v::vs,h,f=>by
  simp only[Rs];exact⟨f 0 a v OC OC,Rs.of_get (by simpa using h) fun i b u hb hu=>f (i+1) b u (by simpa using hb) (by simpa using hu)⟩
theorem R.cells{ρ:Env}{a:AV}{v:Value}(h:R ρ a v)(h1:zeq a.cs=true):Rs ρ a.cs v.cells.toList:=by
 cases a with
 |any=>simp[AV.cs,zeq,AV.one]at h1
 |tup l=>simp[AV.cs,zeq,AV.one]at h1
 |agg l=>simp only[R]at h;obtain⟨vs,rfl,hr⟩:=h;exact hr
 |ptr i o=>have h':=h;simp only[R]at h';obtain⟨⟨p,rfl⟩,_⟩:=h';simp only[AV.cs,q0,Rs];exact⟨h,trivial⟩
 |opt i s j o=>have h':=h;simp only[R]at h';obtain⟨⟨p,rfl⟩,_⟩:=h';simp only[AV.cs,q0,Rs];exact⟨h,trivial⟩
 |own i=>have h':=h;simp only[R]at h';obtain⟨⟨p,n,c,rfl⟩,_⟩:=h';simp only[AV.cs,q0,Rs];exact⟨h,trivial⟩
 |ow i s j n=>have h':=h;simp only[R]at h';obtain⟨⟨b,p,c,rfl⟩,_⟩:=h';simp only[AV.cs,q0,Rs];exact⟨h,trivial⟩
 |rp k x o=>have h':=h;simp only[R]at h';obtain⟨b,p,rfl,_⟩:=h';simp only[AV.cs,q0,Rs];exact⟨h,trivial⟩
 |sl k xs=>have h':=h;simp only[R]at h';cases h';simp only[AV.cs,q0,Rs];exact⟨h,trivial⟩
 |fn f l=>have h':=h;simp only[R]at h';obtain⟨vs,rfl,_⟩:=h';simp only[AV.cs,q0,Rs];exact⟨h,trivial⟩
 |bool b=>have h':=h;simp only[R]at h';subst h';simp only[AV.cs,q0,Rs];exact⟨h,trivial⟩
 |int k n=>have h':=h;simp only[R]at h';subst h';simp only[AV.cs,q0,Rs];exact⟨h,trivial⟩
 |str s=>have h':=h;simp only[R]at h';subst h';simp only[AV.cs,q0,Rs];exact⟨h,trivial⟩
 |nilp=>have h':=h;simp only[R]at h';subst h';simp only[AV.cs,q0,Rs];exact⟨h,trivial⟩
 |nilsl=>have h':=h;simp only[R]at h';subst h';simp only[AV.cs,q0,Rs];exact⟨h,trivial⟩
 |nilf=>have h':=h;simp only[R]at h';subst h';simp only[AV.cs,q0,Rs];exact⟨h,trivial⟩
 |nilm=>have h':=h;simp only[R]at h';subst h';simp only[AV.cs,q0,Rs];exact⟨h,trivial⟩
 |ub p q=>have h':=h;simp only[R]at h';obtain⟨b,rfl,_⟩:=h';simp only[AV.cs,q0,Rs];exact⟨h,trivial⟩
 |cb l=>have h':=h;simp only[R]at h';subst h';simp only[AV.cs,q0,Rs];exact⟨h,trivial⟩
 |val x=>
  have h':=h;simp only[R]at h';obtain⟨rfl,h'⟩:=h';have hc:v.cells= #[v]:=by cases v<;>first|rfl|(simp[Value.oneCell']at h')
  rw[hc];simp only[AV.cs,Rs];exact⟨h,trivial⟩
 |mp i=>have h':=h;simp only[R]at h';obtain⟨⟨p,rfl⟩,_⟩:=h';simp only[AV.cs,q0,Rs];exact⟨h,trivial⟩
theorem R.one{ρ:Env}{a:AV}{v:Value}(h:R ρ a v)(h1:a.one=true):v.oneCell'=true:=by
 cases a<;>simp only[AV.one,Bool.false_eq_true]at h1<;>simp only[R]at h
 case ptr=>obtain⟨⟨p,rfl⟩,_⟩:=h;rfl
 case mp=>obtain⟨⟨p,rfl⟩,_⟩:=h;rfl
 case ub=>obtain⟨b,rfl,_⟩:=h;rfl
 case opt=>obtain⟨⟨p,rfl⟩,_⟩:=h;rfl
 case own=>obtain⟨⟨p,n,c,rfl⟩,_⟩:=h;rfl
 case ow=>obtain⟨⟨b,p,c,rfl⟩,_⟩:=h;rfl
 case rp=>obtain⟨b,p,rfl,_⟩:=h;rfl
 case sl=>cases h;rfl
 case fn=>obtain⟨vs,rfl,_⟩:=h;rfl
 case val=>exact h.2
 all_goals (subst h;rfl)
theorem Rs.one{ρ:Env}:∀ {l:List AV}{vs:List Value},Rs ρ l vs->zeq l=true->∀v∈vs,v.oneCell'=true
 | [],[],_,_,v,hv=>by simp at hv
 | [],_::_,h,_,_,_=>by simp[Rs]at h
 | _::_,[],h,_,_,_=>by simp[Rs]at h
 |a::l,u::vs,h,h1,v,hv=>by
  simp only[Rs]at h;simp only[zeq]at h1;split at h1
  .rename_i ha;rcases List.mem_cons.1 hv with rfl|hv
   .exact h.1.one ha
   .exact Rs.one h.2 h1 v hv
  .simp at h1
mutual
theorem R.mapI{V:kf}{f:Nat->Nat}{pt pt':Nat->Option Nat}{ow ow':Nat->Option Value}:∀(a:AV)(v:Value),(∀i∈a.ids,pt' (f i)=pt i/\ow' (f i)=ow i)->(R ⟨V,pt',ow'⟩ (a.mapI f) v<->R ⟨V,pt,ow⟩ a v)
 |.any,_,_=>by simp[R,AV.mapI]
 |.bool _,_,_=>by simp[R,AV.mapI]
 |.int _ _,_,_=>by simp[R,AV.mapI]
 |.str _,_,_=>by simp[R,AV.mapI]
 |.nilp,_,_=>by simp[R,AV.mapI]
 |.ptr i o,v,h=>by simp only[R,AV.mapI];rw[(h i (by simp[AV.ids])).1]
 |.rp k x o,v,_=>by simp[R,AV.mapI]
 |.opt i s j o,v,h=>by simp only[R,AV.mapI];rw[(h i (by simp[AV.ids])).2]
 |.ow i s j n,v,h=>by simp only[R,AV.mapI];rw[(h i (by simp[AV.ids])).2]
 |.nilsl,_,_=>by simp[R,AV.mapI]
 |.sl k xs,v,_=>by simp[R,AV.mapI]
 |.own i,v,h=>by simp only[R,AV.mapI];rw[(h i (by simp[AV.ids])).2]
 |.agg l,v,h=>by
   simp only[R,AV.mapI];constructor
   .rintro⟨vs,hv,hr⟩;exact⟨vs,hv,(Rs.mapI l _ (by simpa[AV.ids]using h)).1 hr⟩
   .rintro⟨vs,hv,hr⟩;exact⟨vs,hv,(Rs.mapI l _ (by simpa[AV.ids]using h)).2 hr⟩
 |.tup l,v,h=>by
   simp only[R,AV.mapI];constructor
   .rintro⟨vs,hv,hr⟩;exact⟨vs,hv,(Rs.mapI l _ (by simpa[AV.ids]using h)).1 hr⟩
   .rintro⟨vs,hv,hr⟩;exact⟨vs,hv,(Rs.mapI l _ (by simpa[AV.ids]using h)).2 hr⟩
 |.fn g l,v,h=>by
   simp only[R,AV.mapI];constructor
   .rintro⟨vs,hv,hr⟩;exact⟨vs,hv,(Rs.mapI l _ (by simpa[AV.ids]using h)).1 hr⟩
   .rintro⟨vs,hv,hr⟩;exact⟨vs,hv,(Rs.mapI l _ (by simpa[AV.ids]using h)).2 hr⟩
 |.nilf,_,_=>by simp[R,AV.mapI]
 |.mp i,v,h=>by simp only[R,AV.mapI];rw[(h i (by simp[AV.ids])).1]
 |.nilm,_,_=>by simp[R,AV.mapI]
 |.ub _ _,_,_=>by simp[R,AV.mapI]
 |.cb _,_,_=>by simp[R,AV.mapI]
 |.val _,_,_=>by simp[R,AV.mapI]
theorem Rs.mapI{V:kf}{f:Nat->Nat}{pt pt':Nat->Option Nat}{ow ow':Nat->Option Value}:∀(l:List AV)(vs:List Value),(∀i∈wk l,pt' (f i)=pt i/\ow' (f i)=ow i)->(Rs ⟨V,pt',ow'⟩ (xw f l) vs<->Rs ⟨V,pt,ow⟩ l vs)
 | [],[],_=>by simp[Rs,xw]
 | [],_::_,_=>by simp[Rs,xw]
 | _::_,[],_=>by simp[Rs,xw]
 |a::l,v::vs,h=>by
  simp only[xw,Rs];rw[R.mapI a v fun i hi=>h i (by simp[wk,hi]),Rs.mapI l vs fun i hi=>h i (by simp[wk,hi])]
end
theorem At.of0{V:kf}{n b o:Nat}(h:zb5 V b o (.func (.func n) #[] #[])):At V .f0 n b o:=by
 refine .mk .f0 n b o (fun _=>.func (.func n) #[] #[]) (fun j hj=>?_) fun j u hu=>?_
 .have:j=0:=by simp only[Elt.size]at hj;omega
  subst this;exact h
 .match j,hu with
  |0,hu=>cases hu;exact Leaf.fn n [] #[] rfl fun i n h=>by simp at h
  |j+1,hu=>simp[Elt.cells]at hu
theorem Rs.of_fk{ρ:Env}:∀ {l:List Nat}{vs:List Value},vs.length=l.length->(∀(i n:Nat),l[i]? =some n->∃b o,vs[i]? =some (Value.pointer (some ⟨b,o,none⟩))/\zb5 ρ.V b o (.func (.func n) #[] #[]))->Rs ρ (fkL l) vs
 | [],[],_,_=>trivial
 | [],_::_,h,_=>by simp at h
 | _::_,[],h,_=>by simp at h
 |n::l,v::vs,h,hh=>by
  obtain⟨b,o,h1,h2⟩:=hh 0 n rfl;cases h1
  refine⟨?_,Rs.of_fk (by simpa using h) fun i m hi=>hh (i+1) m (by simpa using hi)⟩;simp only[R];exact⟨b,o,rfl,.of0 h2⟩
theorem R.of_leaf{ρ:Env}{u:AV}{v:Value}(h:Leaf ρ.V u v):R ρ u v:=by
 cases h<;>simp only[R]
 .exact .sl _ _ _ _ _ _ _ (by assumption) (by assumption) (by assumption) (by assumption) (by assumption)
 .rename_i f l vs hs hh;exact⟨vs,rfl,Rs.of_fk (by simpa using hs) fun i n hi=>by
   obtain⟨b,o,h1,h2⟩:=hh i n hi;exact⟨b,o,by simpa using h1,h2⟩⟩
