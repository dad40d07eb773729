/-
  Slice literals; stores.
-/
import Derived.Test.YtbolipecnhlnnaaGreatDoorQSxI
set_option linter.unusedVariables false
set_option linter.unusedSimpArgs false
open List renaming getElem?_eq_some_iff->q2,getElem?_append_right->q3,getElem?_append_left->q4,getElem?_eq_getElem->q5,flatten_cons->q9,getElem?_map->qA,length_cons->qB
open Nat renaming succ_mul->q6,mul_le_mul_right->q7,zero_mul->qC,zero_add->qD
namespace Go.Sx
open Go
theorem Elt.size_pos (k:Elt):0<k.size:=by cases k<;>decide
theorem vl {u:AV} {K:Int->Prop} (h:zir u K): ∃n,u= .int .i64 n/\K n:=by
 cases u<;>simp only[zir]at h
 rename_i k n;cases k<;>simp only[zir]at h
 exact⟨n,rfl,h⟩
theorem zg0 {u:AV} {K:zd7->Prop} (h:qbs u K): ∃n,u= .str n/\K n:=by
 cases u<;>simp only[qbs]at h
 exact⟨_,rfl,h⟩
theorem ztu {u:AV} {K:List Ex->Prop} (h:qc9 u K): ∃l,K l/\u.one=true/\ ∀ρ v,R ρ u v->Leaf ρ.V (.sl .ex l) v:=by
 cases u<;>simp only[qc9]at h
 case nilsl=>
  refine⟨[],h,rfl,fun ρ v hv=>?_⟩;simp only[R]at hv;subst hv;exact .sl .ex [] none 0 0 0 0 rfl (by simp) (by simp) (by simp) (by simp)
 case sl k xs=>
  cases k<;>simp only[qc9]at h
  exact⟨xs,h,rfl,fun ρ v hv=>by simpa only[R]using hv⟩
theorem zpj {u:AV} {K:List Int->Prop} (h:gLs u K): ∃l,K l/\u.one=true/\ ∀ρ v,R ρ u v->Leaf ρ.V (.sl .u32 l) v:=by
 cases u<;>simp only[gLs]at h
 case nilsl=>
  refine⟨[],h,rfl,fun ρ v hv=>?_⟩;simp only[R]at hv;subst hv;exact .sl .u32 [] none 0 0 0 0 rfl (by simp) (by simp) (by simp) (by simp)
 case sl k xs=>
  cases k<;>simp only[gLs]at h
  exact⟨xs,h,rfl,fun ρ v hv=>by simpa only[R]using hv⟩
theorem zxa {u:AV} {K:List Iv->Prop} (h:gIs u K): ∃l,K l/\u.one=true/\ ∀ρ v,R ρ u v->Leaf ρ.V (.sl .iv l) v:=by
 cases u<;>simp only[gIs]at h
 case nilsl=>
  refine⟨[],h,rfl,fun ρ v hv=>?_⟩;simp only[R]at hv;subst hv;exact .sl .iv [] none 0 0 0 0 rfl (by simp) (by simp) (by simp) (by simp)
 case sl k xs=>
  cases k<;>simp only[gIs]at h
  exact⟨xs,h,rfl,fun ρ v hv=>by simpa only[R]using hv⟩
theorem ka {ρ:Env} {n:Int} {v:Value} (h:R ρ (.int .i64 n) v):Leaf ρ.V (.int .i64 n) v:=by
 simp only[R]at h;subst h;exact .int _ _
theorem zca {u:AV} {K:Bool->Prop} (h:zlt u K): ∃n,u= .bool n/\K n:=by
 cases u<;>simp only[zlt]at h
 exact⟨_,rfl,h⟩
theorem zts {u:AV} {K:Int->Prop} (h:qc8 u K): ∃n,u= .int .u32 n/\K n:=by
 cases u<;>simp only[qc8]at h
 rename_i k n;cases k<;>simp only[qc8]at h
 exact⟨n,rfl,h⟩
theorem zfx {ρ:Env} {n:Bool} {v:Value} (h:R ρ (.bool n) v):Leaf ρ.V (.bool n) v:=by
 simp only[R]at h;subst h;exact .bool _
theorem qbf {ρ:Env} {n:Int} {v:Value} (h:R ρ (.int .u32 n) v):Leaf ρ.V (.int .u32 n) v:=by
 simp only[R]at h;subst h;exact .int _ _
theorem znn {ρ:Env} {n:zd7} {v:Value} (h:R ρ (.str n) v):Leaf ρ.V (.str n) v:=by
 simp only[R]at h;subst h;exact .str _
def kz (V:jw) (m:List AV) (vs:List Value):Prop:=m.length=vs.length/\ ∀(q:Nat) (u:AV) (v:Value),m[q]? =some u->vs[q]? =some v->Leaf V u v
theorem kz.nil {V:jw}:kz V [] []:=⟨rfl,by simp⟩
theorem kz.cons {V:jw} {u:AV} {v:Value} {m:List AV} {vs:List Value} (h:Leaf V u v) (h':kz V m vs):kz V (u::m) (v::vs):=by
 refine⟨by simp[h'.1],fun q u' v' hu hv=>?_⟩
 cases q with
 |zero=>simp at hu hv;subst hu;subst hv;exact h
 |succ q=>exact h'.2 q u' v' (by simpa using hu) (by simpa using hv)
theorem zf2: ∀ {l:List AV} {K:Ex->List AV->Prop},gEx l K-> ∃e r,K e r/\(zeh r=true->zeh l=true)/\ ∀ρ vs,Rs ρ l vs-> ∃us ws,vs=us++ws/\kz ρ.V (exC e) us/\Rs ρ r ws
 |a::b::c::s::p::x::r,K,h=>by
  simp only[gEx]at h;obtain⟨a',e1,hh1⟩:=vl h;clear h;subst e1;have h:=hh1;clear hh1;obtain⟨b',e2,hh2⟩:=vl h;clear h;subst e2;have h:=hh2;clear hh2;obtain⟨c',e3,hh3⟩:=vl h;clear h;subst e3;have h:=hh3;clear hh3;obtain⟨s',e4,hh4⟩:=zg0 h;clear h;subst e4;have h:=hh4;clear hh4;obtain⟨p',e5,hh5⟩:=vl h;clear h;subst e5;have h:=hh5;clear hh5;obtain⟨l,h,h1,hx⟩:=ztu h;refine⟨_,_,h,fun hr=>by simp only[zeh,h1,hr];rfl,fun ρ vs hv=>?_⟩
  match vs,hv with
  |v0::v1::v2::v3::v4::v5::vs,hv=>
   simp only[Rs]at hv;obtain⟨h0,h1,h2,h3,h4,h5,h6⟩:=hv;exact⟨[v0,v1,v2,v3,v4,v5],vs,rfl,(((((kz.nil.cons (hx ρ v5 h5)).cons (ka h4)).cons (znn h3)).cons (ka h2)).cons (ka h1)).cons (ka h0),h6⟩
  | [],hv=>simp[Rs]at hv
  | [_],hv=>simp[Rs]at hv
  | [_,_],hv=>simp[Rs]at hv
  | [_,_,_],hv=>simp[Rs]at hv
  | [_,_,_,_],hv=>simp[Rs]at hv
  | [_,_,_,_,_],hv=>simp[Rs]at hv
 | [],_,h=>by simp[gEx]at h
 | [_],_,h=>by simp[gEx]at h
 | [_,_],_,h=>by simp[gEx]at h
 | [_,_,_],_,h=>by simp[gEx]at h
 | [_,_,_,_],_,h=>by simp[gEx]at h
 | [_,_,_,_,_],_,h=>by simp[gEx]at h
theorem zdx: ∀ {l:List AV} {K:Dy->List AV->Prop},gDy l K-> ∃e r,K e r/\(zeh r=true->zeh l=true)/\ ∀ρ vs,Rs ρ l vs-> ∃us ws,vs=us++ws/\kz ρ.V (dyC e) us/\Rs ρ r ws
 |a::b::c::r,K,h=>by
  simp only[gDy]at h;obtain⟨a',e1,hh1⟩:=zca h;clear h;subst e1;have h:=hh1;clear hh1;obtain⟨l,h,h1,hx⟩:=zpj h;obtain⟨c',e2,hh2⟩:=vl h;clear h;subst e2;have h:=hh2;clear hh2;refine⟨_,_,h,fun hr=>by simp only[zeh,h1,hr];rfl,fun ρ vs hv=>?_⟩
  match vs,hv with
  |v0::v1::v2::vs,hv=>
   simp only[Rs]at hv;obtain⟨h0,h1,h2,h3⟩:=hv;exact⟨[v0,v1,v2],vs,rfl,((kz.nil.cons (ka h2)).cons (hx ρ v1 h1)).cons (zfx h0),h3⟩
  | [],hv=>simp[Rs]at hv
  | [_],hv=>simp[Rs]at hv
  | [_,_],hv=>simp[Rs]at hv
 | [],_,h=>by simp[gDy]at h
 | [_],_,h=>by simp[gDy]at h
 | [_,_],_,h=>by simp[gDy]at h
theorem kz.append {V:jw} {m m':List AV} {vs vs':List Value} (h:kz V m vs) (h':kz V m' vs'):kz V (m++m') (vs++vs'):=by
 refine⟨by simp[h.1,h'.1],fun q u v hu hv=>?_⟩;by_cases hq:q<m.length
 ·rw[q4 hq]at hu;rw[q4 (by rw[←h.1];exact hq)]at hv;exact h.2 q u v hu hv
 ·rw[q3 (by omega)]at hu;rw[q3 (by rw[←h.1];omega)]at hv;rw[←h.1]at hv;exact h'.2 _ u v hu hv
theorem yp: ∀ {k:Elt} {l:List AV} {K:k.T->Prop},qt k l K-> ∃y,K y/\zeh l=true/\ ∀ρ vs,Rs ρ l vs->kz ρ.V (k.cells y) vs
 | .ex,l,K,h=>by
   simp only[qt]at h;obtain⟨e,r,h,h1,h2⟩:=zf2 h;split at h
   ·refine⟨e,h,h1 rfl,fun ρ vs hv=>?_⟩;obtain⟨us,ws,rfl,h3,h4⟩:=h2 ρ vs hv
    match ws,h4 with
    | [],_=>simpa[Elt.cells]using h3
   ·exact h.elim
 | .str,l,K,h=>by
   match l,h with
   | [s],h=>
     simp only[qt]at h;obtain⟨s',e6,hh6⟩:=zg0 h;clear h;subst e6;have h:=hh6;clear hh6;refine⟨s',h,rfl,fun ρ vs hv=>?_⟩
     match vs,hv with
     | [v],hv=>simp only[Rs]at hv;exact kz.nil.cons (znn hv.1)
     | [],hv=>simp[Rs]at hv
     | _::_::_,hv=>simp[Rs]at hv
   | [],h=>simp[qt]at h
   | _::_::_,h=>simp[qt]at h
 | .int,l,K,h=>by
   match l,h with
   | [s],h=>
     simp only[qt]at h;obtain⟨s',e7,hh7⟩:=vl h;clear h;subst e7;have h:=hh7;clear hh7;refine⟨s',h,rfl,fun ρ vs hv=>?_⟩
     match vs,hv with
     | [v],hv=>simp only[Rs]at hv;exact kz.nil.cons (ka hv.1)
     | [],hv=>simp[Rs]at hv
     | _::_::_,hv=>simp[Rs]at hv
   | [],h=>simp[qt]at h
   | _::_::_,h=>simp[qt]at h
 | .bool,l,K,h=>by
   match l,h with
   | [s],h=>
     simp only[qt]at h;obtain⟨s',e7,hh7⟩:=zca h;clear h;subst e7;have h:=hh7;clear hh7;refine⟨s',h,rfl,fun ρ vs hv=>?_⟩
     match vs,hv with
     | [v],hv=>simp only[Rs]at hv;exact kz.nil.cons (zfx hv.1)
     | [],hv=>simp[Rs]at hv
     | _::_::_,hv=>simp[Rs]at hv
   | [],h=>simp[qt]at h
   | _::_::_,h=>simp[qt]at h
 | .u32,l,K,h=>by
   match l,h with
   | [s],h=>
     simp only[qt]at h;obtain⟨s',e7,hh7⟩:=zts h;clear h;subst e7;have h:=hh7;clear hh7;refine⟨s',h,rfl,fun ρ vs hv=>?_⟩
     match vs,hv with
     | [v],hv=>simp only[Rs]at hv;exact kz.nil.cons (qbf hv.1)
     | [],hv=>simp[Rs]at hv
     | _::_::_,hv=>simp[Rs]at hv
   | [],h=>simp[qt]at h
   | _::_::_,h=>simp[qt]at h
 | .ls,l,K,h=>by
   match l,h with
   | [s],h=>
     simp only[qt]at h;obtain⟨l',h,h1,hx⟩:=zpj h;refine⟨l',h,by simp[zeh,h1],fun ρ vs hv=>?_⟩
     match vs,hv with
     | [v],hv=>simp only[Rs]at hv;exact kz.nil.cons (hx ρ v hv.1)
     | [],hv=>simp[Rs]at hv
     | _::_::_,hv=>simp[Rs]at hv
   | [],h=>simp[qt]at h
   | _::_::_,h=>simp[qt]at h
 | .dy,l,K,h=>by
   simp only[qt]at h;obtain⟨e,r,h,h1,h2⟩:=zdx h;split at h
   ·refine⟨e,h,h1 rfl,fun ρ vs hv=>?_⟩;obtain⟨us,ws,rfl,h3,h4⟩:=h2 ρ vs hv
    match ws,h4 with
    | [],_=>simpa[Elt.cells]using h3
   ·exact h.elim
 | .iv,l,K,h=>by
   simp only[qt]at h;obtain⟨e,r,h,h1,h2⟩:=zdx h;obtain⟨e',r',h,h1',h2'⟩:=zdx h;split at h
   ·obtain⟨x',e3,hh3⟩:=zca h;clear h;subst e3;have h:=hh3;clear hh3;refine⟨_,h,h1 (h1' rfl),fun ρ vs hv=>?_⟩;obtain⟨us,ws,rfl,h3,h4⟩:=h2 ρ vs hv;obtain⟨us',ws',rfl,h3',h4'⟩:=h2' ρ ws h4
    match ws',h4' with
    | [v],h4'=>
      simp only[Rs]at h4';have:Elt.cells .iv ⟨e,e',x'⟩=dyC e++(dyC e'++ [.bool x']):=rfl;rw[this];exact h3.append (h3'.append (kz.nil.cons (zfx h4'.1)))
    | [],h4'=>simp[Rs]at h4'
    | _::_::_,h4'=>simp[Rs]at h4'
   ·exact h.elim
 | .vs,l,K,h=>by
   match l,h with
   | [s],h=>
     simp only[qt]at h;obtain⟨l',h,h1,hx⟩:=zxa h;refine⟨l',h,by simp[zeh,h1],fun ρ vs hv=>?_⟩
     match vs,hv with
     | [v],hv=>simp only[Rs]at hv;exact kz.nil.cons (hx ρ v hv.1)
     | [],hv=>simp[Rs]at hv
     | _::_::_,hv=>simp[Rs]at hv
   | [],h=>simp[qt]at h
   | _::_::_,h=>simp[qt]at h
 | .ki,l,K,h=>by
   match l,h with
   |s::l,h=>
    simp only[qt]at h;obtain⟨s',e16,hh16⟩:=vl h;clear h;subst e16;have h:=hh16;clear hh16;obtain⟨e,r,h,h1,h2⟩:=zdx h;obtain⟨e',r',h,h1',h2'⟩:=zdx h;split at h
    ·obtain⟨x',e3,hh3⟩:=zca h;clear h;subst e3;have h:=hh3;clear hh3;refine⟨_,h,by simp only[zeh,AV.one,Bool.true_and];exact h1 (h1' rfl),fun ρ vs hv=>?_⟩
     match vs,hv with
     |v0::vs,hv=>
      simp only[Rs]at hv;obtain⟨us,ws,rfl,h3,h4⟩:=h2 ρ vs hv.2;obtain⟨us',ws',rfl,h3',h4'⟩:=h2' ρ ws h4
      match ws',h4' with
      | [v],h4'=>
        simp only[Rs]at h4';have:Elt.cells .ki (s',⟨e,e',x'⟩)= .int .i64 s'::(dyC e++(dyC e'++ [.bool x'])):=rfl;rw[this];exact(h3.append (h3'.append (kz.nil.cons (zfx h4'.1)))).cons (ka hv.1)
      | [],h4'=>simp[Rs]at h4'
      | _::_::_,h4'=>simp[Rs]at h4'
     | [],hv=>simp[Rs]at hv
    ·exact h.elim
   | [],h=>simp[qt]at h
 | .rat,l,K,h=>by
   match l,h with
   | [a,b],h=>
     simp only[qt]at h;obtain⟨a',e8,hh8⟩:=vl h;clear h;subst e8;have h:=hh8;clear hh8;obtain⟨b',e9,hh9⟩:=vl h;clear h;subst e9;have h:=hh9;clear hh9;refine⟨_,h,rfl,fun ρ vs hv=>?_⟩
     match vs,hv with
     | [v,u],hv=>simp only[Rs]at hv;exact(kz.nil.cons (ka hv.2.1)).cons (ka hv.1)
     | [],hv=>simp[Rs]at hv
     | [_],hv=>simp[Rs]at hv
     | _::_::_::_,hv=>simp[Rs]at hv
   | [],h=>simp[qt]at h
   | [_],h=>simp[qt]at h
   | _::_::_::_,h=>simp[qt]at h
 | .op,l,K,h=>by
   match l,h with
   | [a,b,c,d,e,f],h=>
     simp only[qt]at h;obtain⟨a',e10,hh10⟩:=vl h;clear h;subst e10;have h:=hh10;clear hh10;obtain⟨b',e11,hh11⟩:=vl h;clear h;subst e11;have h:=hh11;clear hh11;obtain⟨c',e12,hh12⟩:=vl h;clear h;subst e12;have h:=hh12;clear hh12;obtain⟨d',e13,hh13⟩:=vl h;clear h;subst e13;have h:=hh13;clear hh13;obtain⟨e',e14,hh14⟩:=vl h;clear h;subst e14;have h:=hh14;clear hh14;obtain⟨f',e15,hh15⟩:=vl h;clear h;subst e15;have h:=hh15;clear hh15;refine⟨_,h,rfl,fun ρ vs hv=>?_⟩
     match vs,hv with
     | [v0,v1,v2,v3,v4,v5],hv=>
       simp only[Rs]at hv;exact(((((kz.nil.cons (ka hv.2.2.2.2.2.1)).cons (ka hv.2.2.2.2.1)).cons (ka hv.2.2.2.1)).cons (ka hv.2.2.1)).cons (ka hv.2.1)).cons (ka hv.1)
     | [],hv=>simp[Rs]at hv
     | [_],hv=>simp[Rs]at hv
     | [_,_],hv=>simp[Rs]at hv
     | [_,_,_],hv=>simp[Rs]at hv
     | [_,_,_,_],hv=>simp[Rs]at hv
     | [_,_,_,_,_],hv=>simp[Rs]at hv
     | _::_::_::_::_::_::_::_,hv=>simp[Rs]at hv
   | [],h=>simp[qt]at h
   | [_],h=>simp[qt]at h
   | [_,_],h=>simp[qt]at h
   | [_,_,_],h=>simp[qt]at h
   | [_,_,_,_],h=>simp[qt]at h
   | [_,_,_,_,_],h=>simp[qt]at h
   | _::_::_::_::_::_::_::_,h=>simp[qt]at h
 | .eqn,l,K,h=>by
   match l,h with
   |s::l,h=>
    simp only[qt]at h;obtain⟨s',e16,hh16⟩:=zg0 h;clear h;subst e16;have h:=hh16;clear hh16;obtain⟨e,r,h,h1,h2⟩:=zf2 h;split at h
    ·refine⟨_,h,by simp[zeh,AV.one,h1 rfl],fun ρ vs hv=>?_⟩
     match vs,hv with
     |v::vs,hv=>
      simp only[Rs]at hv;obtain⟨us,ws,rfl,h3,h4⟩:=h2 ρ vs hv.2
      match ws,h4 with
      | [],_=>simpa[Elt.cells]using h3.cons (znn hv.1)
     | [],hv=>simp[Rs]at hv
    ·exact h.elim
   | [],h=>simp[qt]at h
 | .ex2,l,K,h=>by
   simp only[qt]at h;obtain⟨e,r,h,h1,h2⟩:=zf2 h;obtain⟨e',r',h,h1',h2'⟩:=zf2 h;split at h
   ·refine⟨_,h,h1 (h1' rfl),fun ρ vs hv=>?_⟩;obtain⟨us,ws,rfl,h3,h4⟩:=h2 ρ vs hv;obtain⟨us',ws',rfl,h3',h4'⟩:=h2' ρ ws h4
    match ws',h4' with
    | [],_=>
      have:Elt.cells .ex2 (e,e')=exC e++exC e':=rfl;rw[this];simpa using h3.append h3'
   ·exact h.elim
theorem zgg (k:Elt): ∀ {l:List AV} {K:List k.T->Prop},ze0 k l K-> ∃xs,K xs/\xs.length=l.length/\ ∀(i:Nat) (u:AV) (x:k.T),l[i]? =some u->xs[i]? =some x->
 ∀ρ v,R ρ u v->kz ρ.V (k.cells x) v.cells.toList
 | [],K,h=>⟨[],by simpa[ze0]using h,rfl,by simp⟩
 |a::l,K,h=>by
  simp only[ze0]at h;obtain⟨y,h,h1,h2⟩:=yp h;obtain⟨xs,h,hl,h3⟩:=zgg k h;refine⟨_,h,by simp[hl],fun i u x hu hx ρ v hv=>?_⟩
  cases i with
  |zero=>simp at hu hx;subst hu;subst hx;exact h2 ρ _ (hv.cells h1)
  |succ i=>exact h3 i u x (by simpa using hu) (by simpa using hx) ρ v hv
theorem zg8 (s:Nat): ∀(parts:List (Nat×Value)) (i:Nat) (cells:Array Value),(∀(j:Nat) (p:Nat×Value),parts[j]? =some p->p.1=i+j/\p.2.cells.size=s)->(i+parts.length)*s=cells.size->
 ∃r,Instr.fill (fun i=>some (i*s,s)) cells parts=some r/\r.toList=cells.toList.take (i*s)++parts.flatMap (fun p=>p.2.cells.toList)
 | [],i,cells,_,hs=>⟨cells,rfl,by simp at hs⊢;rw[List.take_of_length_le (by simp;omega)]⟩
 |(n,v)::parts,i,cells,hp,hs=>by
  obtain⟨h1,h2⟩:=hp 0 (n,v) (by simp);simp at h1 h2;subst h1;have hle:n*s+v.cells.size<=cells.size:=by
   rw[←hs,h2];simp only[qB]
   calc n*s+s=(n+1)*s:=by rw[q6]
    _<=(n+(parts.length+1))*s:=q7 _ (by omega)
  have hfold:=zka v (n*s) cells hle;have hsz:(v.cells.zipIdx.foldl (fun(cs:Array Value) (x:Value×Nat)=>cs.setIfInBounds (n*s+x.2) x.1) cells).size =cells.size:=by
   rw[←Array.length_toList,hfold,kc _ _ _ (by simpa using hle)];simp
  obtain⟨r,hr,hrl⟩:=zg8 s parts (n+1) (v.cells.zipIdx.foldl (fun(cs:Array Value) (x:Value×Nat)=>cs.setIfInBounds (n*s+x.2) x.1) cells)
   (fun j p hj=>by have:=hp (j+1) p (by simpa using hj);exact⟨by omega,this.2⟩) (by rw[hsz,←hs];simp only[qB];congr 1;omega)
  refine⟨r,?_,?_⟩
  ·simp only[Instr.fill];rw[if_neg (by simp[h2];omega)];exact hr
  ·rw[hrl,hfold];have:(zct cells.toList (n*s) v.cells.toList).take ((n+1)*s)=cells.toList.take (n*s)++v.cells.toList:=by
    unfold zct;have e:(n+1)*s=(cells.toList.take (n*s)++v.cells.toList).length :=by
     simp[h2,q6];omega
    rw[e,List.take_append_of_le_length (by simp),List.take_length]
   rw[this];simp
theorem zpk {s:Nat}: ∀(parts:List (List Value)) (j q:Nat) (p:List Value),(∀p∈parts,p.length=s)->parts[j]? =some p->q<s->(parts.flatten)[j*s+q]? =p[q]?
 | [],j,_,p,_,h,_=>by simp at h
 |p0::parts,0,q,p,hs,h,hq=>by
  simp at h;subst h;rw[q9,qC,qD,q4 (by rw[hs p0 (by simp)];exact hq)]
 |p0::parts,j+1,q,p,hs,h,hq=>by
  have h0:=hs p0 (by simp);rw[q9,q3 (by rw[h0,q6];omega),h0];have:(j+1)*s+q-s=j*s+q:=by rw[q6];omega
  rw[this];exact zpk parts j q p (fun p hp=>hs p (by simp[hp])) (by simpa using h) hq
section
variable {P:Program} {T:Tab} {F:Wf} {C:Con} {c:Ctx} {o:Oper} {σ:St} {a:Act} {w:World} {E:AV->List Blk->Prop} {ids:List Nat} {bs:List Blk} {dst:Nat}
theorem zo6 {ρ:Operand->AV}: ∀ {parts:List (Nat×Operand)} (i:Nat) {u:AV},(zmk ρ parts)[i]? =some u-> ∃p,parts[i]? =some p/\ρ p.2=u
 | [],i,u,h=>by simp[zmk]at h
 |(n,x)::parts,0,u,h=>by simp[zmk]at h;exact⟨(n,x),by simp,h⟩
 |(n,x)::parts,i+1,u,h=>by
  simp only[zmk,List.getElem?_cons_succ]at h;obtain⟨p,h1,h2⟩:=zo6 i h;exact⟨p,by simpa using h1,h2⟩
theorem zdk {ρ:Operand->AV}: ∀ {parts:List (Nat×Operand)},(zmk ρ parts).length =parts.length
 | []=>rfl
 |(n,x)::parts=>by simp[zmk,zdk]
theorem zgs: ∀ {parts:List (Nat×Operand)} {n:Nat},zj2 n parts=true-> ∀(j:Nat) (p:Nat×Operand),parts[j]? =some p->p.1=n+j
 | [],n,_,j,p,h=>by simp at h
 |(i,x)::parts,n,h,j,p,hp=>by
  simp only[zj2]at h;split at h
  ·rename_i e;have e:=(zb _ _).1 e
   cases j with
   |zero=>simp at hp;subst hp;simp;omega
   |succ j=>have:=zgs h j p (by simpa using hp);omega
  ·simp at h
theorem zf5 {w':World} {M:Nat->Prop} {k:Elt} {xs:List k.T} {cs:Array Value} {Ty:TypeId} {b:Nat} (hM: ¬M b) (hb:w'.heap[b]? =some (.cells cs Ty (0,0)))
 (h: ∀(i:Nat) (x:k.T),xs[i]? =some x-> ∀(q:Nat) (u:AV),(k.cells x)[q]? =some u-> ∃v,cs[i*k.size+q]? =some v/\Leaf (zm w' M) u v) (hl: ∀(i:Nat) (x:k.T),xs[i]? =some x->(i+1)*k.size<=cs.size):
 ∀(i:Nat) (x:k.T),xs[i]? =some x->At (zm w' M) k x b (0+i*k.size):=by
 intro i x hx;refine .mk k x b _ (fun j=>cs.getD (i*k.size+j) undef) (fun j hj=>?_) (fun j u hu=>?_)
 ·have hlt:i*k.size+j<cs.size:=by have:=hl i x hx;rw[q6]at this;omega
  refine⟨cs,Ty,(0,0),⟨hM,hb⟩,?_⟩;rw[qD];simp[hlt]
 ·obtain⟨v,hv,hlf⟩:=h i x hx j u hu;have:cs.getD (i*k.size+j) undef=v:=by
   simp[hv]
  rw[this];exact hlf
theorem zht (hT:TabOK P T) (h:Rel c σ a w) {t:TypeId} {n:Nat} {parts:Array (Nat×Operand)} (ho:o.op= .buildSlice t (n+1) parts)
 (he:ql T C (.buildSlice t (n+1) parts) dst (zg σ.sl) ids bs E):Snd P F T c o σ a w E:=by
 have hw:wr o.op=false:=by simp[wr,ho]
 simp only[ql]at he;obtain⟨i,hmem,he⟩:=qp _ _ _ he;have hi:=hT.ti _ _ hmem;split at he
 ·rename_i sz fs e esz len k0 ik z by_ eq;obtain⟨hu,inf,hinf,hsz⟩:=hi.slice rfl;simp only at hu hinf hsz;obtain⟨j,hmj,he⟩:=qp _ _ _ he;have hj:=hT.ti _ _ hmj;obtain⟨inf',zv,hinf',hq1,hq2,hz,hq3,hq4⟩:=hj.inf;rw[hinf]at hinf';cases hinf'
  split at he
  ·rename_i kk _ _ _ _;split at he
   ·rename_i he1 he2;have he1:=(zb _ _).1 he1;split at he
    ·rename_i ho1 ho2 ho3;have ho2:=(zb _ _).1 ho2;have ho3:=Nat.le_of_ble_eq_true ho3;obtain⟨xs,hE,hxl,hx⟩:=zgg _ he;obtain⟨M,pt,ow,S,hg,hs,hr⟩:=h.own;have hpos:=Elt.size_pos kk
     let vparts:List (Nat×Value):=parts.toList.map fun x=>(x.1,a.eval x.2)
     have hcell: ∀(j:Nat) (p:Nat×Operand),parts.toList[j]? =some p-> ∀ρ,Rs ρ σ.sl a.tmps.toList-> ∃x,xs[j]? =some x/\kz ρ.V (kk.cells x) (a.eval p.2).cells.toList :=by
      intro j p hp ρ hρ;have hjl:j<parts.toList.length:=(q2.1 hp).1;have hjx:j<xs.length:=by rw[hxl,zdk];exact hjl
      have hmv:(zmk (zg σ.sl) parts.toList)[j]? =some (zg σ.sl p.2):=by
       have hjm:j<(zmk (zg σ.sl) parts.toList).length :=by rw[zdk];exact hjl
       have h0:(zmk (zg σ.sl) parts.toList)[j]? =some (zmk (zg σ.sl) parts.toList)[j]:=by simp[hjm]
       obtain⟨p',hp',hpe⟩:=zo6 j h0;rw[hp]at hp';cases hp'
       rw[h0,hpe]
      exact⟨xs[j],by simp[hjx],hx j _ _ hmv (by simp[hjx]) ρ _ (za hρ p.2)⟩
     have hvp: ∀(j:Nat) (p:Nat×Value),vparts[j]? =some p->p.1=0+j/\p.2.cells.size=kk.size:=by
      intro j p hp;simp only[vparts,qA]at hp
      cases hq:parts.toList[j]? with
      |none=>rw[hq]at hp;simp at hp
      |some q=>
       rw[hq]at hp;simp at hp;subst hp;obtain⟨x,_,hlf⟩:=hcell j q hq _ hr;refine⟨zgs ho1 j q hq,?_⟩;have:=hlf.1;rw[qz]at this;simpa using this.symm
     have hlenp:vparts.length=n+1:=by simp only[vparts,List.length_map];exact ho2
     obtain⟨r,hfill,hrl⟩:=zg8 kk.size vparts 0 ((Array.range ((n+1)*kk.size)).map (zv.cells[· % zv.cells.size]!)) hvp (by simp[hlenp]);simp only[qC,List.take_zero,List.nil_append]at hrl;have hrl':r.toList=(vparts.map fun p=>p.2.cells.toList).flatten :=by rw[hrl,List.flatMap_def]
     have hall: ∀p∈vparts.map (fun p=>p.2.cells.toList),p.length=kk.size:=by
      intro p hp;obtain⟨q,hq,rfl⟩:=List.mem_map.1 hp;obtain⟨j,hj⟩:=List.getElem?_of_mem hq;simpa using(hvp j q hj).2
     have hrsz:r.size=(n+1)*kk.size:=by
      have hl: ∀(L:List (List Value)),(∀p∈L,p.length=kk.size)->L.flatten.length=L.length*kk.size:=by
       intro L
       induction L with
       |nil=>simp
       |cons p L ih=>intro h;simp[ih (fun p hp=>h p (by simp[hp])),h p (by simp),q6];omega
      have:=hl _ hall;rw[←hrl']at this;simpa[hlenp]using this
     have hrun:(execOp a.eval o).run P w= .ok (.value (.slice (some ⟨w.heap.size,0,none⟩) (n+1) (n+1))) (w.alloc (.cells r e)):=by
      have hmap:(parts.map fun(x:Nat×Operand)=>(x.1,a.eval x.2)).toList =vparts:=by simp[vparts]
      have:=run_buildSlice (P:=P) w t e (n+1) (parts.map fun(x:Nat×Operand)=>(x.1,a.eval x.2)) r inf zv hu hinf hz (by rw[hsz,he1];omega) (by rw[hsz,he1];exact Nat.ne_of_gt (Nat.mul_pos (Nat.succ_pos n) hpos))
       (by rw[hmap,hsz,he1];exact hfill)
      simp only[execOp,ho,Sem.run_bind,this,Result.andThen_ok,Sem.run_pure]
     have hxn:xs.length=n+1:=by rw[hxl,zdk];exact ho2
     refine⟨_,[],hE,fun Q=>uc hrun (h.valExt (Ext.alloc w _) o _ _ _ _ hw fun M' pt' ow' S' hg' hs' pt'' ow'' hag=>?_)⟩;have hnM: ¬M' w.heap.size:=fun h=>by have:=hg'.fresh _ h;omega
     have hnew:(w.alloc (.cells r e)).heap[w.heap.size]? =some (.cells r e (0,0)):=by
      show(w.heap.push _)[w.heap.size]? =_;simp
     simp only[R];refine .sl kk xs _ _ _ w.heap.size 0 hxn.symm (Nat.le_refl _) ?_ (fun _=>rfl) (zf5 hnM hnew ?_ ?_)
     ·unfold maxLen;have:n+1<=1000:=Nat.le_trans (Nat.le_mul_of_pos_right _ hpos) ho3;omega
     ·intro j x hx q u hu;have hjl:j<parts.toList.length:=by
       have:=(q2.1 hx).1;rw[hxl,zdk]at this;exact this
      obtain⟨x',hx',hlf⟩:=hcell j parts.toList[j] (by simp[hjl]) _ (hs' pt'' ow'' hag).1;rw[hx]at hx';cases hx'
      have hq:q<kk.size:=by have:=(q2.1 hu).1;rwa [qz]at this
      have hql:q<(a.eval parts.toList[j].2).cells.toList.length :=by rw[←hlf.1,qz];exact hq
      refine⟨(a.eval parts.toList[j].2).cells.toList[q],?_,((hlf.2 q u _ hu (q5 hql)).mono (zc1 (Ext.alloc w _)))⟩;have hpj:(vparts.map fun p=>p.2.cells.toList)[j]? =some (a.eval parts.toList[j].2).cells.toList :=by
       simp only[vparts,qA,q5 hjl,Option.map_some]
      have:=zpk _ j q _ hall hpj hq;rw[←hrl']at this;have e2:r[j*kk.size+q]? =r.toList[j*kk.size+q]? :=by simp
      rw[e2,this];exact q5 hql
     ·intro j x hx;have:=(q2.1 hx).1;rw[hrsz];exact q7 _ (by omega)
    ·exact he.elim
   ·exact he.elim
  ·exact he.elim
 ·exact he.elim
end
end Go.Sx
