/- Slice literals; stores. -/
import Derived.Test.YtlbmkjbgfkgcmaaGreatDoorTSxI
set_option linter.all false
open List renaming getElem?_eq_some_iff->q0,getElem?_append_right->q1,getElem?_append_left->q2,getElem?_eq_getElem->q3,flatten_cons->qB,getElem?_map->qC,length_cons->qD
open Nat renaming succ_mul->q4,mul_le_mul_right->qA,add_zero->qE,zero_mul->qF,zero_add->qG
namespace Go.Sx
open Go
theorem Elt.size_pos(k:Elt):0<k.size:=by cases k<;>decide
theorem wc{u:AV}{K:Int->Prop}(h:zi2 u K):∃n,u=.int .i64 n/\K n:=by
 cases u<;>simp only[zi2]at h
 rename_i k n;cases k<;>simp only[zi2]at h
 exact⟨n,rfl,h⟩
theorem zg4{u:AV}{K:zb7->Prop}(h:qa9 u K):∃n,u=.str n/\K n:=by
 cases u<;>simp only[qa9]at h
 exact⟨_,rfl,h⟩
theorem ztw{u:AV}{K:List Ex->Prop}(h:qc4 u K):∃l,K l/\u.one=true/\∀ρ v,R ρ u v->Leaf ρ.V (.sl .ex l) v:=by
 cases u<;>simp only[qc4]at h
 case nilsl=>
  refine⟨[],h,rfl,fun ρ v hv=>?_⟩;simp only[R]at hv;subst hv;exact .sl .ex [] none 0 0 0 0 rfl OC OC OC OC
 case sl k xs=>
  cases k<;>simp only[qc4]at h
  exact⟨xs,h,rfl,fun ρ v hv=>by simpa only[R]using hv⟩
theorem zpg{u:AV}{K:List Int->Prop}(h:gLs u K):∃l,K l/\u.one=true/\∀ρ v,R ρ u v->Leaf ρ.V (.sl .u32 l) v:=by
 cases u<;>simp only[gLs]at h
 case nilsl=>
  refine⟨[],h,rfl,fun ρ v hv=>?_⟩;simp only[R]at hv;subst hv;exact .sl .u32 [] none 0 0 0 0 rfl OC OC OC OC
 case sl k xs=>
  cases k<;>simp only[gLs]at h
  exact⟨xs,h,rfl,fun ρ v hv=>by simpa only[R]using hv⟩
theorem zw7{u:AV}{K:List Iv->Prop}(h:gIs u K):∃l,K l/\u.one=true/\∀ρ v,R ρ u v->Leaf ρ.V (.sl .iv l) v:=by
 cases u<;>simp only[gIs]at h
 case nilsl=>
  refine⟨[],h,rfl,fun ρ v hv=>?_⟩;simp only[R]at hv;subst hv;exact .sl .iv [] none 0 0 0 0 rfl OC OC OC OC
 case sl k xs=>
  cases k<;>simp only[gIs]at h
  exact⟨xs,h,rfl,fun ρ v hv=>by simpa only[R]using hv⟩
theorem kv{ρ:Env}{n:Int}{v:Value}(h:R ρ (.int .i64 n) v):Leaf ρ.V (.int .i64 n) v:=by
 simp only[R]at h;subst h;exact .int _ _
theorem zco{u:AV}{K:Bool->Prop}(h:zlz u K):∃n,u=.bool n/\K n:=by
 cases u<;>simp only[zlz]at h
 exact⟨_,rfl,h⟩
theorem ztt{u:AV}{K:Int->Prop}(h:qc3 u K):∃n,u=.int .u32 n/\K n:=by
 cases u<;>simp only[qc3]at h
 rename_i k n;cases k<;>simp only[qc3]at h
 exact⟨n,rfl,h⟩
theorem zw4{u:AV}{K:Int->Prop}(h:gU8 u K):∃n,u=.int .u8 n/\K n:=by
 cases u<;>simp only[gU8]at h
 rename_i k n;cases k<;>simp only[gU8]at h
 exact⟨n,rfl,h⟩
theorem qer{ρ:Env}{n:Int}{v:Value}(h:R ρ (.int .u8 n) v):Leaf ρ.V (.int .u8 n) v:=by
 simp only[R]at h;subst h;exact .int _ _
theorem zph:∀ {l:List AV}{K:List Nat->Prop},gFl l K->∃ns,l=fkL ns/\K ns
 | [],_,h=>⟨[],rfl,h⟩
 |a::l,K,h=>by
  unfold gFl at h;split at h
  .rename_i e;cases e
  .rename_i n r e;cases e
   obtain⟨ns,rfl,hk⟩:=zph h;exact⟨n::ns,rfl,hk⟩
  .exact h.elim
theorem At.f0{V:kf}{n b o:Nat}(h:At V .f0 n b o):zb5 V b o (.func (.func n) #[] #[]):=by
 cases h with
 |mk _ _ _ _ f h1 h2=>
  have h3:=h1 0 OA;have h4:=h2 0 (.fn n []) rfl;rw[qE]at h3;have:f 0=.func (.func n) #[] #[]:=by
   generalize f 0=y at h4;generalize e:AV.fn n []=u at h4
   cases h4 with
   |fn f l vs hs hh=>
    obtain⟨rfl,e2⟩:=AV.fn.inj e
    cases l with
    |nil=>rw[show vs= #[]from Array.eq_empty_of_size_eq_zero hs]
    |cons _ _=>cases e2
   | _=>cases e
  rw[<-this];exact h3
theorem qgd{ρ:Env}:∀ {l:List Nat}{vs:List Value},Rs ρ (fkL l) vs->vs.length=l.length/\∀(i n:Nat),l[i]? =some n->∃b o,vs[i]? =some (Value.pointer (some ⟨b,o,none⟩))/\zb5 ρ.V b o (.func (.func n) #[] #[])
 | [],[],_=>⟨rfl,fun i n h=>by simp at h⟩
 | [],_::_,h=>h.elim
 | _::_,[],h=>h.elim
 |n::l,v::vs,h=>by
  obtain⟨h1,h2⟩:=h;obtain⟨h3,h4⟩:=qgd h2;simp only[R]at h1;obtain⟨b,p,rfl,ha⟩:=h1;refine⟨by simp[h3],fun i m hi=>?_⟩
  cases i with
  |zero=>cases hi;exact⟨b,p+0,rfl,by rw[qE];exact ha.f0⟩
  |succ i=>exact h4 i m (by simpa using hi)
theorem zw8{u:AV}{K:Option (Nat×List Nat)->Prop}(h:gFk u K):∃p,K p/\u.one=true/\∀ρ v,R ρ u v->Leaf ρ.V (fkV p) v:=by
 cases u<;>simp only[gFk]at h
 case nilf=>exact⟨none,h,rfl,fun ρ v hv=>by simp only[R]at hv;subst hv;exact .nilf⟩
 case fn g l=>
  obtain⟨ns,rfl,hk⟩:=zph h;refine⟨_,hk,rfl,fun ρ v hv=>?_⟩;simp only[R]at hv;obtain⟨vs,rfl,hr⟩:=hv;obtain⟨h1,h2⟩:=qgd hr;exact .fn g ns vs (by simpa using h1) fun i n hi=>by
   obtain⟨b,o,h3,h4⟩:=h2 i n hi;exact⟨b,o,by simpa using h3,h4⟩
theorem zfz{ρ:Env}{n:Bool}{v:Value}(h:R ρ (.bool n) v):Leaf ρ.V (.bool n) v:=by
 simp only[R]at h;subst h;exact .bool _
theorem qay{ρ:Env}{n:Int}{v:Value}(h:R ρ (.int .u32 n) v):Leaf ρ.V (.int .u32 n) v:=by
 simp only[R]at h;subst h;exact .int _ _
theorem znb{ρ:Env}{n:zb7}{v:Value}(h:R ρ (.str n) v):Leaf ρ.V (.str n) v:=by
 simp only[R]at h;subst h;exact .str _
def jz(V:kf)(m:List AV)(vs:List Value):Prop:=m.length=vs.length/\∀(q:Nat)(u:AV)(v:Value),m[q]? =some u->vs[q]? =some v->Leaf V u v
theorem jz.nil{V:kf}:jz V [] []:=⟨rfl,OC⟩
theorem jz.cons{V:kf}{u:AV}{v:Value}{m:List AV}{vs:List Value}(h:Leaf V u v)(h':jz V m vs):jz V (u::m) (v::vs):=by
 refine⟨by simp[h'.1],fun q u' v' hu hv=>?_⟩
 cases q with
 |zero=>simp at hu hv;subst hu;subst hv;exact h
 |succ q=>exact h'.2 q u' v' (by simpa using hu) (by simpa using hv)
theorem zf3:∀ {l:List AV}{K:Ex->List AV->Prop},gEx l K->∃e r,K e r/\(zeq r=true->zeq l=true)/\∀ρ vs,Rs ρ l vs->∃us ws,vs=us++ws/\jz ρ.V (exC e) us/\Rs ρ r ws
 |a::b::c::s::p::x::r,K,h=>by
  simp only[gEx]at h;obtain⟨a',e1,hh1⟩:=wc h;clear h;subst e1;have h:=hh1;clear hh1;obtain⟨b',e2,hh2⟩:=wc h;clear h;subst e2;have h:=hh2;clear hh2;obtain⟨c',e3,hh3⟩:=wc h;clear h;subst e3;have h:=hh3;clear hh3;obtain⟨s',e4,hh4⟩:=zg4 h;clear h;subst e4;have h:=hh4;clear hh4;obtain⟨p',e5,hh5⟩:=wc h;clear h;subst e5;have h:=hh5;clear hh5;obtain⟨l,h,h1,hx⟩:=ztw h;refine⟨_,_,h,fun hr=>by simp only[zeq,h1,hr];rfl,fun ρ vs hv=>?_⟩
  match vs,hv with
  |v0::v1::v2::v3::v4::v5::vs,hv=>
   simp only[Rs]at hv;obtain⟨h0,h1,h2,h3,h4,h5,h6⟩:=hv;exact⟨[v0,v1,v2,v3,v4,v5],vs,rfl,(((((jz.nil.cons (hx ρ v5 h5)).cons (kv h4)).cons (znb h3)).cons (kv h2)).cons (kv h1)).cons (kv h0),h6⟩
  | [],hv=>simp[Rs]at hv
  | [_],hv=>simp[Rs]at hv
  | [_,_],hv=>simp[Rs]at hv
  | [_,_,_],hv=>simp[Rs]at hv
  | [_,_,_,_],hv=>simp[Rs]at hv
  | [_,_,_,_,_],hv=>simp[Rs]at hv
 | [],_,h=>by simp[gEx]at h
 | [_],_,h=>by simp[gEx]at h
 | [_,_],_,h=>by simp[gEx]at h
 | [_,_,_],_,h=>by simp[gEx]at h
 | [_,_,_,_],_,h=>by simp[gEx]at h
 | [_,_,_,_,_],_,h=>by simp[gEx]at h
theorem za5:∀ {l:List AV}{K:Dy->List AV->Prop},gDy l K->∃e r,K e r/\(zeq r=true->zeq l=true)/\∀ρ vs,Rs ρ l vs->∃us ws,vs=us++ws/\jz ρ.V (dyC e) us/\Rs ρ r ws
 |a::b::c::r,K,h=>by
  simp only[gDy]at h;obtain⟨a',e1,hh1⟩:=zco h;clear h;subst e1;have h:=hh1;clear hh1;obtain⟨l,h,h1,hx⟩:=zpg h;obtain⟨c',e2,hh2⟩:=wc h;clear h;subst e2;have h:=hh2;clear hh2;refine⟨_,_,h,fun hr=>by simp only[zeq,h1,hr];rfl,fun ρ vs hv=>?_⟩
  match vs,hv with
  |v0::v1::v2::vs,hv=>
   simp only[Rs]at hv;obtain⟨h0,h1,h2,h3⟩:=hv;exact⟨[v0,v1,v2],vs,rfl,((jz.nil.cons (kv h2)).cons (hx ρ v1 h1)).cons (zfz h0),h3⟩
  | [],hv=>simp[Rs]at hv
  | [_],hv=>simp[Rs]at hv
  | [_,_],hv=>simp[Rs]at hv
 | [],_,h=>by simp[gDy]at h
 | [_],_,h=>by simp[gDy]at h
 | [_,_],_,h=>by simp[gDy]at h
theorem jz.append{V:kf}{m m':List AV}{vs vs':List Value}(h:jz V m vs)(h':jz V m' vs'):jz V (m++m') (vs++vs'):=by
 refine⟨by simp[h.1,h'.1],fun q u v hu hv=>?_⟩;by_cases hq:q<m.length
 .rw[q2 hq]at hu;rw[q2 (by rw[<-h.1];exact hq)]at hv;exact h.2 q u v hu hv
 .rw[q1 O]at hu;rw[q1 (by rw[<-h.1];omega)]at hv;rw[<-h.1]at hv;exact h'.2 _ u v hu hv
theorem uu:∀ {k:Elt}{l:List AV}{K:k.T->Prop},qf k l K->∃y,K y/\zeq l=true/\∀ρ vs,Rs ρ l vs->jz ρ.V (k.cells y) vs
 |.ex,l,K,h=>by
   simp only[qf]at h;obtain⟨e,r,h,h1,h2⟩:=zf3 h;split at h
   .refine⟨e,h,h1 rfl,fun ρ vs hv=>?_⟩;obtain⟨us,ws,rfl,h3,h4⟩:=h2 ρ vs hv
    match ws,h4 with
    | [],_=>simpa[Elt.cells]using h3
   .exact h.elim
 |.str,l,K,h=>by
   match l,h with
   | [s],h=>
     simp only[qf]at h;obtain⟨s',e6,hh6⟩:=zg4 h;clear h;subst e6;have h:=hh6;clear hh6;refine⟨s',h,rfl,fun ρ vs hv=>?_⟩
     match vs,hv with
     | [v],hv=>simp only[Rs]at hv;exact jz.nil.cons (znb hv.1)
     | [],hv=>simp[Rs]at hv
     | _::_::_,hv=>simp[Rs]at hv
   | [],h=>simp[qf]at h
   | _::_::_,h=>simp[qf]at h
 |.int,l,K,h=>by
   match l,h with
   | [s],h=>
     simp only[qf]at h;obtain⟨s',e7,hh7⟩:=wc h;clear h;subst e7;have h:=hh7;clear hh7;refine⟨s',h,rfl,fun ρ vs hv=>?_⟩
     match vs,hv with
     | [v],hv=>simp only[Rs]at hv;exact jz.nil.cons (kv hv.1)
     | [],hv=>simp[Rs]at hv
     | _::_::_,hv=>simp[Rs]at hv
   | [],h=>simp[qf]at h
   | _::_::_,h=>simp[qf]at h
 |.bool,l,K,h=>by
   match l,h with
   | [s],h=>
     simp only[qf]at h;obtain⟨s',e7,hh7⟩:=zco h;clear h;subst e7;have h:=hh7;clear hh7;refine⟨s',h,rfl,fun ρ vs hv=>?_⟩
     match vs,hv with
     | [v],hv=>simp only[Rs]at hv;exact jz.nil.cons (zfz hv.1)
     | [],hv=>simp[Rs]at hv
     | _::_::_,hv=>simp[Rs]at hv
   | [],h=>simp[qf]at h
   | _::_::_,h=>simp[qf]at h
 |.u32,l,K,h=>by
   match l,h with
   | [s],h=>
     simp only[qf]at h;obtain⟨s',e7,hh7⟩:=ztt h;clear h;subst e7;have h:=hh7;clear hh7;refine⟨s',h,rfl,fun ρ vs hv=>?_⟩
     match vs,hv with
     | [v],hv=>simp only[Rs]at hv;exact jz.nil.cons (qay hv.1)
     | [],hv=>simp[Rs]at hv
     | _::_::_,hv=>simp[Rs]at hv
   | [],h=>simp[qf]at h
   | _::_::_,h=>simp[qf]at h
 |.u8,l,K,h=>by
   match l,h with
   | [s],h=>
     simp only[qf]at h;obtain⟨s',e7,hh7⟩:=zw4 h;clear h;subst e7;have h:=hh7;clear hh7;refine⟨s',h,rfl,fun ρ vs hv=>?_⟩
     match vs,hv with
     | [v],hv=>simp only[Rs]at hv;exact jz.nil.cons (qer hv.1)
     | [],hv=>simp[Rs]at hv
     | _::_::_,hv=>simp[Rs]at hv
   | [],h=>simp[qf]at h
   | _::_::_,h=>simp[qf]at h
 |.fk,l,K,h=>by
   match l,h with
   | [s],h=>
     simp only[qf]at h;obtain⟨l',h,h1,hx⟩:=zw8 h;refine⟨l',h,by simp[zeq,h1],fun ρ vs hv=>?_⟩
     match vs,hv with
     | [v],hv=>simp only[Rs]at hv;exact jz.nil.cons (hx ρ v hv.1)
     | [],hv=>simp[Rs]at hv
     | _::_::_,hv=>simp[Rs]at hv
   | [],h=>simp[qf]at h
   | _::_::_,h=>simp[qf]at h
 |.f0,l,K,h=>by simp[qf]at h
 |.ls,l,K,h=>by
   match l,h with
   | [s],h=>
     simp only[qf]at h;obtain⟨l',h,h1,hx⟩:=zpg h;refine⟨l',h,by simp[zeq,h1],fun ρ vs hv=>?_⟩
     match vs,hv with
     | [v],hv=>simp only[Rs]at hv;exact jz.nil.cons (hx ρ v hv.1)
     | [],hv=>simp[Rs]at hv
     | _::_::_,hv=>simp[Rs]at hv
   | [],h=>simp[qf]at h
   | _::_::_,h=>simp[qf]at h
 |.dy,l,K,h=>by
   simp only[qf]at h;obtain⟨e,r,h,h1,h2⟩:=za5 h;split at h
   .refine⟨e,h,h1 rfl,fun ρ vs hv=>?_⟩;obtain⟨us,ws,rfl,h3,h4⟩:=h2 ρ vs hv
    match ws,h4 with
    | [],_=>simpa[Elt.cells]using h3
   .exact h.elim
 |.iv,l,K,h=>by
   simp only[qf]at h;obtain⟨e,r,h,h1,h2⟩:=za5 h;obtain⟨e',r',h,h1',h2'⟩:=za5 h;split at h
   .obtain⟨x',e3,hh3⟩:=zco h;clear h;subst e3;have h:=hh3;clear hh3;refine⟨_,h,h1 (h1' rfl),fun ρ vs hv=>?_⟩;obtain⟨us,ws,rfl,h3,h4⟩:=h2 ρ vs hv;obtain⟨us',ws',rfl,h3',h4'⟩:=h2' ρ ws h4
    match ws',h4' with
    | [v],h4'=>
      simp only[Rs]at h4';have:Elt.cells .iv ⟨e,e',x'⟩=dyC e++(dyC e'++ [.bool x']):=rfl;rw[this];exact h3.append (h3'.append (jz.nil.cons (zfz h4'.1)))
    | [],h4'=>simp[Rs]at h4'
    | _::_::_,h4'=>simp[Rs]at h4'
   .exact h.elim
 |.dd,l,K,h=>by
   simp only[qf]at h;obtain⟨e,r,h,h1,h2⟩:=za5 h;obtain⟨e',r',h,h1',h2'⟩:=za5 h;split at h
   .refine⟨_,h,h1 (h1' rfl),fun ρ vs hv=>?_⟩;obtain⟨us,ws,rfl,h3,h4⟩:=h2 ρ vs hv;obtain⟨us',ws',rfl,h3',h4'⟩:=h2' ρ ws h4
    match ws',h4' with
    | [],_=>
      have:Elt.cells .dd (e,e')=dyC e++(dyC e'++ []):=rfl;rw[this];exact h3.append (h3'.append jz.nil)
   .exact h.elim
 |.vs,l,K,h=>by
   match l,h with
   | [s],h=>
     simp only[qf]at h;obtain⟨l',h,h1,hx⟩:=zw7 h;refine⟨l',h,by simp[zeq,h1],fun ρ vs hv=>?_⟩
     match vs,hv with
     | [v],hv=>simp only[Rs]at hv;exact jz.nil.cons (hx ρ v hv.1)
     | [],hv=>simp[Rs]at hv
     | _::_::_,hv=>simp[Rs]at hv
   | [],h=>simp[qf]at h
   | _::_::_,h=>simp[qf]at h
 |.ki,l,K,h=>by
   match l,h with
   |s::l,h=>
    simp only[qf]at h;obtain⟨s',e16,hh16⟩:=wc h;clear h;subst e16;have h:=hh16;clear hh16;obtain⟨e,r,h,h1,h2⟩:=za5 h;obtain⟨e',r',h,h1',h2'⟩:=za5 h;split at h
    .obtain⟨x',e3,hh3⟩:=zco h;clear h;subst e3;have h:=hh3;clear hh3;refine⟨_,h,by simp only[zeq,AV.one,Bool.true_and];exact h1 (h1' rfl),fun ρ vs hv=>?_⟩
     match vs,hv with
     |v0::vs,hv=>
      simp only[Rs]at hv;obtain⟨us,ws,rfl,h3,h4⟩:=h2 ρ vs hv.2;obtain⟨us',ws',rfl,h3',h4'⟩:=h2' ρ ws h4
      match ws',h4' with
      | [v],h4'=>
        simp only[Rs]at h4';have:Elt.cells .ki (s',⟨e,e',x'⟩)=.int .i64 s'::(dyC e++(dyC e'++ [.bool x'])):=rfl;rw[this];exact(h3.append (h3'.append (jz.nil.cons (zfz h4'.1)))).cons (kv hv.1)
      | [],h4'=>simp[Rs]at h4'
      | _::_::_,h4'=>simp[Rs]at h4'
     | [],hv=>simp[Rs]at hv
    .exact h.elim
   | [],h=>simp[qf]at h
 |.rat,l,K,h=>by
   match l,h with
   | [a,b],h=>
     simp only[qf]at h;obtain⟨a',e8,hh8⟩:=wc h;clear h;subst e8;have h:=hh8;clear hh8;obtain⟨b',e9,hh9⟩:=wc h;clear h;subst e9;have h:=hh9;clear hh9;refine⟨_,h,rfl,fun ρ vs hv=>?_⟩
     match vs,hv with
     | [v,u],hv=>simp only[Rs]at hv;exact(jz.nil.cons (kv hv.2.1)).cons (kv hv.1)
     | [],hv=>simp[Rs]at hv
     | [_],hv=>simp[Rs]at hv
     | _::_::_::_,hv=>simp[Rs]at hv
   | [],h=>simp[qf]at h
   | [_],h=>simp[qf]at h
   | _::_::_::_,h=>simp[qf]at h
 |.op,l,K,h=>by
   match l,h with
   | [a,b,c,d,e,f],h=>
     simp only[qf]at h;obtain⟨a',e10,hh10⟩:=wc h;clear h;subst e10;have h:=hh10;clear hh10;obtain⟨b',e11,hh11⟩:=wc h;clear h;subst e11;have h:=hh11;clear hh11;obtain⟨c',e12,hh12⟩:=wc h;clear h;subst e12;have h:=hh12;clear hh12;obtain⟨d',e13,hh13⟩:=wc h;clear h;subst e13;have h:=hh13;clear hh13;obtain⟨e',e14,hh14⟩:=wc h;clear h;subst e14;have h:=hh14;clear hh14;obtain⟨f',e15,hh15⟩:=wc h;clear h;subst e15;have h:=hh15;clear hh15;refine⟨_,h,rfl,fun ρ vs hv=>?_⟩
     match vs,hv with
     | [v0,v1,v2,v3,v4,v5],hv=>
       simp only[Rs]at hv;exact(((((jz.nil.cons (kv hv.2.2.2.2.2.1)).cons (kv hv.2.2.2.2.1)).cons (kv hv.2.2.2.1)).cons (kv hv.2.2.1)).cons (kv hv.2.1)).cons (kv hv.1)
     | [],hv=>simp[Rs]at hv
     | [_],hv=>simp[Rs]at hv
     | [_,_],hv=>simp[Rs]at hv
     | [_,_,_],hv=>simp[Rs]at hv
     | [_,_,_,_],hv=>simp[Rs]at hv
     | [_,_,_,_,_],hv=>simp[Rs]at hv
     | _::_::_::_::_::_::_::_,hv=>simp[Rs]at hv
   | [],h=>simp[qf]at h
   | [_],h=>simp[qf]at h
   | [_,_],h=>simp[qf]at h
   | [_,_,_],h=>simp[qf]at h
   | [_,_,_,_],h=>simp[qf]at h
   | [_,_,_,_,_],h=>simp[qf]at h
   | _::_::_::_::_::_::_::_,h=>simp[qf]at h
 |.eqn,l,K,h=>by
   match l,h with
   |s::l,h=>
    simp only[qf]at h;obtain⟨s',e16,hh16⟩:=zg4 h;clear h;subst e16;have h:=hh16;clear hh16;obtain⟨e,r,h,h1,h2⟩:=zf3 h;split at h
    .refine⟨_,h,by simp[zeq,AV.one,h1 rfl],fun ρ vs hv=>?_⟩
     match vs,hv with
     |v::vs,hv=>
      simp only[Rs]at hv;obtain⟨us,ws,rfl,h3,h4⟩:=h2 ρ vs hv.2
      match ws,h4 with
      | [],_=>simpa[Elt.cells]using h3.cons (znb hv.1)
     | [],hv=>simp[Rs]at hv
    .exact h.elim
   | [],h=>simp[qf]at h
 |.ex2,l,K,h=>by
   simp only[qf]at h;obtain⟨e,r,h,h1,h2⟩:=zf3 h;obtain⟨e',r',h,h1',h2'⟩:=zf3 h;split at h
   .refine⟨_,h,h1 (h1' rfl),fun ρ vs hv=>?_⟩;obtain⟨us,ws,rfl,h3,h4⟩:=h2 ρ vs hv;obtain⟨us',ws',rfl,h3',h4'⟩:=h2' ρ ws h4
    match ws',h4' with
    | [],_=>
      have:Elt.cells .ex2 (e,e')=exC e++exC e':=rfl;rw[this];simpa using h3.append h3'
   .exact h.elim
theorem zgj(k:Elt):∀ {l:List AV}{K:List k.T->Prop},zff k l K->∃xs,K xs/\xs.length=l.length/\∀(i:Nat)(u:AV)(x:k.T),l[i]? =some u->xs[i]? =some x->
 ∀ρ v,R ρ u v->jz ρ.V (k.cells x) v.cells.toList
 | [],K,h=>⟨[],by simpa[zff]using h,rfl,OC⟩
 |a::l,K,h=>by
  simp only[zff]at h;obtain⟨y,h,h1,h2⟩:=uu h;obtain⟨xs,h,hl,h3⟩:=zgj k h;refine⟨_,h,by simp[hl],fun i u x hu hx ρ v hv=>?_⟩
  cases i with
  |zero=>simp at hu hx;subst hu;subst hx;exact h2 ρ _ (hv.cells h1)
  |succ i=>exact h3 i u x (by simpa using hu) (by simpa using hx) ρ v hv
theorem zhd(s:Nat):∀(parts:List (Nat×Value))(i:Nat)(cells:Array Value),(∀(j:Nat)(p:Nat×Value),parts[j]? =some p->p.1=i+j/\p.2.cells.size=s)->(i+parts.length)*s=cells.size->
 ∃r,Instr.fill (fun i=>some (i*s,s)) cells parts=some r/\r.toList=cells.toList.take (i*s)++parts.flatMap (fun p=>p.2.cells.toList)
 | [],i,cells,_,hs=>⟨cells,rfl,by simp at hs⊢;rw[List.take_of_length_le OE]⟩
 |(n,v)::parts,i,cells,hp,hs=>by
  obtain⟨h1,h2⟩:=hp 0 (n,v) OC;simp at h1 h2;subst h1;have hle:n*s+v.cells.size<=cells.size:=by
   rw[<-hs,h2];simp only[qD]
   calc n*s+s=(n+1)*s:=by rw[q4]
    _<=(n+(parts.length+1))*s:=qA _ O
  have hfold:=zkg v (n*s) cells hle;have hsz:(v.cells.zipIdx.foldl (fun(cs:Array Value)(x:Value×Nat)=>cs.setIfInBounds (n*s+x.2) x.1) cells).size =cells.size:=by
   rw[<-Array.length_toList,hfold,jf _ _ _ (by simpa using hle)];simp
  obtain⟨r,hr,hrl⟩:=zhd s parts (n+1) (v.cells.zipIdx.foldl (fun(cs:Array Value)(x:Value×Nat)=>cs.setIfInBounds (n*s+x.2) x.1) cells)
   (fun j p hj=>by have:=hp (j+1) p (by simpa using hj);exact⟨O,this.2⟩) (by rw[hsz,<-hs];simp only[qD];congr 1;omega)
  refine⟨r,?_,?_⟩
  .simp only[Instr.fill];rw[Z7 (by simp[h2];omega)];exact hr
  .rw[hrl,hfold];have:(zar cells.toList (n*s) v.cells.toList).take ((n+1)*s)=cells.toList.take (n*s)++v.cells.toList:=by
    unfold zar;have e:(n+1)*s=(cells.toList.take (n*s)++v.cells.toList).length :=by
     simp[h2,q4];omega
    rw[e,List.take_append_of_le_length OC,List.take_length]
   rw[this];simp
theorem zpi{s:Nat}:∀(parts:List (List Value))(j q:Nat)(p:List Value),(∀p∈parts,p.length=s)->parts[j]? =some p->q<s->(parts.flatten)[j*s+q]? =p[q]?
 | [],j,_,p,_,h,_=>by simp at h
 |p0::parts,0,q,p,hs,h,hq=>by
  simp at h;subst h;rw[qB,qF,qG,q2 (by rw[hs p0 OC];exact hq)]
 |p0::parts,j+1,q,p,hs,h,hq=>by
  have h0:=hs p0 OC;rw[qB,q1 (by rw[h0,q4];omega),h0];have:(j+1)*s+q-s=j*s+q:=by rw[q4];omega
  rw[this];exact zpi parts j q p (fun p hp=>hs p (by simp[hp])) (by simpa using h) hq
section
variable {P:Program} {T:Tab} {F:Wf} {C:Con} {c:Ctx} {o:Oper} {Y:St} {a:Act} {w:World} {E:AV->List Blk->Prop} {ids:List Nat} {bs:List Blk} {dst:Nat}
theorem zo3{ρ:Operand->AV}:∀ {parts:List (Nat×Operand)}(i:Nat){u:AV},(zml ρ parts)[i]? =some u->∃p,parts[i]? =some p/\ρ p.2=u
 | [],i,u,h=>by simp[zml]at h
 |(n,x)::parts,0,u,h=>by simp[zml]at h;exact⟨(n,x),OC,h⟩
 |(n,x)::parts,i+1,u,h=>by
  simp only[zml,List.getElem?_cons_succ]at h;obtain⟨p,h1,h2⟩:=zo3 i h;exact⟨p,by simpa using h1,h2⟩
theorem zd3{ρ:Operand->AV}:∀ {parts:List (Nat×Operand)},(zml ρ parts).length =parts.length
 | []=>rfl
 |(n,x)::parts=>by simp[zml,zd3]
theorem zgu:∀ {parts:List (Nat×Operand)}{n:Nat},zj9 n parts=true->∀(j:Nat)(p:Nat×Operand),parts[j]? =some p->p.1=n+j
 | [],n,_,j,p,h=>by simp at h
 |(i,x)::parts,n,h,j,p,hp=>by
  simp only[zj9]at h;split at h
  .rename_i e;have e:=(zd _ _).1 e
   cases j with
   |zero=>simp at hp;subst hp;simp;omega
   |succ j=>have:=zgu h j p (by simpa using hp);omega
  .simp at h
theorem zf7{w':World}{M:Nat->Prop}{k:Elt}{xs:List k.T}{cs:Array Value}{Ty:TypeId}{b:Nat}(hM:¬M b)(hb:w'.heap[b]? =some (.cells cs Ty (0,0)))
 (h:∀(i:Nat)(x:k.T),xs[i]? =some x->∀(q:Nat)(u:AV),(k.cells x)[q]? =some u->∃v,cs[i*k.size+q]? =some v/\Leaf (zo w' M) u v) (hl:∀(i:Nat)(x:k.T),xs[i]? =some x->(i+1)*k.size<=cs.size):
 ∀(i:Nat)(x:k.T),xs[i]? =some x->At (zo w' M) k x b (0+i*k.size):=by
 intro i x hx;refine .mk k x b _ (fun j=>cs.getD (i*k.size+j) undef) (fun j hj=>?_) (fun j u hu=>?_)
 .have hlt:i*k.size+j<cs.size:=by have:=hl i x hx;rw[q4]at this;omega
  refine⟨cs,Ty,(0,0),⟨hM,hb⟩,?_⟩;rw[qG];simp[hlt]
 .obtain⟨v,hv,hlf⟩:=h i x hx j u hu;have:cs.getD (i*k.size+j) undef=v:=by
   simp[hv]
  rw[this];exact hlf
theorem zhz(hT:TabOK P T)(h:Rel c Y a w){t:TypeId}{n:Nat}{parts:Array (Nat×Operand)}(ho:o.op=.buildSlice t (n+1) parts)
 (he:qo T C (.buildSlice t (n+1) parts) dst (zm Y.sl) ids bs E):Snd P F T c o Y a w E:=by
 have hw:wr o.op=false:=by simp[wr,ho]
 simp only[qo]at he;obtain⟨i,hmem,he⟩:=qu _ _ _ he;have hi:=hT.ti _ _ hmem;split at he
 .rename_i sz fs e esz len k0 ik z by_ eq;obtain⟨hu,inf,hinf,hsz⟩:=hi.slice rfl;simp only at hu hinf hsz;obtain⟨j,hmj,he⟩:=qu _ _ _ he;have hj:=hT.ti _ _ hmj;obtain⟨inf',zv,hinf',hq1,hq2,hz,hq3,hq4⟩:=hj.inf;rw[hinf]at hinf';cases hinf'
  split at he
  .rename_i kk _ _ _ _;split at he
   .rename_i he1 he2;have he1:=(zd _ _).1 he1;split at he
    .rename_i ho1 ho2 ho3;have ho2:=(zd _ _).1 ho2;have ho3:=Nat.le_of_ble_eq_true ho3;obtain⟨xs,hE,hxl,hx⟩:=zgj _ he;obtain⟨M,pt,ow,S,hg,hs,hr⟩:=h.own;have hpos:=Elt.size_pos kk
     let vparts:List (Nat×Value):=parts.toList.map fun x=>(x.1,a.eval x.2)
     have hcell:∀(j:Nat)(p:Nat×Operand),parts.toList[j]? =some p->∀ρ,Rs ρ Y.sl a.tmps.toList->∃x,xs[j]? =some x/\jz ρ.V (kk.cells x) (a.eval p.2).cells.toList :=by
      intro j p hp ρ hρ;have hjl:j<parts.toList.length:=(q0.1 hp).1;have hjx:j<xs.length:=by rw[hxl,zd3];exact hjl
      have hmv:(zml (zm Y.sl) parts.toList)[j]? =some (zm Y.sl p.2):=by
       have hjm:j<(zml (zm Y.sl) parts.toList).length :=by rw[zd3];exact hjl
       have h0:(zml (zm Y.sl) parts.toList)[j]? =some (zml (zm Y.sl) parts.toList)[j]:=by simp[hjm]
       obtain⟨p',hp',hpe⟩:=zo3 j h0;rw[hp]at hp';cases hp'
       rw[h0,hpe]
      exact⟨xs[j],by simp[hjx],hx j _ _ hmv (by simp[hjx]) ρ _ (zc hρ p.2)⟩
     have hvp:∀(j:Nat)(p:Nat×Value),vparts[j]? =some p->p.1=0+j/\p.2.cells.size=kk.size:=by
      intro j p hp;simp only[vparts,qC]at hp
      cases hq:parts.toList[j]? with
      |none=>rw[hq]at hp;simp at hp
      |some q=>
       rw[hq]at hp;simp at hp;subst hp;obtain⟨x,_,hlf⟩:=hcell j q hq _ hr;refine⟨zgu ho1 j q hq,?_⟩;have:=hlf.1;rw[qn]at this;simpa using this.symm
     have hlenp:vparts.length=n+1:=by simp only[vparts,List.length_map];exact ho2
     obtain⟨r,hfill,hrl⟩:=zhd kk.size vparts 0 ((Array.range ((n+1)*kk.size)).map (zv.cells[· % zv.cells.size]!)) hvp (by simp[hlenp]);simp only[qF,List.take_zero,List.nil_append]at hrl;have hrl':r.toList=(vparts.map fun p=>p.2.cells.toList).flatten :=by rw[hrl,List.flatMap_def]
     have hall:∀p∈vparts.map (fun p=>p.2.cells.toList),p.length=kk.size:=by
      intro p hp;obtain⟨q,hq,rfl⟩:=List.mem_map.1 hp;obtain⟨j,hj⟩:=List.getElem?_of_mem hq;simpa using(hvp j q hj).2
     have hrsz:r.size=(n+1)*kk.size:=by
      have hl:∀(L:List (List Value)),(∀p∈L,p.length=kk.size)->L.flatten.length=L.length*kk.size:=by
       intro L
       induction L with
       |nil=>simp
       |cons p L ih=>intro h;simp[ih (fun p hp=>h p (by simp[hp])),h p OC,q4];omega
      have:=hl _ hall;rw[<-hrl']at this;simpa[hlenp]using this
     have hrun:(execOp a.eval o).run P w=.ok (.value (.slice (some ⟨w.heap.size,0,none⟩) (n+1) (n+1))) (w.alloc (.cells r e)):=by
      have hmap:(parts.map fun(x:Nat×Operand)=>(x.1,a.eval x.2)).toList =vparts:=by simp[vparts]
      have:=run_buildSlice (P:=P) w t e (n+1) (parts.map fun(x:Nat×Operand)=>(x.1,a.eval x.2)) r inf zv hu hinf hz (by rw[hsz,he1];omega) (by rw[hsz,he1];exact Nat.ne_of_gt (Nat.mul_pos (Nat.succ_pos n) hpos))
       (by rw[hmap,hsz,he1];exact hfill)
      simp only[execOp,ho,Sem.run_bind,this,Result.andThen_ok,Sem.run_pure]
     have hxn:xs.length=n+1:=by rw[hxl,zd3];exact ho2
     refine⟨_,[],hE,fun Q=>ur hrun (h.valExt (Ext.alloc w _) o _ _ _ _ hw fun M' pt' ow' S' hg' hs' pt'' ow'' hag=>?_)⟩;have hnM:¬M' w.heap.size:=fun h=>by have:=hg'.fresh _ h;omega
     have hnew:(w.alloc (.cells r e)).heap[w.heap.size]? =some (.cells r e (0,0)):=by
      show(w.heap.push _)[w.heap.size]? =_;simp
     simp only[R];refine .sl kk xs _ _ _ w.heap.size 0 hxn.symm (Nat.le_refl _) ?_ (fun _=>rfl) (zf7 hnM hnew ?_ ?_)
     .unfold maxLen;have:n+1<=1000:=Nat.le_trans (Nat.le_mul_of_pos_right _ hpos) ho3;omega
     .intro j x hx q u hu;have hjl:j<parts.toList.length:=by
       have:=(q0.1 hx).1;rw[hxl,zd3]at this;exact this
      obtain⟨x',hx',hlf⟩:=hcell j parts.toList[j] (by simp[hjl]) _ (hs' pt'' ow'' hag).1;rw[hx]at hx';cases hx'
      have hq:q<kk.size:=by have:=(q0.1 hu).1;rwa [qn]at this
      have hql:q<(a.eval parts.toList[j].2).cells.toList.length :=by rw[<-hlf.1,qn];exact hq
      refine⟨(a.eval parts.toList[j].2).cells.toList[q],?_,((hlf.2 q u _ hu (q3 hql)).mono (zdn (Ext.alloc w _)))⟩;have hpj:(vparts.map fun p=>p.2.cells.toList)[j]? =some (a.eval parts.toList[j].2).cells.toList :=by
       simp only[vparts,qC,q3 hjl,Option.map_some]
      have:=zpi _ j q _ hall hpj hq;rw[<-hrl']at this;have e2:r[j*kk.size+q]? =r.toList[j*kk.size+q]? :=OC;rw[e2,this];exact q3 hql
     .intro j x hx;have:=(q0.1 hx).1;rw[hrsz];exact qA _ O
    .exact he.elim
   .exact he.elim
  .exact he.elim
 .exact he.elim
end
