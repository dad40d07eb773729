/- The natural extension contains exact values, and is isotone. -/
import Derived.Test.YtbolipecnhlnnaaGreatDoorVYl
import Derived.Test.YtbolipecnhlnnaaGreatDoorVYe
set_option linter.all false
open List renaming mem_cons_self->q0,mem_cons->q1,drop_of_length_le->q2
namespace Go.Proofs.YtbolipecnhlnnaaGreatDoor
open Go Go.Sx
set_option maxHeartbeats 2000000
theorem zxf(r:Rt){p:Int}(hp:pcB p=true):VI (zkr r p)/\(rOk r=true->inI (rv r) (zkr r p)):=by
 unfold zkr;by_cases h:rOk r=true
 .rw[Z4 h];have hb:=zb9 h;unfold rIn at hb;have vn:=jl r.n O;have vd:=jl r.d O;have hd:dv (wl r.d)≠0:=by
   rw[kq];exact qjh O
  have R:=zgj vn vd (qac hd) (qk hp);have e:dv (wl r.n)/dv (wl r.d)=rv r:=by rw[kq,kq];rfl
  rw[e]at R;have hc:CI (vh (ui (wl r.n) (wl r.d) p.toNat false) (ui (wl r.n) (wl r.d) p.toNat true)):=uw (yj _ _ _ _ (qk hp)) (yj _ _ _ _ (qk hp));exact⟨zsz R R hc Rat.le_refl,fun _=>qe3 R R Rat.le_refl Rat.le_refl⟩
 .rw[Z5 h];exact⟨.inr rfl,fun c=>absurd c h⟩
theorem qib:VI zI:=.inl ⟨rfl,qg,qg,OA⟩
theorem ze5:∀ {l:List Ex}{x y:Ex},x∈l->y∈ue x->y∈zbx l
 |a::l,x,y,hx,hy=>by
  simp only[zbx,List.mem_append];rcases q1.1 hx with rfl|hx
  .exact .inl hy
  .exact .inr (ze5 hx hy)
def alg(k:Int):Prop:=k<=8\/k=13
theorem zoh:∀ {e:Ex},VT e->(∀y∈ue e,alg y.k)->VK Ka e
 | _,.num r h,_=>.num r h
 | _,.var s h,_=>.var s h
 | _,.un k a h1 h2,h=>.un k a (by
    have:alg k:=h (opE k 0 [a]) (by simp[ue,opE]);unfold alg at this;unfold K1 at h1;unfold Ka;omega) h1 (zoh h2 fun y hy=>h y (by
    simp only[opE,ue,q1];exact .inr (ze5 q0 hy)))
 | _,.pow n a h1 h2 h3,h=>.pow n a (by unfold Ka;omega) h1 h2 (zoh h3 fun y hy=>h y (by
    simp only[opE,ue,q1];exact .inr (ze5 q0 hy)))
 | _,.bin k a b h1 h2 h3,h=>.bin k a b (by
    unfold K2 at h1;unfold Ka;omega) h1 (zoh h2 fun y hy=>h y (by
    simp only[opE,ue,q1];exact .inr (ze5 q0 hy))) (zoh h3 fun y hy=>h y (by
    simp only[opE,ue,q1];exact .inr (ze5 (List.mem_cons_of_mem _ q0) hy)))
set_option maxRecDepth 100000
set_option maxHeartbeats 8000000
def T8:Tab:= {T6 with nb:=(43,1)::T6.nb,gl:=T6.gl}
theorem hT8:TabOK Tryz.prog T8:=zhv Z Z
theorem fY8{f:Nat}{fn:Func}{c:Code}(a:Tryz.prog.funcs[f]?=some fn)(b:fn.body=some c){H H':Hp}{A:List AV}{r:AV}{X:Prop}(k:X)(d:(fn.name == "runtime.NumGoroutine")=false:=by first|rfl)(e:(fnC T8 [] c fn.ntmps H A H' fun σ=>za3 T8 (CN Tryz.prog) c true σ (fun σ=>zjk T8 fn.results.toList [] r H' σ) (fun _ _=>False) (fun σ=>zjk T8 fn.results.toList [] r H' σ))=X:=by conv=>lhs;whnf):zmk Tryz.prog f H A r H':=fnT hT8 hmx a b d (e.mpr k)
theorem fZ8{f:Nat}{fn:Func}{c:Code}(a:Tryz.prog.funcs[f]?=some fn)(b:fn.body=some c)(d:(fn.name == "runtime.NumGoroutine")=false){H H':Hp}{A:List AV}{r:AV}(h:fnC T8 [] c fn.ntmps H A H' fun σ=>za3 T8 (CN Tryz.prog) c true σ (fun σ=>zjk T8 fn.results.toList [] r H' σ) (fun _ _=>False) (fun σ=>zjk T8 fn.results.toList [] r H' σ)):zmk Tryz.prog f H A r H':=fnT hT8 hmx a b d h
def lgV(x:Iv):Bool:=decide (20<x.lo.m.length)||decide (20<x.hi.m.length)
theorem x49(x:Iv):Fn 93 [] [.agg (ivC x)] (.bool (lgV x)) []:=by
 obtain⟨⟨x1,x2,x3⟩,⟨x4,x5,x6⟩,x7⟩:=x;obtain⟨A,hA⟩:∃A,lgV ⟨⟨x1,x2,x3⟩,⟨x4,x5,x6⟩,x7⟩=A:=⟨_,rfl⟩;rw[hA];simp only[lgV]at hA;show Fn 93 [] [.agg [.bool x1,.sl .u32 x2,.int .i64 x3,.bool x4,.sl .u32 x5,.int .i64 x6,.bool x7]] _ [];refine fY8 Tryz.func93 rfl ?_;refine brI (fun h1=>?_) (fun h1=>?_)
 .have h1:=Z0 h1;conv=>whnf
  exact⟨ab0 (by rw[<-hA,Z6 (O:20<x2.length)];rfl),lh0⟩
 .have h1:=Z1 h1;rw[Z7 (O:¬20<x2.length)]at hA;conv=>whnf
  refine⟨ab0 ?_,lh0⟩;rw[<-hA,Bool.false_or,Bool.eq_iff_iff,Z2,Z2];omega
theorem x104(l:List Iv)(hlen:l.length<9223372036854775808):Fn 118 [] [.sl .iv l,.fn 93 []] (.int .i64 (ixP lgV l 0)) []:=by
 refine fY8 Tryz.func118 rfl ?_;refine⟨Nat,fun i=>i<=l.length/\ixP lgV (l.drop i) i=ixP lgV l 0,fun i=> [(8,.int .i64 i)],fun _=> [],fun i=>l.length-i,0,⟨OC,rfl⟩,?_,fun i hi=>?_⟩
 .exact KZ0
 refine gYe ?_;obtain⟨hi1,hi2⟩:=hi;refine brI (fun h1=>?_) (fun h1=>?_)
 .conv=>whnf
  have hi:i<l.length:=by simp only[Z2]at h1;omega
  refine⟨⟨O,O⟩,fun(x:Iv)hx=>?_⟩;have hx:l[i]? =some x:=by simpa using hx
  rw[qe hx]at hi2;simp only[ixP]at hi2;have h49:=x49 x;generalize lgV x=B at h49 hi2;conv=>whnf
  refine cbI [] B h49 (fun h2=>?_) (fun h2=>?_)
  .conv=>whnf
   rw[Z4 h2]at hi2;exact⟨ai0 hi2,lh0⟩
  .conv=>whnf
   rw[Z5 (by rw[h2];simp)]at hi2;refine⟨i+1,⟨O,hi2⟩,by show l.length-(i+1)<l.length-i;omega,?_⟩;exact KZ0
 .conv=>whnf
  have hi:¬i<l.length:=by simp only[Z3]at h1;omega
  rw[q2 O]at hi2;exact⟨ai0 hi2,lh0⟩
theorem x48(l:List Iv)(hlen:l.length<9223372036854775808):Fn 50 [] [.sl .iv l,.fn 93 []] (.bool (l.any lgV)) []:=by
 refine fY8 Tryz.func50 rfl ?_;refine gYn (x104 l hlen) ?_;exact⟨ab0 (by rw[Bool.eq_iff_iff,Z2];exact zl1 lgV l 0),lh0⟩
def grB(ns:List zg)(xs:List Iv)(p:Int):Bool:=
 if 20<ns.length then true else if 20<xs.length then true else if 64<p/\p<=512 then true else xs.any lgV
theorem qf6{ns:List zg}{xs:List Iv}{p:Int}(h:grB ns xs p=false):ns.length<=20/\xs.length<=20/\∀x∈xs,x.lo.m.length<=20/\x.hi.m.length<=20:=by
 unfold grB at h;split at h
 .cases h
 split at h
 .cases h
 split at h
 .cases h
 refine⟨O,O,fun x hx=>?_⟩;have:=List.any_eq_false.1 h x hx;unfold lgV at this;simp only[Bool.or_eq_true,Z2,not_or]at this;omega
theorem x10(ns:List zg)(xs:List Iv)(p:Int)(h1:ns.length<9223372036854775808)(h2:xs.length<9223372036854775808):
 Fn 31 [] [.sl .str ns,.sl .iv xs,.int .i64 p] (.bool (grB ns xs p)) []:=by
 have h48:=x48 xs h2;obtain⟨A,hA⟩:∃A,grB ns xs p=A:=⟨_,rfl⟩;rw[hA];unfold grB at hA;generalize xs.any lgV=B at h48 hA;refine fY8 Tryz.func31 rfl ?_;refine brI (fun k1=>?_) (fun k1=>?_)
 .have k1:=Z0 k1;rw[Z4 O]at hA;conv=>whnf
  exact⟨ab0 hA,lh0⟩
 have k1:=Z1 k1;rw[Z5 O]at hA;conv=>whnf
 refine brI (fun k2=>?_) (fun k2=>?_)
 .have k2:=Z0 k2;rw[Z4 O]at hA;conv=>whnf
  exact⟨ab0 hA,lh0⟩
 have k2:=Z1 k2;rw[Z5 O]at hA;conv=>whnf
 refine brI (fun k3=>?_) (fun k3=>?_)
 .have k3:=Z0 k3;conv=>whnf
  refine brI (fun k4=>?_) (fun k4=>?_)
  .have k4:=Z0 k4;rw[Z4 O]at hA;conv=>whnf
   exact⟨ab0 hA,lh0⟩
  .have k4:=Z1 k4;rw[Z5 O]at hA;subst hA;conv=>whnf
   refine gYn h48 ?_;exact⟨lr rfl,lh0⟩
 .have k3:=Z1 k3;rw[Z5 O]at hA;subst hA;conv=>whnf
  refine gYn h48 ?_;exact⟨lr rfl,lh0⟩
instance (k:Int):Decidable (alg k):=inferInstanceAs (Decidable (_\/_))
def zya(l:List Ex):Bool:=l.all fun y=>decide (alg y.k)
theorem x12(e:Ex)(he:zgt e<=500):Fn 34 [] [.agg (exC e)] (.bool (zya (ue e))) []:=by
 have h42:=y42 e O;have hl:(ue e).length <=500:=by rw[zc3];exact he
 generalize ue e=l at h42 hl;cases e
 refine fY8 Tryz.func34 rfl ?_;refine gYn h42 ?_;refine⟨Nat,fun i=>i<=l.length/\zya (l.drop i)=zya l,fun i=> [(4,.int .i64 i)],fun _=> [],fun i=>l.length-i,0,⟨OC,OC⟩,?_,fun i hi=>?_⟩
 .exact KZ0
 refine gYe ?_;obtain⟨hi1,hi2⟩:=hi;refine brI (fun h1=>?_) (fun h1=>?_)
 .have hi:i<l.length:=by simp only[Z2]at h1;omega
  conv=>whnf
  refine⟨⟨O,O⟩,fun(x:Ex)hx=>?_⟩;have hx:l[i]? =some x:=by simpa using hx
  rw[qe hx]at hi2;simp only[zya,List.all_cons]at hi2;conv=>whnf
  refine brI (fun h2=>?_) (fun h2=>?_)
  .have h2:8<x.k:=Z0 h2;conv=>whnf
   refine⟨⟨O,O⟩,fun(x':Ex)hx'=>?_⟩;have hx':l[i]? =some x':=by simpa using hx'
   obtain rfl:x=x':=by rw[hx]at hx';exact Option.some.inj hx'
   conv=>whnf
   refine brI (fun h3=>?_) (fun h3=>?_)
   .have h3:(x.k != 13)=true:=h3;have h3:x.k≠13:=by simpa using h3
    rw[Z7 (show ¬alg x.k by unfold alg;omega)]at hi2;conv=>whnf
    exact⟨ab0 (by rw[zya,<-hi2];rfl),lh0⟩
   .have h3:(x.k != 13)=false:=h3;have h3:x.k=13:=by simpa using h3
    rw[Z6 (show alg x.k by unfold alg;omega)]at hi2;conv=>whnf
    refine⟨i+1,⟨O,by simpa[zya]using hi2⟩,by show l.length-(i+1)<l.length-i;omega,?_⟩;exact KZ0
  .have h2:¬8<x.k:=Z1 h2;rw[Z6 (show alg x.k by unfold alg;omega)]at hi2;conv=>whnf
   refine⟨i+1,⟨O,by simpa[zya]using hi2⟩,by show l.length-(i+1)<l.length-i;omega,?_⟩;exact KZ0
 .have hi:¬i<l.length:=by simp only[Z3]at h1;omega
  rw[q2 O]at hi2;conv=>whnf
  exact⟨ab0 hi2,lh0⟩
