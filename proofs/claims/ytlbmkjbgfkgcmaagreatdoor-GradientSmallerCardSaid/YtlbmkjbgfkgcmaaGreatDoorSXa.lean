/- The natural extension contains exact values, and is isotone. -/
import Derived.Test.YtlbmkjbgfkgcmaaGreatDoorSYl
set_option linter.all false
open Rat renaming le_refl->q0
namespace Go.Proofs.YtlbmkjbgfkgcmaaGreatDoor
open Go Go.Sx
set_option maxHeartbeats 2000000
inductive All2{α β:Type}(R:α->β->Prop):List α->List β->Prop
 |nil:All2 R [] []
 |cons {a b l m}:R a b->All2 R l m->All2 R (a::l) (b::m)
theorem ztq(r:Rt){p:Int}(hp:pcB p=true):VI (zuz r p)/\(rOk r=true->inI (rv r) (zuz r p)):=by
 unfold zuz;by_cases h:rOk r=true
 .rw[Z6 h];have hb:=zrq h;unfold rIn at hb;have vn:=wl r.n O;have vd:=wl r.d O;have hd:dv (wo r.d)≠0:=by
   rw[yn];exact qdm O
  have R:=zlj vn vd (zv2 hd) (qn hp);have e:dv (wo r.n)/dv (wo r.d)=rv r:=by rw[yn,yn];rfl
  rw[e]at R;have hc:CI (qy (kp (wo r.n) (wo r.d) p.toNat false) (kp (wo r.n) (wo r.d) p.toNat true)):=uk (xu _ _ _ _ (qn hp)) (xu _ _ _ _ (qn hp));exact⟨zrn R R hc q0,fun _=>rt_in R R q0 q0⟩
 .rw[Z7 h];exact⟨.inr rfl,fun c=>absurd c h⟩
theorem zj7{x:Iv}(h:VI x):uf x x:=by
 rcases h with k|rfl
 .exact .inr ⟨k.all,k.all,q0,q0⟩
 .exact .inl rfl
theorem zI_VI:VI zI:=.inl ⟨rfl,qq,qq,OA⟩
theorem qfr{fx:Int->Iv->Int->Iv}{k:Int}(hk:Ka k){n p:Int}{x y:Iv}(hx:VI x)(hy:VI y)(hp:pcB p=true):VI (apI fx k n x y p):=by
 rcases hk with rfl|rfl|rfl|rfl|rfl|rfl|rfl
 .exact zuc hx hy hp
 .exact qc6 hx hy hp
 .exact zx4 hx hy hp
 .exact zju hx hy hp
 .exact zhv hx
 .exact zr1 hx hp
 .exact zzg hx hp
theorem qfq{fx:Int->Iv->Int->Iv}{k:Int}(hk:Ka k){n p:Int}{x y x' y':Iv}(hx:VI x)(hy:VI y)(hx':VI x')(hy':VI y')(hp:pcB p=true)(h1:uf x x')(h2:uf y y'):uf (apI fx k n x y p) (apI fx k n x' y' p):=by
 rcases hk with rfl|rfl|rfl|rfl|rfl|rfl|rfl
 .exact zua hx hy hx' hy' hp h1 h2
 .exact zze hx hy hx' hy' hp h1 h2
 .exact qae hx hy hx' hy' hp h1 h2
 .exact zwx hx hy hx' hy' hp h1 h2
 .exact zmj hx hx' h1
 .exact zrz hx hx' hp h1
 .exact zva hx hx' hp h1
theorem zg6{α β:Type}{R:α->β->Prop}{l:List α}{m:List β}(h:All2 R l m):l.length=m.length:=by
 induction h with
 |nil=>rfl
 |cons _ _ ih=>simp[ih]
def zpz(x y:Iv):Bool:=(viB x&&viB y)&&(y.all||(!x.all&&decide (qd y.lo x.lo<=0)&&decide (qd x.hi y.hi<=0)))
theorem qar{x y:Iv}(hx:VI x)(hy:VI y)(h:uf x y):zpz x y=true:=by
 unfold zpz;rw[(yg hx.ri).2 hx,(yg hy.ri).2 hy];rcases h with h|⟨h1,_,h2,h3⟩
 .simp[h]
 .simp[h1,ui.2 h2,ui.2 h3]
set_option maxRecDepth 100000
set_option maxHeartbeats 8000000
def T8:Tab:= {T6 with nb:=(18,1)::T6.nb,gl:=T6.gl}
theorem hT8:TabOK Tryz.prog T8:=zew Z Z
theorem fY8{f:Nat}{fn:Func}{c:Code}(a:Tryz.prog.funcs[f]?=some fn)(b:fn.body=some c){H H':Hp}{A:List AV}{r:AV}{X:Prop}(k:X)(d:(fn.name == "runtime.NumGoroutine")=false:=by first|rfl)(e:(fnC T8 [] c fn.ntmps H A H' fun Y=>zaq T8 (CN Tryz.prog) c true Y (fun Y=>zem T8 fn.results.toList [] r H' Y) (fun _ _=>False) (fun Y=>zem T8 fn.results.toList [] r H' Y))=X:=by conv=>lhs;whnf):zhk Tryz.prog f H A r H':=fnT hT8 hmx a b d (e.mpr k)
theorem fZ8{f:Nat}{fn:Func}{c:Code}(a:Tryz.prog.funcs[f]?=some fn)(b:fn.body=some c)(d:(fn.name == "runtime.NumGoroutine")=false){H H':Hp}{A:List AV}{r:AV}(h:fnC T8 [] c fn.ntmps H A H' fun Y=>zaq T8 (CN Tryz.prog) c true Y (fun Y=>zem T8 fn.results.toList [] r H' Y) (fun _ _=>False) (fun Y=>zem T8 fn.results.toList [] r H' Y)):zhk Tryz.prog f H A r H':=fnT hT8 hmx a b d h
theorem x13(l:List Iv)(hl:l.length<=1000000)(h0:l≠ []):Fn 18 [] [.sl .iv l] (.own 2000000) [(2000000,.buf 48 .iv l)]:=by
 refine fnT hT8 hmx Tryz.func18 rfl rfl (ex:= [7]) ?_;conv=>whnf
 refine⟨fun h=>absurd h h0,fun _=>?_⟩;conv=>whnf
 refine⟨OE,?_⟩;conv=>whnf
 exact⟨lr rfl,lh1 (bb0 OC) lh0⟩
theorem x15(x y:Iv)(hx:RI x)(hy:RI y)(vx:VI x)(vy:VI y):Fn 24 [] [.agg (ivC x),.agg (ivC y)] (.bool (zpz x y)) []:=by
 have hA:zpz x y=((viB x&&viB y)&&(y.all||(!x.all&&decide (qd y.lo x.lo<=0)&&decide (qd x.hi y.hi<=0)))):=rfl;have h1:=i51 x hx;have h2:=i51 y hy;rw[(yg hx).2 vx]at hA h1;rw[(yg hy).2 vy]at hA h2;generalize zpz x y=A at hA⊢;by_cases ay:y.all=true
 .rw[ay]at hA;simp at hA;subst hA;clear hx hy vx vy;obtain⟨⟨x1,x2,x3⟩,⟨x4,x5,x6⟩,x7⟩:=x;obtain⟨⟨y1,y2,y3⟩,⟨y4,y5,y6⟩,y7⟩:=y;obtain rfl:y7=true:=ay;have h1:Fn 52 [] [.agg [.bool x1,.sl .u32 x2,.int .i64 x3,.bool x4,.sl .u32 x5,.int .i64 x6,.bool x7]] (.bool true) []:=h1;have h2:Fn 52 [] [.agg [.bool y1,.sl .u32 y2,.int .i64 y3,.bool y4,.sl .u32 y5,.int .i64 y6,.bool true]] (.bool true) []:=h2;show Fn 24 [] [.agg [.bool x1,.sl .u32 x2,.int .i64 x3,.bool x4,.sl .u32 x5,.int .i64 x6,.bool x7],.agg [.bool y1,.sl .u32 y2,.int .i64 y3,.bool y4,.sl .u32 y5,.int .i64 y6,.bool true]] _ [];refine fY8 Tryz.func24 rfl ?_;refine gYn h1 ?_;refine gYn h2 ?_;exact⟨lr rfl,lh0⟩
 have ky:=(zqk vy).1 (by simpa using ay);have ay:y.all=false:=ky.all;by_cases ax:x.all=true
 .rw[ax,ay]at hA;simp at hA;subst hA;clear hx hy vx vy ky;obtain⟨⟨x1,x2,x3⟩,⟨x4,x5,x6⟩,x7⟩:=x;obtain⟨⟨y1,y2,y3⟩,⟨y4,y5,y6⟩,y7⟩:=y;obtain rfl:y7=false:=ay;obtain rfl:x7=true:=ax;have h1:Fn 52 [] [.agg [.bool x1,.sl .u32 x2,.int .i64 x3,.bool x4,.sl .u32 x5,.int .i64 x6,.bool true]] (.bool true) []:=h1;have h2:Fn 52 [] [.agg [.bool y1,.sl .u32 y2,.int .i64 y3,.bool y4,.sl .u32 y5,.int .i64 y6,.bool false]] (.bool true) []:=h2;show Fn 24 [] [.agg [.bool x1,.sl .u32 x2,.int .i64 x3,.bool x4,.sl .u32 x5,.int .i64 x6,.bool true],.agg [.bool y1,.sl .u32 y2,.int .i64 y3,.bool y4,.sl .u32 y5,.int .i64 y6,.bool false]] _ [];refine fY8 Tryz.func24 rfl ?_;refine gYn h1 ?_;refine gYn h2 ?_;exact⟨lr rfl,lh0⟩
 have kx:=(zqk vx).1 (by simpa using ax);have ax:x.all=false:=kx.all;have c1:=v81 ky.lo kx.lo;have c2:=v81 kx.hi ky.hi;rw[ax,ay]at hA;generalize qd y.lo x.lo=C at hA c1;generalize qd x.hi y.hi=D at hA c2;clear hx hy vx vy kx ky;obtain⟨⟨x1,x2,x3⟩,⟨x4,x5,x6⟩,x7⟩:=x;obtain⟨⟨y1,y2,y3⟩,⟨y4,y5,y6⟩,y7⟩:=y;obtain rfl:y7=false:=ay;obtain rfl:x7=false:=ax;have h1:Fn 52 [] [.agg [.bool x1,.sl .u32 x2,.int .i64 x3,.bool x4,.sl .u32 x5,.int .i64 x6,.bool false]] (.bool true) []:=h1;have h2:Fn 52 [] [.agg [.bool y1,.sl .u32 y2,.int .i64 y3,.bool y4,.sl .u32 y5,.int .i64 y6,.bool false]] (.bool true) []:=h2;have c1:Fn 53 [] [.agg [.bool y1,.sl .u32 y2,.int .i64 y3],.agg [.bool x1,.sl .u32 x2,.int .i64 x3]] (.int .i64 C) []:=c1;have c2:Fn 53 [] [.agg [.bool x4,.sl .u32 x5,.int .i64 x6],.agg [.bool y4,.sl .u32 y5,.int .i64 y6]] (.int .i64 D) []:=c2;show Fn 24 [] [.agg [.bool x1,.sl .u32 x2,.int .i64 x3,.bool x4,.sl .u32 x5,.int .i64 x6,.bool false],.agg [.bool y1,.sl .u32 y2,.int .i64 y3,.bool y4,.sl .u32 y5,.int .i64 y6,.bool false]] _ [];refine fY8 Tryz.func24 rfl ?_;refine gYn h1 ?_;refine gYn h2 ?_;refine gYn c1 ?_;refine brI (fun k1=>?_) (fun k1=>?_)
 .have k1:=Z0 k1;conv=>whnf
  refine gYn c2 ?_;exact⟨ab0 (by rw[hA,Z8 k1];simp),lh0⟩
 .have k1:=Z3 k1;conv=>whnf
  exact⟨ab0 (by rw[hA,Z9 k1];simp),lh0⟩
theorem y247(l:List Int)(hl:l.length<=1000000):Fn 158 [] [.sl .u32 l] (.sl .u32 (trL l)) []:=by
 refine fY4 Tryz.func158 rfl ?_;refine⟨Nat,fun n=>n<=l.length/\trN l n=trN l l.length,fun n=> [(3,.int .i64 n)],fun _=> [],fun n=>n,l.length,⟨Nat.le_refl _,rfl⟩,?_,fun n hn=>?_⟩
 .exact KZ0
 refine gYe ?_;obtain⟨hn1,hn2⟩:=hn;refine brI (fun h1=>?_) (fun h1=>?_)
 .have h1:0<n:=by simp only[Z4]at h1;omega
  obtain⟨m,rfl⟩:∃m,n=m+1:=⟨n-1,O⟩;have hw:IntKind.i64.wrap (((m+1:Nat):Int)-1)=(m:Int):=by rw[wI O];omega
  conv=>whnf
  rw[hw];refine⟨⟨O,O⟩,fun x hx=>?_⟩;have hx:l[m]? =some x:=by simpa using hx
  simp only[trN,hx,Option.getD_some]at hn2;conv=>whnf
  refine brI (fun h2=>?_) (fun h2=>?_)
  .have h2:x=0:=by simpa using h2
   rw[Z6 h2]at hn2;conv=>whnf
   refine⟨m,⟨O,hn2⟩,by show m<m+1;omega,?_⟩;exact KZ0
  .have h2:¬x=0:=by simpa using h2
   rw[Z7 h2]at hn2;conv=>whnf
   refine⟨⟨O,O,O⟩,?_⟩;conv=>whnf
   refine⟨OE,?_⟩;conv=>whnf
   exact⟨ju (by rw[trL,<-hn2];try simp),lh0⟩
 .have h1:n=0:=by simp only[Z5]at h1;omega
  subst h1;simp only[trN]at hn2;conv=>whnf
  refine⟨⟨O,O,O⟩,?_⟩;conv=>whnf
  refine⟨OC,?_⟩;conv=>whnf
  exact⟨ju (by rw[trL,<-hn2];try simp),lh0⟩
theorem y59(a:List Int)(ha:a.length<9223372036854775808):Fn 156 [] [.sl .u32 a,.sl .u32 a] (.int .i64 0) []:=by
 refine fY4 Tryz.func156 rfl ?_;refine brI (fun h1=>?_) (fun _=>?_)
 .have h1:((a.length:Int) != (a.length:Int))=true:=h1;simp at h1
 conv=>whnf
 refine⟨Nat,fun n=>n<=a.length,fun n=> [(5,.int .i64 (n-1))],fun _=> [],fun n=>n,a.length,Nat.le_refl _,?_,fun n hn=>?_⟩
 .exact KZ0
 refine gYe ?_;refine brI (fun h1=>?_) (fun h1=>?_)
 .have h1:0<n:=by simp only[Z4]at h1;omega
  obtain⟨m,rfl⟩:∃m,n=m+1:=⟨n-1,O⟩;have hm:(((m+1:Nat):Int)-1)=m:=O;conv=>whnf
  rw[hm];refine⟨⟨O,O⟩,fun x hx=>?_⟩;have hx:a[m]? =some x:=by simpa using hx
  conv=>whnf
  refine⟨⟨O,O⟩,fun y hy=>?_⟩;have hy:a[m]? =some y:=by simpa using hy
  obtain rfl:x=y:=by rw[hx]at hy;exact Option.some.inj hy
  conv=>whnf
  refine gYd ?_;refine brI (fun h2=>by simp at h2) (fun _=>?_);conv=>whnf
  refine⟨⟨O,O⟩,fun x' hx'=>?_⟩;have hx':a[m]? =some x':=by simpa using hx'
  conv=>whnf
  refine⟨⟨O,O⟩,fun y' hy'=>?_⟩;have hy':a[m]? =some y':=by simpa using hy'
  obtain rfl:x'=y':=by rw[hx']at hy';exact Option.some.inj hy'
  conv=>whnf
  refine gYd ?_;refine brI (fun h2=>by simp at h2) (fun _=>?_);conv=>whnf
  refine⟨m,by show m<=a.length;omega,by show m<m+1;omega,?_⟩;exact KZ0
 .conv=>whnf
  exact⟨lr rfl,lh0⟩
def sgR(d:Dy):Int:=if d.m.length=0 then 0 else if d.neg=true then-1 else 1
