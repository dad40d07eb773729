/- The natural extension contains exact values, and is isotone. -/
import Derived.Test.YtbolipecnhlnnaaGreatDoorLYl
import Derived.Scope
import Derived.ControlIn
set_option linter.all false
open Rat renaming mul_nonneg->q0,le_trans->q1,le_refl->q2,not_le->q3,le_of_lt->q4,neg_neg->q5
namespace Go.Proofs.YtbolipecnhlnnaaGreatDoor
open Go Go.Sx
set_option maxHeartbeats 2000000
theorem zI_VI:VI zI:=.inl ⟨rfl,qf,qf,OA⟩
def bI(B:Rat)(x:Iv):Prop:=VI x/\(x.all=true\/(-B<=dv x.lo/\dv x.hi<=B))
theorem bI_w(B:Rat):bI B wI0:=⟨.inr rfl,.inl rfl⟩
theorem ztq{a b:Int}(h:a<b):pw a<pw b:=q3.1 fun c=>by have:=zat.1 c;omega
theorem pwF{p:Nat}{t:Int}(h1: -16384<=t)(h2:t<16384):inF p (pw t):=⟨1,t,(zgy t).symm,Nat.one_le_two_pow,h1,ztq h2⟩
theorem yz(t:Int):0<=pw t:=q4 (zb2 t)
theorem ziu{d:Dy}(h:VD d):KI (zx d):=⟨rfl,h,h,jl.2 q2⟩
theorem ut{a b B C:Rat}(h1: -B<=a)(h2:a<=B)(h3: -C<=b)(h4:b<=C): -(B*C)<=a*b/\a*b<=B*C:=by
 have m1:=q0 (show 0<=B-a by grind) (show 0<=C+b by grind);have m2:=q0 (show 0<=B+a by grind) (show 0<=C-b by grind);have m3:=q0 (show 0<=B-a by grind) (show 0<=C-b by grind);have m4:=q0 (show 0<=B+a by grind) (show 0<=C+b by grind);constructor<;>grind
theorem zru{p:Nat}{op:Rat->Rat->Rat}{dn up:Dy->Dy->Dy×Int}{x y:Iv}(f:F4 p op dn up x y){b:Rat}(hb:inF p b)(h:zmt op x y (fun z=> -b<=z/\z<=b))(ha:(ja dn up x y).all =false):
 -b<=dv (ja dn up x y).lo /\dv (ja dn up x y).hi <=b:=by
 obtain⟨_,_,h3,h4,_,_⟩:=zms ha;obtain⟨a1,a2,a3,a4⟩:=h;have hn:Fp p (-b):=.inr (by rw[q5];exact hb);have hp:Fp p b:=.inl hb;exact⟨h3 (-b) (f.rt1.1.2 (-b) hn a1.1).2 (f.rt2.1.2 (-b) hn a2.1).2 (f.rt3.1.2 (-b) hn a3.1).2 (f.rt4.1.2 (-b) hn a4.1).2,
  h4 b (f.rt1.2.2 b hp a1.2).2 (f.rt2.2.2 b hp a2.2).2 (f.rt3.2.2 b hp a3.2).2 (f.rt4.2.2 b hp a4.2).2⟩
theorem bI.ends{B:Rat}{x:Iv}(h:bI B x)(k:KI x):(-B<=dv x.lo/\dv x.lo<=B)/\(-B<=dv x.hi/\dv x.hi<=B):=by
 rcases h.2 with c|⟨c1,c2⟩
 .rw[k.all]at c;cases c
 .have:=k.dle;exact⟨⟨c1,q1 this c2⟩,⟨q1 c1 this,c2⟩⟩
theorem znd{B C:Rat}{x y:Iv}(hx:bI B x)(hy:bI C y){p:Int}(hp:pcB p=true)(hF:inF p.toNat (B*C)):bI (B*C) (kf x y p):=by
 refine⟨jg hx.1 hy.1 hp,?_⟩
 cases ha:(kf x y p).all with
 |true=>exact .inl rfl
 |false=>
  right;by_cases hk:KI x/\KI y
  .rw[zl8 hk.1 hk.2 hp]at ha⊢;obtain⟨⟨a1,a2⟩,⟨a3,a4⟩⟩:=hx.ends hk.1;obtain⟨⟨b1,b2⟩,⟨b3,b4⟩⟩:=hy.ends hk.2;exact zru (zl9 hk.1 hk.2 (vg hp)) hF ⟨ut a1 a2 b1 b2,ut a1 a2 b3 b4,ut a3 a4 b1 b2,ut a3 a4 b3 b4⟩ ha
  .rw[zx5 hx.1.ri hy.1.ri hk]at ha;cases ha
def whI(n:Int):Iv:=zx (zcb n)
theorem zfv{n:Int}(h: -4611686018427387904<=n/\n<=4611686018427387904):KI (whI n):=ziu (zjy n h)
theorem zi5{n:Int}(h:1<=n):(1:Rat)<=(n:Rat):=by
 have:=(Rat.intCast_le_intCast (a:=1) (b:=n)).2 h;simpa using this
theorem zrj{n:Rat}(h:1<=n): -1<=n⁻¹ /\n⁻¹ <=1:=by
 have h0:0<n:=by grind
 have hi:0<n⁻¹ :=Rat.inv_pos.2 h0;have hm:=Rat.mul_inv_cancel n (by grind);have:=q0 (show 0<=n-1 by grind) (q4 hi);constructor<;>grind
theorem qey{B:Rat}{x:Iv}(hx:bI B x){n:Int}(h1:1<=n)(h2:n<=4611686018427387904){p:Int}(hp:pcB p=true)(hF:inF p.toNat B):bI B (ze9 x (whI n) p):=by
 have kn:=zfv (n:=n) O;have hn:=zi5 h1;have e:dv (whI n).lo =(n:Rat):=uo n;have e':dv (whI n).hi =(n:Rat):=uo n;have hs:0<dv (whI n).lo \/dv (whI n).hi <0:=.inl (by rw[e];grind);refine⟨zce hx.1 (.inl kn) hp,?_⟩
 cases ha:(ze9 x (whI n) p).all with
 |true=>exact .inl rfl
 |false=>
  right;by_cases hk:KI x
  .rw[zk7 hk kn hs hp]at ha⊢;obtain⟨⟨a1,a2⟩,⟨a3,a4⟩⟩:=hx.ends hk;obtain⟨i1,i2⟩:=zrj hn;have q:∀a:Rat,-B<=a->a<=B-> -B<=a/(n:Rat)/\a/(n:Rat)<=B:=fun a c1 c2=>by
    have:=ut c1 c2 i1 i2
    rwa [Rat.mul_one,<-Rat.div_def]at this
   refine zru (zql hk kn hs (vg hp)) hF ?_ ha;unfold zmt;rw[e,e'];exact⟨q _ a1 a2,q _ a1 a2,q _ a3 a4,q _ a3 a4⟩
  .rw[qbe hx.1.ri kn.ri fun c=>hk c.1]at ha;cases ha
theorem qjn{x:Iv}(h:CI x)(hd:x.all=false->dv x.lo<=dv x.hi):VI x:=by
 cases ha:x.all with
 |true=>
  rcases h with rfl|⟨c,_⟩
  .exact .inr rfl
  .rw[ha]at c;cases c
 |false=>exact .inl (qe7 h ha (hd ha))
theorem zze{B:Rat}{x:Iv}(hx:bI B x){p:Int}(hF:inF p.toNat B):bI B (ux x p):=by
 unfold ux;split
 .rename_i c;obtain⟨c1,hp⟩:=c;have k:=(qb hx.1.ri).1 c1;have R1:=yg k.lo (vg hp);have R2:=yg k.hi (vg hp);obtain⟨⟨a1,a2⟩,⟨a3,a4⟩⟩:=hx.ends k;refine⟨qcs R1 R2 (zle (zc3 _ _ _ (vg hp)) (zc3 _ _ _ (vg hp))) k.dle,?_⟩
  cases ha:(jc (wp x.lo p.toNat false) (wp x.hi p.toNat true)).all with
  |true=>exact .inl rfl
  |false=>
   right;rw[zb6 ha];exact⟨(R1.1.2 (-B) (.inr (by rw[q5];exact hF)) a1).2,(R2.2.2 B (.inl hF) a4).2⟩
 .exact bI_w B
theorem zcl{d:Dy}{k:Int}(h:(qg d k).2=0):dv (qg d k).1=dv d*pw k:=by
 unfold qg at h⊢;split at h
 .cases h
 .rename_i c;rw[Z5 c];unfold ckN at h⊢;split at h
  .rename_i c2;rw[Z4 c2,uf];have e:vN (nm d) (d.e+k)=vN (nm d) d.e*pw k:=by unfold vN;rw[pwA,Rat.mul_assoc]
   rw[e];unfold dv;split
   .grind
   .rfl
  .cases h
theorem zlc{B:Rat}{x:Iv}(hx:bI B x)(k:Int):bI (B*pw k) (zn x k):=by
 unfold zn;split
 .rename_i c1;have kx:=(qb hx.1.ri).1 c1;obtain⟨⟨a1,a2⟩,⟨a3,a4⟩⟩:=hx.ends kx;have hc:=zle (zqw x.lo k) (zqw x.hi k)
  cases ha:(jc (qg x.lo k) (qg x.hi k)).all with
  |true=>exact⟨qjn hc (fun c=>by rw[ha]at c;cases c),.inl ha⟩
  |false=>
   have e:=zb6 ha;obtain⟨o1,o2⟩:=um.1 ha;have e1:dv (jc (qg x.lo k) (qg x.hi k)).lo =dv x.lo*pw k:=by rw[e];exact zcl o1
   have e2:dv (jc (qg x.lo k) (qg x.hi k)).hi =dv x.hi*pw k:=by rw[e];exact zcl o2
   refine⟨qjn hc fun _=>by rw[e1,e2];exact qw kx.dle (yz k),.inr ?_⟩;rw[e1,e2];exact⟨by rw[<-Rat.neg_mul];exact qw a1 (yz k),qw a4 (yz k)⟩
 .exact bI_w _
theorem zub{B:Rat}{x:Iv}(hx:bI B x)(k:KI x):0<=dv (zdn x)/\dv (zdn x)<=B/\(zdn x).neg =false:=by
 obtain⟨⟨a1,a2⟩,⟨a3,a4⟩⟩:=hx.ends k;have hm:zdn x=xc (zge x.lo) (zge x.hi):=rfl;obtain⟨_,_,h3⟩:=zb3 (zge x.lo) (zge x.hi);rw[hm];rcases h3 with e|e<;>rw[e,zqi]
 .exact⟨qj _,by unfold qk;split<;>grind,rfl⟩
 .exact⟨qj _,by unfold qk;split<;>grind,rfl⟩
theorem qdi(a b:Dy):dv (za0 a b)<=dv a/\dv (za0 a b)<=dv b:=by
 unfold za0;by_cases h:qh a b<=0
 .rw[Z4 h];exact⟨q2,jl.1 h⟩
 .rw[Z5 h];exact⟨zf7.1 O,q2⟩
theorem qdc(a b:Dy):dv a<=dv (xc a b)/\dv b<=dv (xc a b):=by
 unfold xc;by_cases h:0<=qh a b
 .rw[Z4 h];exact⟨q2,zf7.1 h⟩
 .rw[Z5 h];exact⟨jl.1 O,q2⟩
theorem zut{x y:Iv}(hx:KI x)(hy:KI y):KI ⟨za0 x.lo y.lo,xc x.hi y.hi,false⟩:=
 ⟨rfl,zov hx.lo hy.lo,zid hx.hi hy.hi,jl.2 (q1 (qdi x.lo y.lo).1 (q1 hx.dle (qdc x.hi y.hi).1))⟩
theorem zky{x y:Iv}(hx:RI x)(hy:RI y):VI (zbr x y):=by
 unfold zbr;by_cases h:(kB x&&kB y)=true
 .rw[Z4 h];obtain⟨a,b⟩:=(zek hx hy).1 h;exact .inl (zut a b)
 .rw[Z5 h];exact .inr rfl
set_option maxRecDepth 100000
set_option maxHeartbeats 8000000
theorem qbm:bI (pw 0) (whI 1):=by
 refine⟨.inl (zfv OA),.inr ?_⟩;have e:dv (whI 1).lo =1:=uo 1;have e':dv (whI 1).hi =1:=uo 1;have e2:pw 0=1:=rfl;rw[e,e',e2];constructor<;>decide
theorem zte{a b c:Rat}(h:a<=b)(g:b<c):a<c:=q3.1 fun k=>q3.2 g (q1 k h)
theorem qbb{d:Dy}(h0:nm d≠0): -(pw (qd d))<=dv d/\dv d<=pw (qd d):=by
 have ht:qd d=bl (nm d)+d.e:=by unfold qd;rw[Z5 h0]
 have h1:=zdt (n:=nm d) (e:=d.e) (t:=qd d) O;have h2:=zdc (nm d) d.e;unfold dv;split<;>constructor<;>grind
theorem y247(l:List Int)(hl:l.length<=1000000):Fn 199 [] [.sl .u32 l] (.sl .u32 (trL l)) []:=by
 refine fZ4 Tryz.func199 rfl rfl ?_;conv=>whnf
 refine⟨Nat,fun n=>n<=l.length/\trN l n=trN l l.length,fun n=> [(3,.int .i64 n)],fun _=> [],fun n=>n,l.length,⟨Nat.le_refl _,rfl⟩,?_,fun n hn=>?_⟩
 .exact KZ0
 (refine⟨Z,?_⟩;(conv=>whnf))
 obtain⟨hn1,hn2⟩:=hn;refine brI (fun h1=>?_) (fun h1=>?_)
 .have h1:0<n:=by simp only[Z2]at h1;omega
  obtain⟨m,rfl⟩:∃m,n=m+1:=⟨n-1,O⟩;have hw:IntKind.i64.wrap (((m+1:Nat):Int)-1)=(m:Int):=by rw[wI O];omega
  conv=>whnf
  rw[hw];refine⟨⟨O,O⟩,fun x hx=>?_⟩;have hx:l[m]? =some x:=by simpa using hx
  simp only[trN,hx,Option.getD_some]at hn2;conv=>whnf
  refine brI (fun h2=>?_) (fun h2=>?_)
  .have h2:x=0:=by simpa using h2
   rw[Z4 h2]at hn2;conv=>whnf
   refine⟨m,⟨O,hn2⟩,by show m<m+1;omega,?_⟩;exact KZ0
  .have h2:¬x=0:=by simpa using h2
   rw[Z5 h2]at hn2;conv=>whnf
   refine⟨⟨O,O,O⟩,?_⟩;conv=>whnf
   refine⟨OE,?_⟩;conv=>whnf
   exact⟨qs (by rw[trL,<-hn2];try simp),lh0⟩
 .have h1:n=0:=by simp only[Z3]at h1;omega
  subst h1;simp only[trN]at hn2;conv=>whnf
  refine⟨⟨O,O,O⟩,?_⟩;conv=>whnf
  refine⟨OC,?_⟩;conv=>whnf
  exact⟨qs (by rw[trL,<-hn2];try simp),lh0⟩
def sgR(d:Dy):Int:=if d.m.length=0 then 0 else if d.neg=true then-1 else 1
