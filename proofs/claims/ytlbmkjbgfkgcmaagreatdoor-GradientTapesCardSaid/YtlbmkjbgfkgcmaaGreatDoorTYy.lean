/- Intervals: less, more, magnitudes, Abs, Hull, Scale, Round, Sqrt, Width. -/
import Derived.Test.YtlbmkjbgfkgcmaaGreatDoorTYu
import Derived.Test.YtlbmkjbgfkgcmaaGreatDoorTVa
set_option linter.all false
open And renaming intro->q0
open Bool renaming and_eq_true->q2
open Int renaming toNat_natCast->q1
namespace Go.Proofs.YtlbmkjbgfkgcmaaGreatDoor
open Go Go.Sx
set_option maxRecDepth 100000
set_option maxHeartbeats 8000000
def xn(a b:Dy):Dy:=if wa a b<=0 then a else b
def uk(a b:Dy):Dy:=if 0<=wa a b then a else b
theorem i226{a b:Dy}(ha:VD a)(hb:VD b):Fn 106 [] [.agg (dyC a),.agg (dyC b)] (.agg (dyC (xn a b))) []:=by
 have h81:=v81 ha hb;have hR:xn a b=if wa a b<=0 then a else b:=rfl
 generalize xn a b=R at*;generalize wa a b=C at*;clear ha hb;refine fY6 Tryz.func106 rfl ?_;refine gYn h81 ?_;refine brI (fun h1=>?_) (fun h1=>?_)
 .have h1:C<=0:=Z0 h1;rw[hR,Z6 h1];conv=>whnf
  exact⟨lr rfl,lh0⟩
 .have h1:¬C<=0:=Z3 h1;rw[hR,Z7 h1];conv=>whnf
  exact⟨lr rfl,lh0⟩
theorem i227{a b:Dy}(ha:VD a)(hb:VD b):Fn 105 [] [.agg (dyC a),.agg (dyC b)] (.agg (dyC (uk a b))) []:=by
 have h81:=v81 ha hb;have hR:uk a b=if 0<=wa a b then a else b:=rfl
 generalize uk a b=R at*;generalize wa a b=C at*;clear ha hb;refine fY6 Tryz.func105 rfl ?_;refine gYn h81 ?_;refine brI (fun h1=>?_) (fun h1=>?_)
 .have h1:0<=C:=Z0 h1;rw[hR,Z6 h1];conv=>whnf
  exact⟨lr rfl,lh0⟩
 .have h1:¬0<=C:=Z3 h1;rw[hR,Z7 h1];conv=>whnf
  exact⟨lr rfl,lh0⟩
theorem zdi{a b:Dy}(ha:VD a)(hb:VD b):VD (xn a b):=by unfold xn;split<;>assumption
theorem zb2{a b:Dy}(ha:VD a)(hb:VD b):VD (uk a b):=by unfold uk;split<;>assumption
def ul(x:Iv):Dy:=uk (yq x.lo) (yq x.hi)
def zcw(x:Iv):Dy:=if zct x=0 then d0 else xn (yq x.lo) (yq x.hi)
theorem zb3{x:Iv}(k:KI x):VD (ul x):=zb2 (zb4 k.lo) (zb4 k.hi)
theorem zjb{x:Iv}(k:KI x):VD (zcw x):=by
 unfold zcw;split
 .exact qv
 .exact zdi (zb4 k.lo) (zb4 k.hi)
theorem qa0{h h':Hp}{b:Bool}:leA h h' (.tup [.agg [.bool false,.nilsl,.int .i64 0],.bool b]) (.tup [.agg (dyC d0),.bool b]):=lt0 (lc zyq (lc (lr rfl) ln0))
theorem i182(x:Iv)(h:RI x):Fn 232 [] [.agg (ivC x)] (.tup [.agg (dyC (if kB x=true then ul x else d0)),.bool (kB x)]) []:=by
 have h126:=zni [x] OC (by simpa using h);rw[k1]at h126;by_cases hk:kB x=true
 .have k:=(zw h).1 hk;rw[Z6 hk,hk];rw[hk]at h126;have n1:=qdf k.lo;have n2:=qdf k.hi;have n3:=i227 (zb4 k.lo) (zb4 k.hi);have hR:uk (yq x.lo) (yq x.hi)=ul x:=rfl;rw[hR]at n3;generalize ul x=M at*;generalize yq x.lo=a at*;generalize yq x.hi=b at*;clear k hk h hR;refine fY6 Tryz.func232 rfl ?_;refine gYn h126 ?_;refine gYn n1 ?_;refine gYn n2 ?_;refine gYn n3 ?_;refine gYd ?_;exact⟨lr rfl,lh0⟩
 .have hk:kB x=false:=by simpa using hk
  rw[hk,Z7 OC];rw[hk]at h126;clear hk h;refine fY6 Tryz.func232 rfl ?_;refine gYn h126 ?_;exact⟨qa0,lh0⟩
theorem i181(x:Iv)(h:RI x):Fn 231 [] [.agg (ivC x)] (.tup [.agg (dyC (if kB x=true then zcw x else d0)),.bool (kB x)]) []:=by
 have h126:=zni [x] OC (by simpa using h);have h134:=i134 x h;rw[k1]at h126;by_cases hk:kB x=true
 .have k:=(zw h).1 hk;rw[Z6 hk,hk];rw[hk]at h126;have n1:=qdf k.lo;have n2:=qdf k.hi;have n3:=i226 (zb4 k.lo) (zb4 k.hi);have hR:zcw x=if zct x=0 then d0 else xn (yq x.lo) (yq x.hi):=rfl
  generalize zcw x=M at*;generalize zct x=S at*;generalize xn (yq x.lo) (yq x.hi)=L at*;generalize yq x.lo=a at*;generalize yq x.hi=b at*;clear k hk h;refine fY6 Tryz.func231 rfl ?_;refine gYn h126 ?_;refine gYn h134 ?_;refine brI (fun h1=>?_) (fun h1=>?_)
  .have h1:S=0:=by simpa using h1
   rw[Z6 h1]at hR;subst hR;conv=>whnf
   exact⟨qa0,lh0⟩
  have h1:S≠0:=by simpa using h1
  rw[Z7 h1]at hR;subst hR;conv=>whnf
  refine gYn n1 ?_;refine gYn n2 ?_;refine gYn n3 ?_;refine gYd ?_;exact⟨lr rfl,lh0⟩
 .have hk:kB x=false:=by simpa using hk
  rw[hk,Z7 OC];rw[hk]at h126;clear hk h h134;refine fY6 Tryz.func231 rfl ?_;refine gYn h126 ?_;exact⟨qa0,lh0⟩
def zp1(x:Iv):Iv:=if kB x=true then⟨zcw x,ul x,false⟩else wI0
theorem i137(x:Iv)(h:RI x):Fn 181 [] [.agg (ivC x)] (.agg (ivC (zp1 x))) []:=by
 have h126:=zni [x] OC (by simpa using h);rw[k1]at h126;have n1:=i181 x h;have n2:=i182 x h;have h25:=i25;rw[e25]at h25;have hR:zp1 x=if kB x=true then⟨zcw x,ul x,false⟩else wI0:=rfl
 generalize zp1 x=R at*;generalize kB x=K at*
 cases K with
 |true=>
  rw[Z6 rfl]at hR n1 n2;generalize ul x=a at*;generalize zcw x=b at*;subst hR;clear h;refine fY6 Tryz.func181 rfl ?_;refine gYn h126 ?_;refine gYn n1 ?_;refine gYn n2 ?_;exact⟨lr rfl,lh0⟩
 |false=>
  rw[Z7 OC]at hR;subst hR;clear h n1 n2;refine fY6 Tryz.func181 rfl ?_;refine gYn h126 ?_;refine gYn h25 ?_;exact⟨lr rfl,lh0⟩
def zgw(x y:Iv):Iv:=if(kB x&&kB y)=true then⟨xn x.lo y.lo,uk x.hi y.hi,false⟩else wI0
theorem i201(x y:Iv)(hx:RI x)(hy:RI y):Fn 249 [] [.agg (ivC x),.agg (ivC y)] (.agg (ivC (zgw x y))) []:=by
 have h126:=zni [x,y] OC (by simpa using⟨hx,hy⟩);rw[k2]at h126;have h25:=i25;rw[e25]at h25;have hR:zgw x y=if(kB x&&kB y)=true then⟨xn x.lo y.lo,uk x.hi y.hi,false⟩else wI0:=rfl
 generalize zgw x y=R at*;by_cases hk:(kB x&&kB y)=true
 .rw[hk]at h126;rw[Z6 hk]at hR;rw[q2]at hk;have kx:=(zw hx).1 hk.1;have ky:=(zw hy).1 hk.2;have n1:=i226 kx.lo ky.lo;have n2:=i227 kx.hi ky.hi;generalize xn x.lo y.lo=a at*;generalize uk x.hi y.hi=b at*;subst hR;clear kx ky hx hy hk;refine fY6 Tryz.func249 rfl ?_;refine gYn h126 ?_;refine gYn n1 ?_;refine gYn n2 ?_;refine gYd ?_;exact⟨lr rfl,lh0⟩
 .rw[Z7 hk]at hR;rw[show(kB x&&kB y)=false by simpa using hk]at h126;subst hR;clear hx hy hk;refine fY6 Tryz.func249 rfl ?_;refine gYn h126 ?_;refine gYn h25 ?_;exact⟨lr rfl,lh0⟩
def wj(x:Iv)(k:Int):Iv:=if kB x=true then vl (ql x.lo k) (ql x.hi k)else wI0
theorem i191(x:Iv)(h:RI x)(k:Int):Fn 133 G0 [.agg (ivC x),.int .i64 k] (.agg (ivC (wj x k))) G0:=by
 have h126:=zni [x] OC (by simpa using h);rw[k1]at h126;have h25:=i25;rw[e25]at h25;have hR:wj x k=if kB x=true then vl (ql x.lo k) (ql x.hi k)else wI0:=rfl
 generalize wj x k=R at*;by_cases hk:kB x=true
 .rw[hk]at h126;rw[Z6 hk]at hR;have kx:=(zw h).1 hk;have n1:=v230 kx.lo k;have n2:=v230 kx.hi k;have n3:=qc2 (ql x.lo k) (ql x.hi k);rw[<-hR]at n3;generalize ql x.lo k=a at*;generalize ql x.hi k=b at*;clear kx h hk hR;obtain⟨⟨a1,a2,a3⟩,e⟩:=a;obtain⟨⟨b1,b2,b3⟩,f⟩:=b;refine fY6 Tryz.func133 rfl ?_;refine gYn h126 ?_;refine gYc n1 ?_;refine gYc n2 ?_;refine gYn n3 ?_;exact⟨lr rfl,leG⟩
 .rw[Z7 hk]at hR;rw[show kB x=false by simpa using hk]at h126;subst hR;clear h hk;refine fY6 Tryz.func133 rfl ?_;refine gYn h126 ?_;refine gYn h25 ?_;exact⟨lr rfl,leG⟩
def vh(x:Iv)(p:Int):Iv:=if kB x=true/\pcB p=true then vl (qm x.lo p.toNat false) (qm x.hi p.toNat true)else wI0
theorem qez(x:Iv)(h:RI x)(p:Int):Fn 239 G0 [.agg (ivC x),.int .i64 p] (.agg (ivC (vh x p))) G0:=by
 have h126:=zni [x] OC (by simpa using h);rw[k1]at h126;have h127:=zwz p;have h25:=i25;rw[e25]at h25;have hR:vh x p=if kB x=true/\pcB p=true then vl (qm x.lo p.toNat false) (qm x.hi p.toNat true)else wI0:=rfl
 generalize vh x p=R at*;by_cases hk:kB x=true
 .rw[hk]at h126;by_cases hp:pcB p=true
  .rw[hp]at h127;rw[Z6 ⟨hk,hp⟩]at hR;have kx:=(zw h).1 hk;obtain⟨q,rfl,hq⟩:=ux.1 hp;rw[q1]at hR;have n1:=v185 kx.lo q hq;have n2:=v184 kx.hi q hq;have n3:=qc2 (qm x.lo q false) (qm x.hi q true);rw[<-hR]at n3;generalize qm x.lo q false=a at*;generalize qm x.hi q true=b at*;clear kx h hk hR;obtain⟨⟨a1,a2,a3⟩,e⟩:=a;obtain⟨⟨b1,b2,b3⟩,f⟩:=b;refine fY6 Tryz.func239 rfl ?_;refine gYn h126 ?_;refine gYn h127 ?_;refine gYc n1 ?_;refine gYc n2 ?_;refine gYn n3 ?_;exact⟨lr rfl,leG⟩
  .rw[Z7 fun c=>hp c.2]at hR;rw[show pcB p=false by simpa using hp]at h127;subst hR;clear h hk hp;refine fY6 Tryz.func239 rfl ?_;refine gYn h126 ?_;refine gYn h127 ?_;refine gYn h25 ?_;exact⟨lr rfl,leG⟩
 .rw[Z7 fun c=>hk c.1]at hR;rw[show kB x=false by simpa using hk]at h126;subst hR;clear h hk;refine fY6 Tryz.func239 rfl ?_;refine gYn h126 ?_;refine gYn h25 ?_;exact⟨lr rfl,leG⟩
theorem qeb{a b:Dy}(h:0<qs a)(hc:wa a b<=0):b.neg=false:=by
 rw[zns a (min a.e b.e)]at h;unfold wa zsu at hc;unfold zsu at h;have hb:0<zi b (min a.e b.e):=by
  generalize zi a (min a.e b.e)=x at*;generalize zi b (min a.e b.e)=y at*;split at h
  .omega
  .split at h
   .split at hc
    .omega
    .split at hc<;>omega
   .omega
 unfold zi at hb
 cases hn:b.neg with
 |false=>rfl
 |true=>rw[Z6 hn]at hb;omega
theorem qah{a:Dy}(h:0<qs a):a.neg=false:=by
 unfold qs at h;split at h
 .omega
 .cases hn:a.neg with
  |false=>rfl
  |true=>rw[Z6 hn]at h;omega
def zet(x:Iv)(p:Int):Iv:=if kB x=true/\pcB p=true/\0<qs x.lo then vl (ku x.lo p.toNat false) (ku x.hi p.toNat true)else wI0
theorem i92(x:Iv)(h:RI x)(p:Int):Fn 120 G0 [.agg (ivC x),.int .i64 p] (.agg (ivC (zet x p))) G0:=by
 have h126:=zni [x] OC (by simpa using h);rw[k1]at h126;have h127:=zwz p;have h25:=i25;rw[e25]at h25;have hR:zet x p=if kB x=true/\pcB p=true/\0<qs x.lo then vl (ku x.lo p.toNat false) (ku x.hi p.toNat true)else wI0:=rfl
 generalize zet x p=R at*;by_cases hk:kB x=true
 .rw[hk]at h126;have kx:=(zw h).1 hk;have h124:=zq9 kx.lo;by_cases hp:pcB p=true
  .rw[hp]at h127;by_cases hs:0<qs x.lo
   .rw[Z6 ⟨hk,hp,hs⟩]at hR;obtain⟨q,rfl,hq⟩:=ux.1 hp;rw[q1]at hR;have n1:=v145 kx.lo (qah hs) q hq;have n2:=v146 kx.hi (qeb hs kx.le) q hq;have n3:=qc2 (ku x.lo q false) (ku x.hi q true);rw[<-hR]at n3;generalize ku x.lo q false=a at*;generalize ku x.hi q true=b at*;generalize qs x.lo=S at*;clear kx h hk hR;obtain⟨⟨a1,a2,a3⟩,e⟩:=a;obtain⟨⟨b1,b2,b3⟩,f⟩:=b;refine fY6 Tryz.func120 rfl ?_;refine gYn h126 ?_;refine gYn h127 ?_;refine gYn h124 ?_;refine brI (fun h1=>?_) (fun h1=>?_)
    .have h1:S<=0:=Z0 h1;omega
    conv=>whnf
    refine gYc n1 ?_;refine gYc n2 ?_;refine gYn n3 ?_;exact⟨lr rfl,leG⟩
   .rw[Z7 fun c=>hs c.2.2]at hR;subst hR;generalize qs x.lo=S at*;clear h hk kx;refine fY6 Tryz.func120 rfl ?_;refine gYn h126 ?_;refine gYn h127 ?_;refine gYn h124 ?_;refine brI (fun h1=>?_) (fun h1=>?_)
    rotate_left
    .have h1:¬S<=0:=Z3 h1;omega
    conv=>whnf
    refine gYn h25 ?_;exact⟨lr rfl,leG⟩
  .rw[Z7 fun c=>hp c.2.1]at hR;rw[show pcB p=false by simpa using hp]at h127;subst hR;clear h hk hp kx h124;refine fY6 Tryz.func120 rfl ?_;refine gYn h126 ?_;refine gYn h127 ?_;refine gYn h25 ?_;exact⟨lr rfl,leG⟩
 .rw[Z7 fun c=>hk c.1]at hR;rw[show kB x=false by simpa using hk]at h126;subst hR;clear h hk;refine fY6 Tryz.func120 rfl ?_;refine gYn h126 ?_;refine gYn h25 ?_;exact⟨lr rfl,leG⟩
def zcv(d:Dy)(p:Nat)(up:Bool):Nat->Dy×Int->Dy×Int
 |0,r=>r
 |k+1,r=>if r.2=0 then zcv d p up k (ug r.1 d p up)else r
def zfv(d:Dy)(n p:Nat)(up:Bool):Dy×Int:=zcv d p up (n-1) (qm d p up)
theorem zp3(d:Dy)(p:Nat)(up:Bool)(hp:8<=p/\p<=512):∀k r,VD r.1->VD (zcv d p up k r).1
 |0,r,h=>h
 |k+1,r,h=>by
  simp only[zcv];split
  .exact zp3 d p up hp k _ (zac _ _ _ _ hp)
  .exact h
theorem zmk(d:Dy)(n p:Nat)(up:Bool)(hp:8<=p/\p<=512):VD (zfv d n p up).1:=zp3 d p up hp _ _ (jk _ _ _ hp)
theorem i183t{d:Dy}(hd:VD d)(n p:Nat)(hn:1<=n/\n<=16)(hp:8<=p/\p<=512):Fn 233 G0 [.agg (dyC d),.int .i64 n,.int .i64 p,.fn 234 [],.fn 103 []] (dyV (zfv d n p true)) G0:=by
 have h0:=v184 hd p hp;have hm:∀a,VD a->Fn 103 G0 [.agg (dyC a),.agg (dyC d),.int .i64 p] (dyV (ug a d p true)) G0:=fun a ha=>v133 ha hd p hp
 have hv0:=jk d true p hp;obtain⟨R,hR⟩:∃R,zfv d n p true=R:=⟨_,rfl⟩;rw[hR];unfold zfv at hR;generalize qm d p true=r0 at*;obtain⟨d1,d2,d3⟩:=d;have hm:∀a,VD a->Fn 103 G0 [.agg (dyC a),.agg [.bool d1,.sl .u32 d2,.int .i64 d3],.int .i64 p] (dyV (ug a ⟨d1,d2,d3⟩ p true)) G0:=hm;obtain⟨⟨a1,a2,a3⟩,e0⟩:=r0;have h0:Fn 234 G0 [.agg [.bool d1,.sl .u32 d2,.int .i64 d3],.int .i64 p] (dyV (⟨a1,a2,a3⟩,e0)) G0:=h0;show Fn 233 G0 [.agg [.bool d1,.sl .u32 d2,.int .i64 d3],.int .i64 n,.int .i64 p,.fn 234 [],.fn 103 []] _ G0;refine fY6 Tryz.func233 rfl ?_;refine gYc h0 ?_;refine⟨Nat×Dy×Int,fun s=>(1<=s.1/\s.1<=n)/\VD s.2.1/\zcv ⟨d1,d2,d3⟩ p true (n-s.1) s.2=R,fun s=> [(14,.int .i64 s.1),(13,.int .i64 s.2.2)],fun s=> [(12,.cells (dyC s.2.1))],fun s=>n-s.1,(1,⟨a1,a2,a3⟩,e0),?_,?_,fun s hs=>?_⟩
 .exact⟨⟨OC,hn.1⟩,hv0,hR⟩
 .exact KZ0
 obtain⟨k,⟨r1,r2,r3⟩,e⟩:=s;obtain⟨⟨h1,h2⟩,h3,h4⟩:=hs;simp only at h1 h2 h3 h4;refine gYe ?_;refine brI (fun k1=>?_) (fun k1=>?_)
 .have k1:k<n:=by simp only[Z4]at k1;omega
  obtain⟨j,hj⟩:∃j,n-k=j+1:=⟨n-k-1,O⟩;rw[hj]at h4;simp only[zcv]at h4;conv=>whnf
  refine brI (fun k2=>?_) (fun k2=>?_)
  .have k2:e=0:=by simpa using k2
   rw[Z6 k2]at h4;have hmm:Fn 103 G0 [.agg [.bool r1,.sl .u32 r2,.int .i64 r3],.agg [.bool d1,.sl .u32 d2,.int .i64 d3],.int .i64 p] (dyV (ug ⟨r1,r2,r3⟩ ⟨d1,d2,d3⟩ p true)) G0:=hm _ h3;have hvm:=zac ⟨r1,r2,r3⟩ ⟨d1,d2,d3⟩ true p hp;generalize ug ⟨r1,r2,r3⟩ ⟨d1,d2,d3⟩ p true=M at*;obtain⟨⟨m1,m2,m3⟩,f⟩:=M;conv=>whnf
   refine gYc hmm ?_;refine⟨(k+1,⟨m1,m2,m3⟩,f),⟨⟨OD,OD⟩,hvm,by simp only;rw[(O:n-(k+1)=j)];exact h4⟩,by show n-(k+1)<n-k;omega,?_⟩;exact KZ0
  .have k2:e≠0:=by simpa using k2
   rw[Z7 k2]at h4;subst h4;conv=>whnf
   exact⟨lr rfl,leG⟩
 .have k1:¬k<n:=by simp only[Z5]at k1;omega
  rw[(O:n-k=0)]at h4;simp only[zcv]at h4;subst h4;conv=>whnf
  exact⟨lr rfl,leG⟩
theorem i183f{d:Dy}(hd:VD d)(n p:Nat)(hn:1<=n/\n<=16)(hp:8<=p/\p<=512):Fn 233 G0 [.agg (dyC d),.int .i64 n,.int .i64 p,.fn 235 [],.fn 102 []] (dyV (zfv d n p false)) G0:=by
 have h0:=v185 hd p hp;have hm:∀a,VD a->Fn 102 G0 [.agg (dyC a),.agg (dyC d),.int .i64 p] (dyV (ug a d p false)) G0:=fun a ha=>v132 ha hd p hp
 have hv0:=jk d false p hp;obtain⟨R,hR⟩:∃R,zfv d n p false=R:=⟨_,rfl⟩;rw[hR];unfold zfv at hR;generalize qm d p false=r0 at*;obtain⟨d1,d2,d3⟩:=d;have hm:∀a,VD a->Fn 102 G0 [.agg (dyC a),.agg [.bool d1,.sl .u32 d2,.int .i64 d3],.int .i64 p] (dyV (ug a ⟨d1,d2,d3⟩ p false)) G0:=hm;obtain⟨⟨a1,a2,a3⟩,e0⟩:=r0;have h0:Fn 235 G0 [.agg [.bool d1,.sl .u32 d2,.int .i64 d3],.int .i64 p] (dyV (⟨a1,a2,a3⟩,e0)) G0:=h0;show Fn 233 G0 [.agg [.bool d1,.sl .u32 d2,.int .i64 d3],.int .i64 n,.int .i64 p,.fn 235 [],.fn 102 []] _ G0;refine fY6 Tryz.func233 rfl ?_;refine gYc h0 ?_;refine⟨Nat×Dy×Int,fun s=>(1<=s.1/\s.1<=n)/\VD s.2.1/\zcv ⟨d1,d2,d3⟩ p false (n-s.1) s.2=R,fun s=> [(14,.int .i64 s.1),(13,.int .i64 s.2.2)],fun s=> [(12,.cells (dyC s.2.1))],fun s=>n-s.1,(1,⟨a1,a2,a3⟩,e0),?_,?_,fun s hs=>?_⟩
 .exact⟨⟨OC,hn.1⟩,hv0,hR⟩
 .exact KZ0
 obtain⟨k,⟨r1,r2,r3⟩,e⟩:=s;obtain⟨⟨h1,h2⟩,h3,h4⟩:=hs;simp only at h1 h2 h3 h4;refine gYe ?_;refine brI (fun k1=>?_) (fun k1=>?_)
 .have k1:k<n:=by simp only[Z4]at k1;omega
  obtain⟨j,hj⟩:∃j,n-k=j+1:=⟨n-k-1,O⟩;rw[hj]at h4;simp only[zcv]at h4;conv=>whnf
  refine brI (fun k2=>?_) (fun k2=>?_)
  .have k2:e=0:=by simpa using k2
   rw[Z6 k2]at h4;have hmm:Fn 102 G0 [.agg [.bool r1,.sl .u32 r2,.int .i64 r3],.agg [.bool d1,.sl .u32 d2,.int .i64 d3],.int .i64 p] (dyV (ug ⟨r1,r2,r3⟩ ⟨d1,d2,d3⟩ p false)) G0:=hm _ h3;have hvm:=zac ⟨r1,r2,r3⟩ ⟨d1,d2,d3⟩ false p hp;generalize ug ⟨r1,r2,r3⟩ ⟨d1,d2,d3⟩ p false=M at*;obtain⟨⟨m1,m2,m3⟩,f⟩:=M;conv=>whnf
   refine gYc hmm ?_;refine⟨(k+1,⟨m1,m2,m3⟩,f),⟨⟨OD,OD⟩,hvm,by simp only;rw[(O:n-(k+1)=j)];exact h4⟩,by show n-(k+1)<n-k;omega,?_⟩;exact KZ0
  .have k2:e≠0:=by simpa using k2
   rw[Z7 k2]at h4;subst h4;conv=>whnf
   exact⟨lr rfl,leG⟩
 .have k1:¬k<n:=by simp only[Z5]at k1;omega
  rw[(O:n-k=0)]at h4;simp only[zcv]at h4;subst h4;conv=>whnf
  exact⟨lr rfl,leG⟩
def zfo(d:Dy)(n p:Nat)(up:Bool):Dy×Int:=if qs d<0 then(jp (zfv (jp d) n p (!up)).1,(zfv (jp d) n p (!up)).2)else zfv d n p up
theorem zz6(d:Dy):qs (jp d)= -qs d:=by
 unfold qs jp;by_cases h:nm d=0
 .rw[Z6 h,Z6 h];rfl
 .rw[Z7 h,Z7 h];have h2:nm ⟨!d.neg,d.m,d.e⟩=nm d:=rfl;rw[h2,Z7 h];cases d.neg<;>rfl
theorem qe0{d:Dy}(hd:VD d)(hs:¬qs d<0)(n p:Nat)(hn:1<=n/\n<=16)(hp:8<=p/\p<=512)(up:Bool):Fn 182 G0 [.agg (dyC d),.int .i64 n,.int .i64 p,.bool up] (dyV (zfv d n p up)) G0:=by
 have h1:=i183t hd n p hn hp;have h2:=i183f hd n p hn hp;have h124:=zq9 hd;generalize zfv d n p=F at*;generalize qs d=S at*;clear hd
 cases up with
 |true=>
  generalize F true=R at*;obtain⟨⟨r1,r2,r3⟩,e⟩:=R;refine fY6 Tryz.func182 rfl ?_;refine gYn h124 ?_;refine brI (fun k1=>?_) (fun k1=>?_)
  .exact absurd (Z0 k1) hs
  conv=>whnf
  refine gYc h1 ?_;exact⟨lr rfl,leG⟩
 |false=>
  generalize F false=R at*;obtain⟨⟨r1,r2,r3⟩,e⟩:=R;refine fY6 Tryz.func182 rfl ?_;refine gYn h124 ?_;refine brI (fun k1=>?_) (fun k1=>?_)
  .exact absurd (Z0 k1) hs
  conv=>whnf
  refine gYc h2 ?_;exact⟨lr rfl,leG⟩
theorem i138{d:Dy}(hd:VD d)(n p:Nat)(hn:1<=n/\n<=16)(hp:8<=p/\p<=512)(up:Bool):Fn 182 G0 [.agg (dyC d),.int .i64 n,.int .i64 p,.bool up] (dyV (zfo d n p up)) G0:=by
 by_cases hs:qs d<0
 .have hR:zfo d n p up=(jp (zfv (jp d) n p (!up)).1,(zfv (jp d) n p (!up)).2):=by unfold zfo;rw[Z6 hs]
  rw[hR];have h124:=zq9 hd;have h135:Fn 175 [] [.agg (dyC d)] (.agg (dyC (jp d))) []:=zzq hd;have h138:=qe0 (yt hd) (by rw[zz6];omega) n p hn hp (!up);have hv:=zmk (jp d) n p (!up) hp;have h135b:Fn 175 [] [.agg (dyC (zfv (jp d) n p (!up)).1)] (.agg (dyC (jp (zfv (jp d) n p (!up)).1))) []:=zzq hv;generalize zfv (jp d) n p (!up)=P at*;generalize jp d=N at*;generalize qs d=S at*;generalize jp P.1=Q at*;clear hd hv hR;obtain⟨⟨r1,r2,r3⟩,e⟩:=P;refine fY6 Tryz.func182 rfl ?_;refine gYn h124 ?_;refine brI (fun k1=>?_) (fun k1=>?_)
  rotate_left
  .exact absurd hs (Z3 k1)
  conv=>whnf
  refine gYn h135 ?_;refine gYc h138 ?_;refine gYn h135b ?_;exact⟨lr rfl,leG⟩
 .have hR:zfo d n p up=zfv d n p up:=by unfold zfo;rw[Z7 hs]
  rw[hR];exact qe0 hd hs n p hn hp up
theorem zzf(d:Dy)(n p:Nat)(up:Bool)(hp:8<=p/\p<=512):VD (zfo d n p up).1:=by
 unfold zfo;split
 .exact yt (zmk _ _ _ _ hp)
 .exact zmk _ _ _ _ hp
def pwK(x:Iv)(n p:Nat):Iv:=vl (zfo x.lo n p false) (zfo x.hi n p true)
def zhw(x:Iv)(n p:Int):Iv:=
 if kB x=true/\pcB p=true/\0<=n/\n<=16 then(if n=0 then qt (wg 1)else pwK (if n % 2=0 then zp1 x else x) n.toNat p.toNat)else wI0
theorem zux{x:Iv}(hk:kB x=true):zp1 x=⟨zcw x,ul x,false⟩:=by unfold zp1;rw[Z6 hk]
theorem wu(n:Int)(h: -4611686018427387904<=n/\n<=4611686018427387904):VD (wg n):=by
 unfold wg;have hb:bl n.natAbs<=64:=vr.2 (by show n.natAbs<18446744073709551616;omega);exact zhs (zo9 O O O)
theorem i87(x:Iv)(h:RI x)(n p:Int):Fn 115 G0 [.agg (ivC x),.int .i64 n,.int .i64 p] (.agg (ivC (zhw x n p))) G0:=by
 have h126:=zni [x] OC (by simpa using h);rw[k1]at h126;have h127:=zwz p;have h25:=i25;rw[e25]at h25;have hR:zhw x n p=if kB x=true/\pcB p=true/\0<=n/\n<=16 then(if n=0 then qt (wg 1)else pwK (if n % 2=0 then zp1 x else x) n.toNat p.toNat)else wI0:=rfl
 generalize zhw x n p=R at*;by_cases hk:kB x=true
 rotate_left
 .rw[Z7 fun c=>hk c.1]at hR;rw[show kB x=false by simpa using hk]at h126;subst hR;clear h hk;refine fY6 Tryz.func115 rfl ?_;refine gYn h126 ?_;refine gYn h25 ?_;exact⟨lr rfl,leG⟩
 rw[hk]at h126;by_cases hp:pcB p=true
 rotate_left
 .rw[Z7 fun c=>hp c.2.1]at hR;rw[show pcB p=false by simpa using hp]at h127;subst hR;clear h hk;refine fY6 Tryz.func115 rfl ?_;refine gYn h126 ?_;refine gYn h127 ?_;refine gYn h25 ?_;exact⟨lr rfl,leG⟩
 rw[hp]at h127;by_cases hn:0<=n/\n<=16
 rotate_left
 .rw[Z7 fun c=>hn c.2.2]at hR;subst hR;clear h hk;refine fY6 Tryz.func115 rfl ?_;refine gYn h126 ?_;refine gYn h127 ?_;refine brI (fun k1=>?_) (fun k1=>?_)
  .conv=>whnf
   refine gYn h25 ?_;exact⟨lr rfl,leG⟩
  have k1:¬n<0:=Z3 k1;conv=>whnf
  refine brI (fun k2=>?_) (fun k2=>?_)
  .conv=>whnf
   refine gYn h25 ?_;exact⟨lr rfl,leG⟩
  have k2:¬16<n:=Z3 k2;omega
 rw[Z6 ⟨hk,hp,hn⟩]at hR;obtain⟨N,rfl⟩:=Int.eq_ofNat_of_zero_le hn.1;by_cases h0:N=0
 .subst h0;rw[Z6 (by rfl)]at hR;have h77:=v77 1 OA;have h136:=zyr (wu 1 OA);generalize wg 1=I1 at*;rw[<-hR]at h136;clear h hk hR;refine fY6 Tryz.func115 rfl ?_;refine gYn h126 ?_;refine gYn h127 ?_;refine gYc h77 ?_;refine gYn h136 ?_;exact⟨lr rfl,leG⟩
 rw[Z7 O,q1]at hR;have kx:=(zw h).1 hk;obtain⟨q,rfl,hq⟩:=ux.1 hp;rw[q1]at hR;have hcase:∀y:Iv,VD y.lo->VD y.hi->R=pwK y N q->
  Fn 182 G0 [.agg (dyC y.lo),.int .i64 N,.int .i64 q,.bool false] (dyV (zfo y.lo N q false)) G0/\Fn 182 G0 [.agg (dyC y.hi),.int .i64 N,.int .i64 q,.bool true] (dyV (zfo y.hi N q true)) G0/\
  Fn 100 [] [.agg (dyC (zfo y.lo N q false).1),.int .i64 (zfo y.lo N q false).2,.agg (dyC (zfo y.hi N q true).1),.int .i64 (zfo y.hi N q true).2] (.agg (ivC R)) []:=by
  intro y hl hh e;refine⟨i138 hl N q O hq false,i138 hh N q O hq true,?_⟩;rw[e];exact qc2 _ _
 have hmod:((N:Int).tmod 2==0)=decide ((N:Int) % 2=0):=by
  have:(N:Int).tmod 2=((N % 2:Nat):Int):=(Int.ofNat_tmod N 2).symm;rw[this,Bool.eq_iff_iff,beq_iff_eq,Z4];omega
 by_cases he:(N:Int) % 2=0
 .rw[Z6 he,zux hk]at hR;rw[Z8 he]at hmod;have h137:=i137 x h;rw[zux hk]at h137;obtain⟨n1,n2,n3⟩:=hcase _ (zjb kx) (zb3 kx) hR;simp only at n1 n2 n3;generalize zfo (zcw x) N q false=A at*;generalize zfo (ul x) N q true=B at*;generalize zcw x=L at*;generalize ul x=U at*;clear hcase hR kx h hk;obtain⟨⟨a1,a2,a3⟩,e⟩:=A;obtain⟨⟨b1,b2,b3⟩,f⟩:=B;refine fY6 Tryz.func115 rfl ?_;refine gYn h126 ?_;refine gYn h127 ?_;refine brI (fun k2=>?_) (fun k2=>?_)
  .have k2:=Z0 k2;omega
  conv=>whnf
  refine brI (fun k3=>?_) (fun k3=>?_)
  .have k3:(N:Int)=0:=by simpa using k3
   omega
  conv=>whnf
  refine⟨OA,?_⟩;conv=>whnf
  refine brI (fun k4=>?_) (fun k4=>?_)
  rotate_left
  .have k4:((N:Int).tmod 2==0)=false:=k4;rw[hmod]at k4;cases k4
  conv=>whnf
  refine gYn h137 ?_;refine gYc n1 ?_;refine gYc n2 ?_;refine gYn n3 ?_;exact⟨lr rfl,leG⟩
 .rw[Z7 he]at hR;rw[Z9 he]at hmod;obtain⟨n1,n2,n3⟩:=hcase _ kx.lo kx.hi hR;generalize zfo x.lo N q false=A at*;generalize zfo x.hi N q true=B at*;clear hcase hR kx h hk;obtain⟨⟨a1,a2,a3⟩,e⟩:=A;obtain⟨⟨b1,b2,b3⟩,f⟩:=B;refine fY6 Tryz.func115 rfl ?_;refine gYn h126 ?_;refine gYn h127 ?_;refine brI (fun k2=>?_) (fun k2=>?_)
  .have k2:=Z0 k2;omega
  conv=>whnf
  refine brI (fun k3=>?_) (fun k3=>?_)
  .have k3:(N:Int)=0:=by simpa using k3
   omega
  conv=>whnf
  refine⟨OA,?_⟩;conv=>whnf
  refine brI (fun k4=>?_) (fun k4=>?_)
  .have k4:((N:Int).tmod 2==0)=true:=k4;rw[hmod]at k4;cases k4
  conv=>whnf
  refine gYc n1 ?_;refine gYc n2 ?_;refine gYn n3 ?_;exact⟨lr rfl,leG⟩
theorem wb{h h':Hp}{i:Nat}{l m:List AV}(e:l=m)(hk:okR.okRL h h' m=true):leB h h' i (.cells l) (.cells m):=bc0 (by rw[e];exact zd6 hk)
def stI(dn up:Dy×Int)(o:Iv)(K:Iv->Iv):Iv:=
 if dn.2≠0\/up.2≠0 then wI0 else K ⟨if wa dn.1 o.lo<0 then dn.1 else o.lo,if 0<wa up.1 o.hi then up.1 else o.hi,false⟩
def s0I(dn up:Dy×Int)(K:Iv->Iv):Iv:=if dn.2≠0\/up.2≠0 then wI0 else K ⟨dn.1,up.1,false⟩
def f4I(dn up:Dy->Dy->Dy×Int)(x y:Iv):Nat->Iv->Iv
 |0,_=>s0I (dn x.lo y.lo) (up x.lo y.lo) (fun o=>stI (dn x.lo y.hi) (up x.lo y.hi) o (fun o=>stI (dn x.hi y.lo) (up x.hi y.lo) o (fun o=>stI (dn x.hi y.hi) (up x.hi y.hi) o (fun o=>o))))
 |1,o=>stI (dn x.lo y.hi) (up x.lo y.hi) o (fun o=>stI (dn x.hi y.lo) (up x.hi y.lo) o (fun o=>stI (dn x.hi y.hi) (up x.hi y.hi) o (fun o=>o)))
 |2,o=>stI (dn x.hi y.lo) (up x.hi y.lo) o (fun o=>stI (dn x.hi y.hi) (up x.hi y.hi) o (fun o=>o))
 |3,o=>stI (dn x.hi y.hi) (up x.hi y.hi) o (fun o=>o)
 | _+4,o=>o
def jt(dn up:Dy->Dy->Dy×Int)(x y:Iv):Iv:=f4I dn up x y 0 wI0
theorem i131m{x y:Iv}(hx:KI x)(hy:KI y)(p:Nat)(hp:8<=p/\p<=512):Fn 101 G0 [.agg (ivC x),.agg (ivC y),.int .i64 p,.fn 102 [],.fn 103 []] (.agg (ivC (jt (fun a b=>ug a b p false) (fun a b=>ug a b p true) x y))) G0:=by
 have h25:=i25;rw[e25]at h25;have hd0:=v132 hx.lo hy.lo p hp;have hu0:=v133 hx.lo hy.lo p hp;have vd0:=zac x.lo y.lo false p hp;have vu0:=zac x.lo y.lo true p hp;have hd1:=v132 hx.lo hy.hi p hp;have hu1:=v133 hx.lo hy.hi p hp;have vd1:=zac x.lo y.hi false p hp;have vu1:=zac x.lo y.hi true p hp;have hd2:=v132 hx.hi hy.lo p hp;have hu2:=v133 hx.hi hy.lo p hp;have vd2:=zac x.hi y.lo false p hp;have vu2:=zac x.hi y.lo true p hp;have hd3:=v132 hx.hi hy.hi p hp;have hu3:=v133 hx.hi hy.hi p hp;have vd3:=zac x.hi y.hi false p hp;have vu3:=zac x.hi y.hi true p hp;obtain⟨R,hR⟩:∃R,jt (fun a b=>ug a b p false) (fun a b=>ug a b p true) x y=R:=⟨_,rfl⟩;rw[hR];unfold jt at hR;obtain⟨D0,hD0⟩:∃A,ug x.lo y.lo p false=A:=⟨_,rfl⟩;obtain⟨U0,hU0⟩:∃A,ug x.lo y.lo p true=A:=⟨_,rfl⟩;rw[hD0]at hd0 vd0;rw[hU0]at hu0 vu0;obtain⟨D1,hD1⟩:∃A,ug x.lo y.hi p false=A:=⟨_,rfl⟩;obtain⟨U1,hU1⟩:∃A,ug x.lo y.hi p true=A:=⟨_,rfl⟩;rw[hD1]at hd1 vd1;rw[hU1]at hu1 vu1;obtain⟨D2,hD2⟩:∃A,ug x.hi y.lo p false=A:=⟨_,rfl⟩;obtain⟨U2,hU2⟩:∃A,ug x.hi y.lo p true=A:=⟨_,rfl⟩;rw[hD2]at hd2 vd2;rw[hU2]at hu2 vu2;obtain⟨D3,hD3⟩:∃A,ug x.hi y.hi p false=A:=⟨_,rfl⟩;obtain⟨U3,hU3⟩:∃A,ug x.hi y.hi p true=A:=⟨_,rfl⟩;rw[hD3]at hd3 vd3;rw[hU3]at hu3 vu3;have g3:∀o,f4I (fun a b=>ug a b p false) (fun a b=>ug a b p true) x y 3 o=stI D3 U3 o (fun o=>o):=fun o=>by rw[<-hD3,<-hU3];rfl
 have g2:∀o,f4I (fun a b=>ug a b p false) (fun a b=>ug a b p true) x y 2 o=stI D2 U2 o (f4I (fun a b=>ug a b p false) (fun a b=>ug a b p true) x y 3):=fun o=>by rw[<-hD2,<-hU2];rfl
 have g1:∀o,f4I (fun a b=>ug a b p false) (fun a b=>ug a b p true) x y 1 o=stI D1 U1 o (f4I (fun a b=>ug a b p false) (fun a b=>ug a b p true) x y 2):=fun o=>by rw[<-hD1,<-hU1];rfl
 have g0:∀o,f4I (fun a b=>ug a b p false) (fun a b=>ug a b p true) x y 0 o=s0I D0 U0 (f4I (fun a b=>ug a b p false) (fun a b=>ug a b p true) x y 1):=fun o=>by rw[<-hD0,<-hU0];rfl
 have g4:∀o,f4I (fun a b=>ug a b p false) (fun a b=>ug a b p true) x y 4 o=o:=fun o=>rfl
 generalize f4I (fun a b=>ug a b p false) (fun a b=>ug a b p true) x y=G at*;clear hD0 hD1 hD2 hD3 hU0 hU1 hU2 hU3 hx hy;obtain⟨⟨a01,a02,a03⟩,e0⟩:=D0;obtain⟨⟨b01,b02,b03⟩,f0⟩:=U0;obtain⟨⟨a11,a12,a13⟩,e1⟩:=D1;obtain⟨⟨b11,b12,b13⟩,f1⟩:=U1;obtain⟨⟨a21,a22,a23⟩,e2⟩:=D2;obtain⟨⟨b21,b22,b23⟩,f2⟩:=U2;obtain⟨⟨a31,a32,a33⟩,e3⟩:=D3;obtain⟨⟨b31,b32,b33⟩,f3⟩:=U3;obtain⟨⟨x1,x2,x3⟩,⟨x4,x5,x6⟩,x7⟩:=x;obtain⟨⟨y1,y2,y3⟩,⟨y4,y5,y6⟩,y7⟩:=y;have hd0:Fn 102 G0 [.agg [.bool x1,.sl .u32 x2,.int .i64 x3],.agg [.bool y1,.sl .u32 y2,.int .i64 y3],.int .i64 p] (dyV (⟨a01,a02,a03⟩,e0)) G0:=hd0;have hu0:Fn 103 G0 [.agg [.bool x1,.sl .u32 x2,.int .i64 x3],.agg [.bool y1,.sl .u32 y2,.int .i64 y3],.int .i64 p] (dyV (⟨b01,b02,b03⟩,f0)) G0:=hu0;simp only at vd0 vu0;have hd1:Fn 102 G0 [.agg [.bool x1,.sl .u32 x2,.int .i64 x3],.agg [.bool y4,.sl .u32 y5,.int .i64 y6],.int .i64 p] (dyV (⟨a11,a12,a13⟩,e1)) G0:=hd1;have hu1:Fn 103 G0 [.agg [.bool x1,.sl .u32 x2,.int .i64 x3],.agg [.bool y4,.sl .u32 y5,.int .i64 y6],.int .i64 p] (dyV (⟨b11,b12,b13⟩,f1)) G0:=hu1;simp only at vd1 vu1;have hd2:Fn 102 G0 [.agg [.bool x4,.sl .u32 x5,.int .i64 x6],.agg [.bool y1,.sl .u32 y2,.int .i64 y3],.int .i64 p] (dyV (⟨a21,a22,a23⟩,e2)) G0:=hd2;have hu2:Fn 103 G0 [.agg [.bool x4,.sl .u32 x5,.int .i64 x6],.agg [.bool y1,.sl .u32 y2,.int .i64 y3],.int .i64 p] (dyV (⟨b21,b22,b23⟩,f2)) G0:=hu2;simp only at vd2 vu2;have hd3:Fn 102 G0 [.agg [.bool x4,.sl .u32 x5,.int .i64 x6],.agg [.bool y4,.sl .u32 y5,.int .i64 y6],.int .i64 p] (dyV (⟨a31,a32,a33⟩,e3)) G0:=hd3;have hu3:Fn 103 G0 [.agg [.bool x4,.sl .u32 x5,.int .i64 x6],.agg [.bool y4,.sl .u32 y5,.int .i64 y6],.int .i64 p] (dyV (⟨b31,b32,b33⟩,f3)) G0:=hu3;simp only at vd3 vu3;show Fn 101 G0 [.agg [.bool x1,.sl .u32 x2,.int .i64 x3,.bool x4,.sl .u32 x5,.int .i64 x6,.bool x7],.agg [.bool y1,.sl .u32 y2,.int .i64 y3,.bool y4,.sl .u32 y5,.int .i64 y6,.bool y7],.int .i64 p,.fn 102 [],.fn 103 []] _ G0;refine fY6 Tryz.func101 rfl ?_
 refine⟨Nat×Iv,fun s=>s.1<=4/\(VD s.2.lo/\VD s.2.hi)/\s.2.all=false/\G s.1 s.2=R,fun s=> [(41,.int .i64 s.1)],fun s=> [(12,.cells (ivC s.2))],fun s=>4-s.1,(0,⟨d0,d0,false⟩),?_,?_,fun s hs=>?_⟩
 .exact⟨OC,⟨qv,qv⟩,rfl,by rw[<-hR];simp only;rw[g0,g0]⟩
 .exact KZ0
 obtain⟨i,o⟩:=s;obtain⟨h1,⟨h2,h3⟩,h4,h5⟩:=hs;simp only at h1 h2 h3 h4 h5;have c0:Fn 53 [] [.agg [.bool a01,.sl .u32 a02,.int .i64 a03],.agg (dyC o.lo)] (.int .i64 (wa ⟨a01,a02,a03⟩ o.lo)) []:=v81 vd0 h2;have u0:Fn 53 [] [.agg [.bool b01,.sl .u32 b02,.int .i64 b03],.agg (dyC o.hi)] (.int .i64 (wa ⟨b01,b02,b03⟩ o.hi)) []:=v81 vu0 h3;have c1:Fn 53 [] [.agg [.bool a11,.sl .u32 a12,.int .i64 a13],.agg (dyC o.lo)] (.int .i64 (wa ⟨a11,a12,a13⟩ o.lo)) []:=v81 vd1 h2;have u1:Fn 53 [] [.agg [.bool b11,.sl .u32 b12,.int .i64 b13],.agg (dyC o.hi)] (.int .i64 (wa ⟨b11,b12,b13⟩ o.hi)) []:=v81 vu1 h3;have c2:Fn 53 [] [.agg [.bool a21,.sl .u32 a22,.int .i64 a23],.agg (dyC o.lo)] (.int .i64 (wa ⟨a21,a22,a23⟩ o.lo)) []:=v81 vd2 h2;have u2:Fn 53 [] [.agg [.bool b21,.sl .u32 b22,.int .i64 b23],.agg (dyC o.hi)] (.int .i64 (wa ⟨b21,b22,b23⟩ o.hi)) []:=v81 vu2 h3;have c3:Fn 53 [] [.agg [.bool a31,.sl .u32 a32,.int .i64 a33],.agg (dyC o.lo)] (.int .i64 (wa ⟨a31,a32,a33⟩ o.lo)) []:=v81 vd3 h2;have u3:Fn 53 [] [.agg [.bool b31,.sl .u32 b32,.int .i64 b33],.agg (dyC o.hi)] (.int .i64 (wa ⟨b31,b32,b33⟩ o.hi)) []:=v81 vu3 h3;obtain⟨⟨o1,o2,o3⟩,⟨o4,o5,o6⟩,o7⟩:=o;simp only at h4 h2 h3;subst h4;have c0:Fn 53 [] [.agg [.bool a01,.sl .u32 a02,.int .i64 a03],.agg [.bool o1,.sl .u32 o2,.int .i64 o3]] (.int .i64 (wa ⟨a01,a02,a03⟩ ⟨o1,o2,o3⟩)) []:=c0;have u0:Fn 53 [] [.agg [.bool b01,.sl .u32 b02,.int .i64 b03],.agg [.bool o4,.sl .u32 o5,.int .i64 o6]] (.int .i64 (wa ⟨b01,b02,b03⟩ ⟨o4,o5,o6⟩)) []:=u0;have c1:Fn 53 [] [.agg [.bool a11,.sl .u32 a12,.int .i64 a13],.agg [.bool o1,.sl .u32 o2,.int .i64 o3]] (.int .i64 (wa ⟨a11,a12,a13⟩ ⟨o1,o2,o3⟩)) []:=c1;have u1:Fn 53 [] [.agg [.bool b11,.sl .u32 b12,.int .i64 b13],.agg [.bool o4,.sl .u32 o5,.int .i64 o6]] (.int .i64 (wa ⟨b11,b12,b13⟩ ⟨o4,o5,o6⟩)) []:=u1;have c2:Fn 53 [] [.agg [.bool a21,.sl .u32 a22,.int .i64 a23],.agg [.bool o1,.sl .u32 o2,.int .i64 o3]] (.int .i64 (wa ⟨a21,a22,a23⟩ ⟨o1,o2,o3⟩)) []:=c2
 have u2:Fn 53 [] [.agg [.bool b21,.sl .u32 b22,.int .i64 b23],.agg [.bool o4,.sl .u32 o5,.int .i64 o6]] (.int .i64 (wa ⟨b21,b22,b23⟩ ⟨o4,o5,o6⟩)) []:=u2;have c3:Fn 53 [] [.agg [.bool a31,.sl .u32 a32,.int .i64 a33],.agg [.bool o1,.sl .u32 o2,.int .i64 o3]] (.int .i64 (wa ⟨a31,a32,a33⟩ ⟨o1,o2,o3⟩)) []:=c3;have u3:Fn 53 [] [.agg [.bool b31,.sl .u32 b32,.int .i64 b33],.agg [.bool o4,.sl .u32 o5,.int .i64 o6]] (.int .i64 (wa ⟨b31,b32,b33⟩ ⟨o4,o5,o6⟩)) []:=u3;obtain rfl|rfl|rfl|rfl|rfl:i=0\/i=1\/i=2\/i=3\/i=4:=O
 .rw[g0]at h5;unfold s0I at h5;simp only at h5;refine gYe ?_;refine⟨⟨by show(0:Int)<=0;decide,by show(0:Int)<4;decide⟩,?_⟩;conv=>whnf
  refine⟨⟨OA,OA⟩,?_⟩;conv=>whnf
  refine⟨⟨OA,OA⟩,?_⟩;conv=>whnf
  refine gYc hd0 ?_;refine⟨⟨OA,OA⟩,?_⟩;conv=>whnf
  refine⟨⟨OA,OA⟩,?_⟩;conv=>whnf
  refine gYc hu0 ?_;refine brI (fun k1=>?_) (fun k1=>?_)
  .have k1:e0≠0:=by simpa using k1
   rw[Z6 (.inl k1)]at h5;subst h5;conv=>whnf
   refine gYn h25 ?_;exact⟨lr rfl,leG⟩
  have k1:e0=0:=by simpa using k1
  conv=>whnf
  refine brI (fun k2=>?_) (fun k2=>?_)
  .have k2:f0≠0:=by simpa using k2
   rw[Z6 (.inr k2)]at h5;subst h5;conv=>whnf
   refine gYn h25 ?_;exact⟨lr rfl,leG⟩
  have k2:f0=0:=by simpa using k2
  rw[Z7 (by simp[k1,k2])]at h5;conv=>whnf
  refine⟨(1,⟨⟨a01,a02,a03⟩,⟨b01,b02,b03⟩,false⟩),⟨by show 1<=4;decide,⟨vd0,vu0⟩,rfl,by exact h5⟩,by show 4-1<4-0;decide,?_⟩
  (conv=>whnf)
  refine q0 ?_ ?_
  .repeat' first|refine lc ?_ ?_|exact la0|exact lr rfl|exact ln0
  .repeat' first|refine lh1 ?_ ?_|exact lh0|exact bf0|exact bd0|exact wb rfl rfl|exact bg0 rfl
 .rw[g1]at h5;unfold stI at h5;simp only at h5;refine gYe ?_;refine⟨⟨by show(0:Int)<=1;decide,by show(1:Int)<4;decide⟩,?_⟩;conv=>whnf
  refine⟨⟨OA,OA⟩,?_⟩;conv=>whnf
  refine⟨⟨OA,OA⟩,?_⟩;conv=>whnf
  refine gYc hd1 ?_;refine⟨⟨OA,OA⟩,?_⟩;conv=>whnf
  refine⟨⟨OA,OA⟩,?_⟩;conv=>whnf
  refine gYc hu1 ?_;refine brI (fun k1=>?_) (fun k1=>?_)
  .have k1:e1≠0:=by simpa using k1
   rw[Z6 (.inl k1)]at h5;subst h5;conv=>whnf
   refine gYn h25 ?_;exact⟨lr rfl,leG⟩
  have k1:e1=0:=by simpa using k1
  conv=>whnf
  refine brI (fun k2=>?_) (fun k2=>?_)
  .have k2:f1≠0:=by simpa using k2
   rw[Z6 (.inr k2)]at h5;subst h5;conv=>whnf
   refine gYn h25 ?_;exact⟨lr rfl,leG⟩
  have k2:f1=0:=by simpa using k2
  rw[Z7 (by simp[k1,k2])]at h5;conv=>whnf
  refine gYn c1 ?_;refine brI (fun k3=>?_) (fun k3=>?_)
  .have k3:wa ⟨a11,a12,a13⟩ ⟨o1,o2,o3⟩<0:=Z0 k3;rw[Z6 k3]at h5;conv=>whnf
   refine gYn u1 ?_;refine brI (fun k4=>?_) (fun k4=>?_)
   .have k4:0<wa ⟨b11,b12,b13⟩ ⟨o4,o5,o6⟩:=Z0 k4;rw[Z6 k4]at h5;conv=>whnf
    refine⟨(2,⟨⟨a11,a12,a13⟩,⟨b11,b12,b13⟩,false⟩),⟨by show 2<=4;decide,⟨vd1,vu1⟩,rfl,by exact h5⟩,by show 4-2<4-1;decide,?_⟩
    (conv=>whnf)
    refine q0 ?_ ?_
    .repeat' first|refine lc ?_ ?_|exact la0|exact lr rfl|exact ln0
    .repeat' first|refine lh1 ?_ ?_|exact lh0|exact bf0|exact bd0|exact wb rfl rfl|exact bg0 rfl
   .have k4:¬0<wa ⟨b11,b12,b13⟩ ⟨o4,o5,o6⟩:=Z3 k4;rw[Z7 k4]at h5;conv=>whnf
    refine⟨(2,⟨⟨a11,a12,a13⟩,⟨o4,o5,o6⟩,false⟩),⟨by show 2<=4;decide,⟨vd1,h3⟩,rfl,by exact h5⟩,by show 4-2<4-1;decide,?_⟩
    (conv=>whnf)
    refine q0 ?_ ?_
    .repeat' first|refine lc ?_ ?_|exact la0|exact lr rfl|exact ln0
    .repeat' first|refine lh1 ?_ ?_|exact lh0|exact bf0|exact bd0|exact wb rfl rfl|exact bg0 rfl
  .have k3:¬wa ⟨a11,a12,a13⟩ ⟨o1,o2,o3⟩<0:=Z3 k3;rw[Z7 k3]at h5;conv=>whnf
   refine gYn u1 ?_;refine brI (fun k4=>?_) (fun k4=>?_)
   .have k4:0<wa ⟨b11,b12,b13⟩ ⟨o4,o5,o6⟩:=Z0 k4;rw[Z6 k4]at h5;conv=>whnf
    refine⟨(2,⟨⟨o1,o2,o3⟩,⟨b11,b12,b13⟩,false⟩),⟨by show 2<=4;decide,⟨h2,vu1⟩,rfl,by exact h5⟩,by show 4-2<4-1;decide,?_⟩
    (conv=>whnf)
    refine q0 ?_ ?_
    .repeat' first|refine lc ?_ ?_|exact la0|exact lr rfl|exact ln0
    .repeat' first|refine lh1 ?_ ?_|exact lh0|exact bf0|exact bd0|exact wb rfl rfl|exact bg0 rfl
   .have k4:¬0<wa ⟨b11,b12,b13⟩ ⟨o4,o5,o6⟩:=Z3 k4;rw[Z7 k4]at h5;conv=>whnf
    refine⟨(2,⟨⟨o1,o2,o3⟩,⟨o4,o5,o6⟩,false⟩),⟨by show 2<=4;decide,⟨h2,h3⟩,rfl,by exact h5⟩,by show 4-2<4-1;decide,?_⟩
    (conv=>whnf)
    refine q0 ?_ ?_
    .repeat' first|refine lc ?_ ?_|exact la0|exact lr rfl|exact ln0
    .repeat' first|refine lh1 ?_ ?_|exact lh0|exact bf0|exact bd0|exact wb rfl rfl|exact bg0 rfl
 .rw[g2]at h5;unfold stI at h5;simp only at h5;refine gYe ?_;refine⟨⟨by show(0:Int)<=2;decide,by show(2:Int)<4;decide⟩,?_⟩;conv=>whnf
  refine⟨⟨OA,OA⟩,?_⟩;conv=>whnf
  refine⟨⟨OA,OA⟩,?_⟩;conv=>whnf
  refine gYc hd2 ?_;refine⟨⟨OA,OA⟩,?_⟩;conv=>whnf
  refine⟨⟨OA,OA⟩,?_⟩;conv=>whnf
  refine gYc hu2 ?_;refine brI (fun k1=>?_) (fun k1=>?_)
  .have k1:e2≠0:=by simpa using k1
   rw[Z6 (.inl k1)]at h5;subst h5;conv=>whnf
   refine gYn h25 ?_;exact⟨lr rfl,leG⟩
  have k1:e2=0:=by simpa using k1
  conv=>whnf
  refine brI (fun k2=>?_) (fun k2=>?_)
  .have k2:f2≠0:=by simpa using k2
   rw[Z6 (.inr k2)]at h5;subst h5;conv=>whnf
   refine gYn h25 ?_;exact⟨lr rfl,leG⟩
  have k2:f2=0:=by simpa using k2
  rw[Z7 (by simp[k1,k2])]at h5;conv=>whnf
  refine gYn c2 ?_;refine brI (fun k3=>?_) (fun k3=>?_)
  .have k3:wa ⟨a21,a22,a23⟩ ⟨o1,o2,o3⟩<0:=Z0 k3;rw[Z6 k3]at h5;conv=>whnf
   refine gYn u2 ?_;refine brI (fun k4=>?_) (fun k4=>?_)
   .have k4:0<wa ⟨b21,b22,b23⟩ ⟨o4,o5,o6⟩:=Z0 k4;rw[Z6 k4]at h5;conv=>whnf
    refine⟨(3,⟨⟨a21,a22,a23⟩,⟨b21,b22,b23⟩,false⟩),⟨by show 3<=4;decide,⟨vd2,vu2⟩,rfl,by exact h5⟩,by show 4-3<4-2;decide,?_⟩
    (conv=>whnf)
    refine q0 ?_ ?_
    .repeat' first|refine lc ?_ ?_|exact la0|exact lr rfl|exact ln0
    .repeat' first|refine lh1 ?_ ?_|exact lh0|exact bf0|exact bd0|exact wb rfl rfl|exact bg0 rfl
   .have k4:¬0<wa ⟨b21,b22,b23⟩ ⟨o4,o5,o6⟩:=Z3 k4;rw[Z7 k4]at h5;conv=>whnf
    refine⟨(3,⟨⟨a21,a22,a23⟩,⟨o4,o5,o6⟩,false⟩),⟨by show 3<=4;decide,⟨vd2,h3⟩,rfl,by exact h5⟩,by show 4-3<4-2;decide,?_⟩
    (conv=>whnf)
    refine q0 ?_ ?_
    .repeat' first|refine lc ?_ ?_|exact la0|exact lr rfl|exact ln0
    .repeat' first|refine lh1 ?_ ?_|exact lh0|exact bf0|exact bd0|exact wb rfl rfl|exact bg0 rfl
  .have k3:¬wa ⟨a21,a22,a23⟩ ⟨o1,o2,o3⟩<0:=Z3 k3;rw[Z7 k3]at h5;conv=>whnf
   refine gYn u2 ?_;refine brI (fun k4=>?_) (fun k4=>?_)
   .have k4:0<wa ⟨b21,b22,b23⟩ ⟨o4,o5,o6⟩:=Z0 k4;rw[Z6 k4]at h5;conv=>whnf
    refine⟨(3,⟨⟨o1,o2,o3⟩,⟨b21,b22,b23⟩,false⟩),⟨by show 3<=4;decide,⟨h2,vu2⟩,rfl,by exact h5⟩,by show 4-3<4-2;decide,?_⟩
    (conv=>whnf)
    refine q0 ?_ ?_
    .repeat' first|refine lc ?_ ?_|exact la0|exact lr rfl|exact ln0
    .repeat' first|refine lh1 ?_ ?_|exact lh0|exact bf0|exact bd0|exact wb rfl rfl|exact bg0 rfl
   .have k4:¬0<wa ⟨b21,b22,b23⟩ ⟨o4,o5,o6⟩:=Z3 k4;rw[Z7 k4]at h5;conv=>whnf
    refine⟨(3,⟨⟨o1,o2,o3⟩,⟨o4,o5,o6⟩,false⟩),⟨by show 3<=4;decide,⟨h2,h3⟩,rfl,by exact h5⟩,by show 4-3<4-2;decide,?_⟩
    (conv=>whnf)
    refine q0 ?_ ?_
    .repeat' first|refine lc ?_ ?_|exact la0|exact lr rfl|exact ln0
    .repeat' first|refine lh1 ?_ ?_|exact lh0|exact bf0|exact bd0|exact wb rfl rfl|exact bg0 rfl
 .rw[g3]at h5;unfold stI at h5;simp only at h5;refine gYe ?_;refine⟨⟨by show(0:Int)<=3;decide,by show(3:Int)<4;decide⟩,?_⟩;conv=>whnf
  refine⟨⟨OA,OA⟩,?_⟩;conv=>whnf
  refine⟨⟨OA,OA⟩,?_⟩;conv=>whnf
  refine gYc hd3 ?_;refine⟨⟨OA,OA⟩,?_⟩;conv=>whnf
  refine⟨⟨OA,OA⟩,?_⟩;conv=>whnf
  refine gYc hu3 ?_;refine brI (fun k1=>?_) (fun k1=>?_)
  .have k1:e3≠0:=by simpa using k1
   rw[Z6 (.inl k1)]at h5;subst h5;conv=>whnf
   refine gYn h25 ?_;exact⟨lr rfl,leG⟩
  have k1:e3=0:=by simpa using k1
  conv=>whnf
  refine brI (fun k2=>?_) (fun k2=>?_)
  .have k2:f3≠0:=by simpa using k2
   rw[Z6 (.inr k2)]at h5;subst h5;conv=>whnf
   refine gYn h25 ?_;exact⟨lr rfl,leG⟩
  have k2:f3=0:=by simpa using k2
  rw[Z7 (by simp[k1,k2])]at h5;conv=>whnf
  refine gYn c3 ?_;refine brI (fun k3=>?_) (fun k3=>?_)
  .have k3:wa ⟨a31,a32,a33⟩ ⟨o1,o2,o3⟩<0:=Z0 k3;rw[Z6 k3]at h5;conv=>whnf
   refine gYn u3 ?_;refine brI (fun k4=>?_) (fun k4=>?_)
   .have k4:0<wa ⟨b31,b32,b33⟩ ⟨o4,o5,o6⟩:=Z0 k4;rw[Z6 k4]at h5;conv=>whnf
    refine⟨(4,⟨⟨a31,a32,a33⟩,⟨b31,b32,b33⟩,false⟩),⟨by show 4<=4;decide,⟨vd3,vu3⟩,rfl,by rw[g4];exact h5⟩,by show 4-4<4-3;decide,?_⟩
    (conv=>whnf)
    refine q0 ?_ ?_
    .repeat' first|refine lc ?_ ?_|exact la0|exact lr rfl|exact ln0
    .repeat' first|refine lh1 ?_ ?_|exact lh0|exact bf0|exact bd0|exact wb rfl rfl|exact bg0 rfl
   .have k4:¬0<wa ⟨b31,b32,b33⟩ ⟨o4,o5,o6⟩:=Z3 k4;rw[Z7 k4]at h5;conv=>whnf
    refine⟨(4,⟨⟨a31,a32,a33⟩,⟨o4,o5,o6⟩,false⟩),⟨by show 4<=4;decide,⟨vd3,h3⟩,rfl,by rw[g4];exact h5⟩,by show 4-4<4-3;decide,?_⟩
    (conv=>whnf)
    refine q0 ?_ ?_
    .repeat' first|refine lc ?_ ?_|exact la0|exact lr rfl|exact ln0
    .repeat' first|refine lh1 ?_ ?_|exact lh0|exact bf0|exact bd0|exact wb rfl rfl|exact bg0 rfl
  .have k3:¬wa ⟨a31,a32,a33⟩ ⟨o1,o2,o3⟩<0:=Z3 k3;rw[Z7 k3]at h5;conv=>whnf
   refine gYn u3 ?_;refine brI (fun k4=>?_) (fun k4=>?_)
   .have k4:0<wa ⟨b31,b32,b33⟩ ⟨o4,o5,o6⟩:=Z0 k4;rw[Z6 k4]at h5;conv=>whnf
    refine⟨(4,⟨⟨o1,o2,o3⟩,⟨b31,b32,b33⟩,false⟩),⟨by show 4<=4;decide,⟨h2,vu3⟩,rfl,by rw[g4];exact h5⟩,by show 4-4<4-3;decide,?_⟩
    (conv=>whnf)
    refine q0 ?_ ?_
    .repeat' first|refine lc ?_ ?_|exact la0|exact lr rfl|exact ln0
    .repeat' first|refine lh1 ?_ ?_|exact lh0|exact bf0|exact bd0|exact wb rfl rfl|exact bg0 rfl
   .have k4:¬0<wa ⟨b31,b32,b33⟩ ⟨o4,o5,o6⟩:=Z3 k4;rw[Z7 k4]at h5;conv=>whnf
    refine⟨(4,⟨⟨o1,o2,o3⟩,⟨o4,o5,o6⟩,false⟩),⟨by show 4<=4;decide,⟨h2,h3⟩,rfl,by rw[g4];exact h5⟩,by show 4-4<4-3;decide,?_⟩
    (conv=>whnf)
    refine q0 ?_ ?_
    .repeat' first|refine lc ?_ ?_|exact la0|exact lr rfl|exact ln0
    .repeat' first|refine lh1 ?_ ?_|exact lh0|exact bf0|exact bd0|exact wb rfl rfl|exact bg0 rfl
 .rw[g4]at h5;subst h5;refine gYe ?_;exact⟨lr rfl,leG⟩
theorem i131d{x y:Iv}(hx:KI x)(hy:KI y)(p:Nat)(hp:8<=p/\p<=512):Fn 101 G0 [.agg (ivC x),.agg (ivC y),.int .i64 p,.fn 111 [],.fn 113 []] (.agg (ivC (jt (fun a b=>zbv a b p false) (fun a b=>zbv a b p true) x y))) G0:=by
 have h25:=i25;rw[e25]at h25;have hd0:=v76 hx.lo hy.lo p hp;have hu0:=v78 hx.lo hy.lo p hp;have vd0:=zc5 x.lo y.lo false p hp;have vu0:=zc5 x.lo y.lo true p hp;have hd1:=v76 hx.lo hy.hi p hp;have hu1:=v78 hx.lo hy.hi p hp;have vd1:=zc5 x.lo y.hi false p hp;have vu1:=zc5 x.lo y.hi true p hp;have hd2:=v76 hx.hi hy.lo p hp;have hu2:=v78 hx.hi hy.lo p hp;have vd2:=zc5 x.hi y.lo false p hp;have vu2:=zc5 x.hi y.lo true p hp;have hd3:=v76 hx.hi hy.hi p hp;have hu3:=v78 hx.hi hy.hi p hp;have vd3:=zc5 x.hi y.hi false p hp;have vu3:=zc5 x.hi y.hi true p hp;obtain⟨R,hR⟩:∃R,jt (fun a b=>zbv a b p false) (fun a b=>zbv a b p true) x y=R:=⟨_,rfl⟩;rw[hR];unfold jt at hR;obtain⟨D0,hD0⟩:∃A,zbv x.lo y.lo p false=A:=⟨_,rfl⟩;obtain⟨U0,hU0⟩:∃A,zbv x.lo y.lo p true=A:=⟨_,rfl⟩;rw[hD0]at hd0 vd0;rw[hU0]at hu0 vu0;obtain⟨D1,hD1⟩:∃A,zbv x.lo y.hi p false=A:=⟨_,rfl⟩;obtain⟨U1,hU1⟩:∃A,zbv x.lo y.hi p true=A:=⟨_,rfl⟩;rw[hD1]at hd1 vd1;rw[hU1]at hu1 vu1;obtain⟨D2,hD2⟩:∃A,zbv x.hi y.lo p false=A:=⟨_,rfl⟩;obtain⟨U2,hU2⟩:∃A,zbv x.hi y.lo p true=A:=⟨_,rfl⟩;rw[hD2]at hd2 vd2;rw[hU2]at hu2 vu2;obtain⟨D3,hD3⟩:∃A,zbv x.hi y.hi p false=A:=⟨_,rfl⟩;obtain⟨U3,hU3⟩:∃A,zbv x.hi y.hi p true=A:=⟨_,rfl⟩;rw[hD3]at hd3 vd3;rw[hU3]at hu3 vu3;have g3:∀o,f4I (fun a b=>zbv a b p false) (fun a b=>zbv a b p true) x y 3 o=stI D3 U3 o (fun o=>o):=fun o=>by rw[<-hD3,<-hU3];rfl
 have g2:∀o,f4I (fun a b=>zbv a b p false) (fun a b=>zbv a b p true) x y 2 o=stI D2 U2 o (f4I (fun a b=>zbv a b p false) (fun a b=>zbv a b p true) x y 3):=fun o=>by rw[<-hD2,<-hU2];rfl
 have g1:∀o,f4I (fun a b=>zbv a b p false) (fun a b=>zbv a b p true) x y 1 o=stI D1 U1 o (f4I (fun a b=>zbv a b p false) (fun a b=>zbv a b p true) x y 2):=fun o=>by rw[<-hD1,<-hU1];rfl
 have g0:∀o,f4I (fun a b=>zbv a b p false) (fun a b=>zbv a b p true) x y 0 o=s0I D0 U0 (f4I (fun a b=>zbv a b p false) (fun a b=>zbv a b p true) x y 1):=fun o=>by rw[<-hD0,<-hU0];rfl
 have g4:∀o,f4I (fun a b=>zbv a b p false) (fun a b=>zbv a b p true) x y 4 o=o:=fun o=>rfl
 generalize f4I (fun a b=>zbv a b p false) (fun a b=>zbv a b p true) x y=G at*;clear hD0 hD1 hD2 hD3 hU0 hU1 hU2 hU3 hx hy;obtain⟨⟨a01,a02,a03⟩,e0⟩:=D0;obtain⟨⟨b01,b02,b03⟩,f0⟩:=U0;obtain⟨⟨a11,a12,a13⟩,e1⟩:=D1;obtain⟨⟨b11,b12,b13⟩,f1⟩:=U1;obtain⟨⟨a21,a22,a23⟩,e2⟩:=D2;obtain⟨⟨b21,b22,b23⟩,f2⟩:=U2;obtain⟨⟨a31,a32,a33⟩,e3⟩:=D3;obtain⟨⟨b31,b32,b33⟩,f3⟩:=U3;obtain⟨⟨x1,x2,x3⟩,⟨x4,x5,x6⟩,x7⟩:=x;obtain⟨⟨y1,y2,y3⟩,⟨y4,y5,y6⟩,y7⟩:=y;have hd0:Fn 111 G0 [.agg [.bool x1,.sl .u32 x2,.int .i64 x3],.agg [.bool y1,.sl .u32 y2,.int .i64 y3],.int .i64 p] (dyV (⟨a01,a02,a03⟩,e0)) G0:=hd0;have hu0:Fn 113 G0 [.agg [.bool x1,.sl .u32 x2,.int .i64 x3],.agg [.bool y1,.sl .u32 y2,.int .i64 y3],.int .i64 p] (dyV (⟨b01,b02,b03⟩,f0)) G0:=hu0;simp only at vd0 vu0;have hd1:Fn 111 G0 [.agg [.bool x1,.sl .u32 x2,.int .i64 x3],.agg [.bool y4,.sl .u32 y5,.int .i64 y6],.int .i64 p] (dyV (⟨a11,a12,a13⟩,e1)) G0:=hd1;have hu1:Fn 113 G0 [.agg [.bool x1,.sl .u32 x2,.int .i64 x3],.agg [.bool y4,.sl .u32 y5,.int .i64 y6],.int .i64 p] (dyV (⟨b11,b12,b13⟩,f1)) G0:=hu1;simp only at vd1 vu1;have hd2:Fn 111 G0 [.agg [.bool x4,.sl .u32 x5,.int .i64 x6],.agg [.bool y1,.sl .u32 y2,.int .i64 y3],.int .i64 p] (dyV (⟨a21,a22,a23⟩,e2)) G0:=hd2;have hu2:Fn 113 G0 [.agg [.bool x4,.sl .u32 x5,.int .i64 x6],.agg [.bool y1,.sl .u32 y2,.int .i64 y3],.int .i64 p] (dyV (⟨b21,b22,b23⟩,f2)) G0:=hu2;simp only at vd2 vu2;have hd3:Fn 111 G0 [.agg [.bool x4,.sl .u32 x5,.int .i64 x6],.agg [.bool y4,.sl .u32 y5,.int .i64 y6],.int .i64 p] (dyV (⟨a31,a32,a33⟩,e3)) G0:=hd3;have hu3:Fn 113 G0 [.agg [.bool x4,.sl .u32 x5,.int .i64 x6],.agg [.bool y4,.sl .u32 y5,.int .i64 y6],.int .i64 p] (dyV (⟨b31,b32,b33⟩,f3)) G0:=hu3;simp only at vd3 vu3;show Fn 101 G0 [.agg [.bool x1,.sl .u32 x2,.int .i64 x3,.bool x4,.sl .u32 x5,.int .i64 x6,.bool x7],.agg [.bool y1,.sl .u32 y2,.int .i64 y3,.bool y4,.sl .u32 y5,.int .i64 y6,.bool y7],.int .i64 p,.fn 111 [],.fn 113 []] _ G0;refine fY6 Tryz.func101 rfl ?_
 refine⟨Nat×Iv,fun s=>s.1<=4/\(VD s.2.lo/\VD s.2.hi)/\s.2.all=false/\G s.1 s.2=R,fun s=> [(41,.int .i64 s.1)],fun s=> [(12,.cells (ivC s.2))],fun s=>4-s.1,(0,⟨d0,d0,false⟩),?_,?_,fun s hs=>?_⟩
 .exact⟨OC,⟨qv,qv⟩,rfl,by rw[<-hR];simp only;rw[g0,g0]⟩
 .exact KZ0
 obtain⟨i,o⟩:=s;obtain⟨h1,⟨h2,h3⟩,h4,h5⟩:=hs;simp only at h1 h2 h3 h4 h5;have c0:Fn 53 [] [.agg [.bool a01,.sl .u32 a02,.int .i64 a03],.agg (dyC o.lo)] (.int .i64 (wa ⟨a01,a02,a03⟩ o.lo)) []:=v81 vd0 h2;have u0:Fn 53 [] [.agg [.bool b01,.sl .u32 b02,.int .i64 b03],.agg (dyC o.hi)] (.int .i64 (wa ⟨b01,b02,b03⟩ o.hi)) []:=v81 vu0 h3;have c1:Fn 53 [] [.agg [.bool a11,.sl .u32 a12,.int .i64 a13],.agg (dyC o.lo)] (.int .i64 (wa ⟨a11,a12,a13⟩ o.lo)) []:=v81 vd1 h2;have u1:Fn 53 [] [.agg [.bool b11,.sl .u32 b12,.int .i64 b13],.agg (dyC o.hi)] (.int .i64 (wa ⟨b11,b12,b13⟩ o.hi)) []:=v81 vu1 h3;have c2:Fn 53 [] [.agg [.bool a21,.sl .u32 a22,.int .i64 a23],.agg (dyC o.lo)] (.int .i64 (wa ⟨a21,a22,a23⟩ o.lo)) []:=v81 vd2 h2;have u2:Fn 53 [] [.agg [.bool b21,.sl .u32 b22,.int .i64 b23],.agg (dyC o.hi)] (.int .i64 (wa ⟨b21,b22,b23⟩ o.hi)) []:=v81 vu2 h3;have c3:Fn 53 [] [.agg [.bool a31,.sl .u32 a32,.int .i64 a33],.agg (dyC o.lo)] (.int .i64 (wa ⟨a31,a32,a33⟩ o.lo)) []:=v81 vd3 h2;have u3:Fn 53 [] [.agg [.bool b31,.sl .u32 b32,.int .i64 b33],.agg (dyC o.hi)] (.int .i64 (wa ⟨b31,b32,b33⟩ o.hi)) []:=v81 vu3 h3;obtain⟨⟨o1,o2,o3⟩,⟨o4,o5,o6⟩,o7⟩:=o;simp only at h4 h2 h3;subst h4;have c0:Fn 53 [] [.agg [.bool a01,.sl .u32 a02,.int .i64 a03],.agg [.bool o1,.sl .u32 o2,.int .i64 o3]] (.int .i64 (wa ⟨a01,a02,a03⟩ ⟨o1,o2,o3⟩)) []:=c0;have u0:Fn 53 [] [.agg [.bool b01,.sl .u32 b02,.int .i64 b03],.agg [.bool o4,.sl .u32 o5,.int .i64 o6]] (.int .i64 (wa ⟨b01,b02,b03⟩ ⟨o4,o5,o6⟩)) []:=u0;have c1:Fn 53 [] [.agg [.bool a11,.sl .u32 a12,.int .i64 a13],.agg [.bool o1,.sl .u32 o2,.int .i64 o3]] (.int .i64 (wa ⟨a11,a12,a13⟩ ⟨o1,o2,o3⟩)) []:=c1;have u1:Fn 53 [] [.agg [.bool b11,.sl .u32 b12,.int .i64 b13],.agg [.bool o4,.sl .u32 o5,.int .i64 o6]] (.int .i64 (wa ⟨b11,b12,b13⟩ ⟨o4,o5,o6⟩)) []:=u1;have c2:Fn 53 [] [.agg [.bool a21,.sl .u32 a22,.int .i64 a23],.agg [.bool o1,.sl .u32 o2,.int .i64 o3]] (.int .i64 (wa ⟨a21,a22,a23⟩ ⟨o1,o2,o3⟩)) []:=c2
 have u2:Fn 53 [] [.agg [.bool b21,.sl .u32 b22,.int .i64 b23],.agg [.bool o4,.sl .u32 o5,.int .i64 o6]] (.int .i64 (wa ⟨b21,b22,b23⟩ ⟨o4,o5,o6⟩)) []:=u2;have c3:Fn 53 [] [.agg [.bool a31,.sl .u32 a32,.int .i64 a33],.agg [.bool o1,.sl .u32 o2,.int .i64 o3]] (.int .i64 (wa ⟨a31,a32,a33⟩ ⟨o1,o2,o3⟩)) []:=c3;have u3:Fn 53 [] [.agg [.bool b31,.sl .u32 b32,.int .i64 b33],.agg [.bool o4,.sl .u32 o5,.int .i64 o6]] (.int .i64 (wa ⟨b31,b32,b33⟩ ⟨o4,o5,o6⟩)) []:=u3;obtain rfl|rfl|rfl|rfl|rfl:i=0\/i=1\/i=2\/i=3\/i=4:=O
 .rw[g0]at h5;unfold s0I at h5;simp only at h5;refine gYe ?_;refine⟨⟨by show(0:Int)<=0;decide,by show(0:Int)<4;decide⟩,?_⟩;conv=>whnf
  refine⟨⟨OA,OA⟩,?_⟩;conv=>whnf
  refine⟨⟨OA,OA⟩,?_⟩;conv=>whnf
  refine gYc hd0 ?_;refine⟨⟨OA,OA⟩,?_⟩;conv=>whnf
  refine⟨⟨OA,OA⟩,?_⟩;conv=>whnf
  refine gYc hu0 ?_;refine brI (fun k1=>?_) (fun k1=>?_)
  .have k1:e0≠0:=by simpa using k1
   rw[Z6 (.inl k1)]at h5;subst h5;conv=>whnf
   refine gYn h25 ?_;exact⟨lr rfl,leG⟩
  have k1:e0=0:=by simpa using k1
  conv=>whnf
  refine brI (fun k2=>?_) (fun k2=>?_)
  .have k2:f0≠0:=by simpa using k2
   rw[Z6 (.inr k2)]at h5;subst h5;conv=>whnf
   refine gYn h25 ?_;exact⟨lr rfl,leG⟩
  have k2:f0=0:=by simpa using k2
  rw[Z7 (by simp[k1,k2])]at h5;conv=>whnf
  refine⟨(1,⟨⟨a01,a02,a03⟩,⟨b01,b02,b03⟩,false⟩),⟨by show 1<=4;decide,⟨vd0,vu0⟩,rfl,by exact h5⟩,by show 4-1<4-0;decide,?_⟩
  (conv=>whnf)
  refine q0 ?_ ?_
  .repeat' first|refine lc ?_ ?_|exact la0|exact lr rfl|exact ln0
  .repeat' first|refine lh1 ?_ ?_|exact lh0|exact bf0|exact bd0|exact wb rfl rfl|exact bg0 rfl
 .rw[g1]at h5;unfold stI at h5;simp only at h5;refine gYe ?_;refine⟨⟨by show(0:Int)<=1;decide,by show(1:Int)<4;decide⟩,?_⟩;conv=>whnf
  refine⟨⟨OA,OA⟩,?_⟩;conv=>whnf
  refine⟨⟨OA,OA⟩,?_⟩;conv=>whnf
  refine gYc hd1 ?_;refine⟨⟨OA,OA⟩,?_⟩;conv=>whnf
  refine⟨⟨OA,OA⟩,?_⟩;conv=>whnf
  refine gYc hu1 ?_;refine brI (fun k1=>?_) (fun k1=>?_)
  .have k1:e1≠0:=by simpa using k1
   rw[Z6 (.inl k1)]at h5;subst h5;conv=>whnf
   refine gYn h25 ?_;exact⟨lr rfl,leG⟩
  have k1:e1=0:=by simpa using k1
  conv=>whnf
  refine brI (fun k2=>?_) (fun k2=>?_)
  .have k2:f1≠0:=by simpa using k2
   rw[Z6 (.inr k2)]at h5;subst h5;conv=>whnf
   refine gYn h25 ?_;exact⟨lr rfl,leG⟩
  have k2:f1=0:=by simpa using k2
  rw[Z7 (by simp[k1,k2])]at h5;conv=>whnf
  refine gYn c1 ?_;refine brI (fun k3=>?_) (fun k3=>?_)
  .have k3:wa ⟨a11,a12,a13⟩ ⟨o1,o2,o3⟩<0:=Z0 k3;rw[Z6 k3]at h5;conv=>whnf
   refine gYn u1 ?_;refine brI (fun k4=>?_) (fun k4=>?_)
   .have k4:0<wa ⟨b11,b12,b13⟩ ⟨o4,o5,o6⟩:=Z0 k4;rw[Z6 k4]at h5;conv=>whnf
    refine⟨(2,⟨⟨a11,a12,a13⟩,⟨b11,b12,b13⟩,false⟩),⟨by show 2<=4;decide,⟨vd1,vu1⟩,rfl,by exact h5⟩,by show 4-2<4-1;decide,?_⟩
    (conv=>whnf)
    refine q0 ?_ ?_
    .repeat' first|refine lc ?_ ?_|exact la0|exact lr rfl|exact ln0
    .repeat' first|refine lh1 ?_ ?_|exact lh0|exact bf0|exact bd0|exact wb rfl rfl|exact bg0 rfl
   .have k4:¬0<wa ⟨b11,b12,b13⟩ ⟨o4,o5,o6⟩:=Z3 k4;rw[Z7 k4]at h5;conv=>whnf
    refine⟨(2,⟨⟨a11,a12,a13⟩,⟨o4,o5,o6⟩,false⟩),⟨by show 2<=4;decide,⟨vd1,h3⟩,rfl,by exact h5⟩,by show 4-2<4-1;decide,?_⟩
    (conv=>whnf)
    refine q0 ?_ ?_
    .repeat' first|refine lc ?_ ?_|exact la0|exact lr rfl|exact ln0
    .repeat' first|refine lh1 ?_ ?_|exact lh0|exact bf0|exact bd0|exact wb rfl rfl|exact bg0 rfl
  .have k3:¬wa ⟨a11,a12,a13⟩ ⟨o1,o2,o3⟩<0:=Z3 k3;rw[Z7 k3]at h5;conv=>whnf
   refine gYn u1 ?_;refine brI (fun k4=>?_) (fun k4=>?_)
   .have k4:0<wa ⟨b11,b12,b13⟩ ⟨o4,o5,o6⟩:=Z0 k4;rw[Z6 k4]at h5;conv=>whnf
    refine⟨(2,⟨⟨o1,o2,o3⟩,⟨b11,b12,b13⟩,false⟩),⟨by show 2<=4;decide,⟨h2,vu1⟩,rfl,by exact h5⟩,by show 4-2<4-1;decide,?_⟩
    (conv=>whnf)
    refine q0 ?_ ?_
    .repeat' first|refine lc ?_ ?_|exact la0|exact lr rfl|exact ln0
    .repeat' first|refine lh1 ?_ ?_|exact lh0|exact bf0|exact bd0|exact wb rfl rfl|exact bg0 rfl
   .have k4:¬0<wa ⟨b11,b12,b13⟩ ⟨o4,o5,o6⟩:=Z3 k4;rw[Z7 k4]at h5;conv=>whnf
    refine⟨(2,⟨⟨o1,o2,o3⟩,⟨o4,o5,o6⟩,false⟩),⟨by show 2<=4;decide,⟨h2,h3⟩,rfl,by exact h5⟩,by show 4-2<4-1;decide,?_⟩
    (conv=>whnf)
    refine q0 ?_ ?_
    .repeat' first|refine lc ?_ ?_|exact la0|exact lr rfl|exact ln0
    .repeat' first|refine lh1 ?_ ?_|exact lh0|exact bf0|exact bd0|exact wb rfl rfl|exact bg0 rfl
 .rw[g2]at h5;unfold stI at h5;simp only at h5;refine gYe ?_;refine⟨⟨by show(0:Int)<=2;decide,by show(2:Int)<4;decide⟩,?_⟩;conv=>whnf
  refine⟨⟨OA,OA⟩,?_⟩;conv=>whnf
  refine⟨⟨OA,OA⟩,?_⟩;conv=>whnf
  refine gYc hd2 ?_;refine⟨⟨OA,OA⟩,?_⟩;conv=>whnf
  refine⟨⟨OA,OA⟩,?_⟩;conv=>whnf
  refine gYc hu2 ?_;refine brI (fun k1=>?_) (fun k1=>?_)
  .have k1:e2≠0:=by simpa using k1
   rw[Z6 (.inl k1)]at h5;subst h5;conv=>whnf
   refine gYn h25 ?_;exact⟨lr rfl,leG⟩
  have k1:e2=0:=by simpa using k1
  conv=>whnf
  refine brI (fun k2=>?_) (fun k2=>?_)
  .have k2:f2≠0:=by simpa using k2
   rw[Z6 (.inr k2)]at h5;subst h5;conv=>whnf
   refine gYn h25 ?_;exact⟨lr rfl,leG⟩
  have k2:f2=0:=by simpa using k2
  rw[Z7 (by simp[k1,k2])]at h5;conv=>whnf
  refine gYn c2 ?_;refine brI (fun k3=>?_) (fun k3=>?_)
  .have k3:wa ⟨a21,a22,a23⟩ ⟨o1,o2,o3⟩<0:=Z0 k3;rw[Z6 k3]at h5;conv=>whnf
   refine gYn u2 ?_;refine brI (fun k4=>?_) (fun k4=>?_)
   .have k4:0<wa ⟨b21,b22,b23⟩ ⟨o4,o5,o6⟩:=Z0 k4;rw[Z6 k4]at h5;conv=>whnf
    refine⟨(3,⟨⟨a21,a22,a23⟩,⟨b21,b22,b23⟩,false⟩),⟨by show 3<=4;decide,⟨vd2,vu2⟩,rfl,by exact h5⟩,by show 4-3<4-2;decide,?_⟩
    (conv=>whnf)
    refine q0 ?_ ?_
    .repeat' first|refine lc ?_ ?_|exact la0|exact lr rfl|exact ln0
    .repeat' first|refine lh1 ?_ ?_|exact lh0|exact bf0|exact bd0|exact wb rfl rfl|exact bg0 rfl
   .have k4:¬0<wa ⟨b21,b22,b23⟩ ⟨o4,o5,o6⟩:=Z3 k4;rw[Z7 k4]at h5;conv=>whnf
    refine⟨(3,⟨⟨a21,a22,a23⟩,⟨o4,o5,o6⟩,false⟩),⟨by show 3<=4;decide,⟨vd2,h3⟩,rfl,by exact h5⟩,by show 4-3<4-2;decide,?_⟩
    (conv=>whnf)
    refine q0 ?_ ?_
    .repeat' first|refine lc ?_ ?_|exact la0|exact lr rfl|exact ln0
    .repeat' first|refine lh1 ?_ ?_|exact lh0|exact bf0|exact bd0|exact wb rfl rfl|exact bg0 rfl
  .have k3:¬wa ⟨a21,a22,a23⟩ ⟨o1,o2,o3⟩<0:=Z3 k3;rw[Z7 k3]at h5;conv=>whnf
   refine gYn u2 ?_;refine brI (fun k4=>?_) (fun k4=>?_)
   .have k4:0<wa ⟨b21,b22,b23⟩ ⟨o4,o5,o6⟩:=Z0 k4;rw[Z6 k4]at h5;conv=>whnf
    refine⟨(3,⟨⟨o1,o2,o3⟩,⟨b21,b22,b23⟩,false⟩),⟨by show 3<=4;decide,⟨h2,vu2⟩,rfl,by exact h5⟩,by show 4-3<4-2;decide,?_⟩
    (conv=>whnf)
    refine q0 ?_ ?_
    .repeat' first|refine lc ?_ ?_|exact la0|exact lr rfl|exact ln0
    .repeat' first|refine lh1 ?_ ?_|exact lh0|exact bf0|exact bd0|exact wb rfl rfl|exact bg0 rfl
   .have k4:¬0<wa ⟨b21,b22,b23⟩ ⟨o4,o5,o6⟩:=Z3 k4;rw[Z7 k4]at h5;conv=>whnf
    refine⟨(3,⟨⟨o1,o2,o3⟩,⟨o4,o5,o6⟩,false⟩),⟨by show 3<=4;decide,⟨h2,h3⟩,rfl,by exact h5⟩,by show 4-3<4-2;decide,?_⟩
    (conv=>whnf)
    refine q0 ?_ ?_
    .repeat' first|refine lc ?_ ?_|exact la0|exact lr rfl|exact ln0
    .repeat' first|refine lh1 ?_ ?_|exact lh0|exact bf0|exact bd0|exact wb rfl rfl|exact bg0 rfl
 .rw[g3]at h5;unfold stI at h5;simp only at h5;refine gYe ?_;refine⟨⟨by show(0:Int)<=3;decide,by show(3:Int)<4;decide⟩,?_⟩;conv=>whnf
  refine⟨⟨OA,OA⟩,?_⟩;conv=>whnf
  refine⟨⟨OA,OA⟩,?_⟩;conv=>whnf
  refine gYc hd3 ?_;refine⟨⟨OA,OA⟩,?_⟩;conv=>whnf
  refine⟨⟨OA,OA⟩,?_⟩;conv=>whnf
  refine gYc hu3 ?_;refine brI (fun k1=>?_) (fun k1=>?_)
  .have k1:e3≠0:=by simpa using k1
   rw[Z6 (.inl k1)]at h5;subst h5;conv=>whnf
   refine gYn h25 ?_;exact⟨lr rfl,leG⟩
  have k1:e3=0:=by simpa using k1
  conv=>whnf
  refine brI (fun k2=>?_) (fun k2=>?_)
  .have k2:f3≠0:=by simpa using k2
   rw[Z6 (.inr k2)]at h5;subst h5;conv=>whnf
   refine gYn h25 ?_;exact⟨lr rfl,leG⟩
  have k2:f3=0:=by simpa using k2
  rw[Z7 (by simp[k1,k2])]at h5;conv=>whnf
  refine gYn c3 ?_;refine brI (fun k3=>?_) (fun k3=>?_)
  .have k3:wa ⟨a31,a32,a33⟩ ⟨o1,o2,o3⟩<0:=Z0 k3;rw[Z6 k3]at h5;conv=>whnf
   refine gYn u3 ?_;refine brI (fun k4=>?_) (fun k4=>?_)
   .have k4:0<wa ⟨b31,b32,b33⟩ ⟨o4,o5,o6⟩:=Z0 k4;rw[Z6 k4]at h5;conv=>whnf
    refine⟨(4,⟨⟨a31,a32,a33⟩,⟨b31,b32,b33⟩,false⟩),⟨by show 4<=4;decide,⟨vd3,vu3⟩,rfl,by rw[g4];exact h5⟩,by show 4-4<4-3;decide,?_⟩
    (conv=>whnf)
    refine q0 ?_ ?_
    .repeat' first|refine lc ?_ ?_|exact la0|exact lr rfl|exact ln0
    .repeat' first|refine lh1 ?_ ?_|exact lh0|exact bf0|exact bd0|exact wb rfl rfl|exact bg0 rfl
   .have k4:¬0<wa ⟨b31,b32,b33⟩ ⟨o4,o5,o6⟩:=Z3 k4;rw[Z7 k4]at h5;conv=>whnf
    refine⟨(4,⟨⟨a31,a32,a33⟩,⟨o4,o5,o6⟩,false⟩),⟨by show 4<=4;decide,⟨vd3,h3⟩,rfl,by rw[g4];exact h5⟩,by show 4-4<4-3;decide,?_⟩
    (conv=>whnf)
    refine q0 ?_ ?_
    .repeat' first|refine lc ?_ ?_|exact la0|exact lr rfl|exact ln0
    .repeat' first|refine lh1 ?_ ?_|exact lh0|exact bf0|exact bd0|exact wb rfl rfl|exact bg0 rfl
  .have k3:¬wa ⟨a31,a32,a33⟩ ⟨o1,o2,o3⟩<0:=Z3 k3;rw[Z7 k3]at h5;conv=>whnf
   refine gYn u3 ?_;refine brI (fun k4=>?_) (fun k4=>?_)
   .have k4:0<wa ⟨b31,b32,b33⟩ ⟨o4,o5,o6⟩:=Z0 k4;rw[Z6 k4]at h5;conv=>whnf
    refine⟨(4,⟨⟨o1,o2,o3⟩,⟨b31,b32,b33⟩,false⟩),⟨by show 4<=4;decide,⟨h2,vu3⟩,rfl,by rw[g4];exact h5⟩,by show 4-4<4-3;decide,?_⟩
    (conv=>whnf)
    refine q0 ?_ ?_
    .repeat' first|refine lc ?_ ?_|exact la0|exact lr rfl|exact ln0
    .repeat' first|refine lh1 ?_ ?_|exact lh0|exact bf0|exact bd0|exact wb rfl rfl|exact bg0 rfl
   .have k4:¬0<wa ⟨b31,b32,b33⟩ ⟨o4,o5,o6⟩:=Z3 k4;rw[Z7 k4]at h5;conv=>whnf
    refine⟨(4,⟨⟨o1,o2,o3⟩,⟨o4,o5,o6⟩,false⟩),⟨by show 4<=4;decide,⟨h2,h3⟩,rfl,by rw[g4];exact h5⟩,by show 4-4<4-3;decide,?_⟩
    (conv=>whnf)
    refine q0 ?_ ?_
    .repeat' first|refine lc ?_ ?_|exact la0|exact lr rfl|exact ln0
    .repeat' first|refine lh1 ?_ ?_|exact lh0|exact bf0|exact bd0|exact wb rfl rfl|exact bg0 rfl
 .rw[g4]at h5;subst h5;refine gYe ?_;exact⟨lr rfl,leG⟩
def ja(x y:Iv)(p:Int):Iv:=if(kB x&&kB y)=true/\pcB p=true then jt (fun a b=>ug a b p.toNat false) (fun a b=>ug a b p.toNat true) x y else wI0
theorem i84(x y:Iv)(hx:RI x)(hy:RI y)(p:Int):Fn 58 G0 [.agg (ivC x),.agg (ivC y),.int .i64 p] (.agg (ivC (ja x y p))) G0:=by
 have h126:=zni [x,y] OC (by simpa using⟨hx,hy⟩);rw[k2]at h126;have h127:=zwz p;have h25:=i25;rw[e25]at h25;have hR:ja x y p=if(kB x&&kB y)=true/\pcB p=true then jt (fun a b=>ug a b p.toNat false) (fun a b=>ug a b p.toNat true) x y else wI0:=rfl
 generalize ja x y p=R at*;by_cases hk:(kB x&&kB y)=true
 .rw[hk]at h126;by_cases hp:pcB p=true
  .rw[hp]at h127;rw[Z6 ⟨hk,hp⟩]at hR;rw[q2]at hk;have kx:=(zw hx).1 hk.1;have ky:=(zw hy).1 hk.2;obtain⟨q,rfl,hq⟩:=ux.1 hp;rw[q1]at hR;have n1:=i131m kx ky q hq;rw[<-hR]at n1;clear hR hk kx ky hx hy;refine fY6 Tryz.func58 rfl ?_;refine gYn h126 ?_;refine gYn h127 ?_;refine gYc n1 ?_;exact⟨lr rfl,leG⟩
  .rw[Z7 fun c=>hp c.2]at hR;rw[show pcB p=false by simpa using hp]at h127;subst hR;clear hk hx hy;refine fY6 Tryz.func58 rfl ?_;refine gYn h126 ?_;refine gYn h127 ?_;refine gYn h25 ?_;exact⟨lr rfl,leG⟩
 .rw[Z7 fun c=>hk c.1]at hR;rw[show(kB x&&kB y)=false by simpa using hk]at h126;subst hR;clear hk hx hy;refine fY6 Tryz.func58 rfl ?_;refine gYn h126 ?_;refine gYn h25 ?_;exact⟨lr rfl,leG⟩
def uq(x y:Iv)(p:Int):Iv:=if(kB x&&kB y)=true/\pcB p=true/\zct y≠0 then jt (fun a b=>zbv a b p.toNat false) (fun a b=>zbv a b p.toNat true) x y else wI0
theorem i85(x y:Iv)(hx:RI x)(hy:RI y)(p:Int):Fn 114 G0 [.agg (ivC x),.agg (ivC y),.int .i64 p] (.agg (ivC (uq x y p))) G0:=by
 have h126:=zni [x,y] OC (by simpa using⟨hx,hy⟩);rw[k2]at h126;have h127:=zwz p;have h25:=i25;have h134:=i134 y hy;rw[e25]at h25;have hR:uq x y p=if(kB x&&kB y)=true/\pcB p=true/\zct y≠0 then jt (fun a b=>zbv a b p.toNat false) (fun a b=>zbv a b p.toNat true) x y else wI0:=rfl
 generalize uq x y p=R at*;generalize zct y=S at*;by_cases hk:(kB x&&kB y)=true
 .rw[hk]at h126;by_cases hp:pcB p=true
  .rw[hp]at h127;by_cases hs:S=0
   .rw[Z7 fun c=>c.2.2 hs]at hR;subst hR hs;clear hk hx hy;refine fY6 Tryz.func114 rfl ?_;refine gYn h126 ?_;refine gYn h127 ?_;refine gYn h134 ?_;refine gYn h25 ?_;exact⟨lr rfl,leG⟩
   rw[Z6 ⟨hk,hp,hs⟩]at hR;rw[q2]at hk;have kx:=(zw hx).1 hk.1;have ky:=(zw hy).1 hk.2;obtain⟨q,rfl,hq⟩:=ux.1 hp;rw[q1]at hR;have n1:=i131d kx ky q hq;rw[<-hR]at n1;clear hR hk kx ky hx hy;refine fY6 Tryz.func114 rfl ?_;refine gYn h126 ?_;refine gYn h127 ?_;refine gYn h134 ?_;refine brI (fun k1=>?_) (fun k1=>?_)
   .have k1:S=0:=by simpa using k1
    exact absurd k1 hs
   conv=>whnf
   refine gYc n1 ?_;exact⟨lr rfl,leG⟩
  .rw[Z7 fun c=>hp c.2.1]at hR;rw[show pcB p=false by simpa using hp]at h127;subst hR;clear hk hx hy h134;refine fY6 Tryz.func114 rfl ?_;refine gYn h126 ?_;refine gYn h127 ?_;refine gYn h25 ?_;exact⟨lr rfl,leG⟩
 .rw[Z7 fun c=>hk c.1]at hR;rw[show(kB x&&kB y)=false by simpa using hk]at h126;subst hR;clear hk hx hy h134;refine fY6 Tryz.func114 rfl ?_;refine gYn h126 ?_;refine gYn h25 ?_;exact⟨lr rfl,leG⟩
def CI(x:Iv):Prop:=x=wI0\/(x.all=false/\VD x.lo/\VD x.hi)
theorem CI.ri{x:Iv}(h:CI x):RI x:=by
 rcases h with rfl|⟨_,h1,h2⟩
 .exact zkt
 .exact⟨h1.lb,h2.lb,by have:=h1.len;omega,by have:=h2.len;omega⟩
theorem zhu:CI wI0:=.inl rfl
theorem yb{a b:Dy×Int}(ha:VD a.1)(hb:VD b.1):CI (vl a b):=by
 unfold vl;split
 .exact zhu
 .exact .inr ⟨rfl,ha,hb⟩
theorem vj{p:Int}(h:pcB p=true):8<=p.toNat/\p.toNat<=512:=by
 obtain⟨q,rfl,hq⟩:=ux.1 h;exact hq
theorem zax(x y:Iv)(p:Int):CI (kp x y p):=by
 unfold kp;split
 .rename_i h;exact yb (zjc _ _ _ _ (vj h.2)) (zjc _ _ _ _ (vj h.2))
 .exact zhu
theorem qch{dn up:Dy×Int}{o:Iv}{K:Iv->Iv}(h1:VD dn.1)(h2:VD up.1)(h3:VD o.lo)(h4:VD o.hi)(hK:∀o,o.all=false->VD o.lo->VD o.hi->CI (K o)):CI (stI dn up o K):=by
 unfold stI;split
 .exact zhu
 .refine hK _ rfl ?_ ?_
  .simp only;split<;>assumption
  .simp only;split<;>assumption
theorem zf5(dn up:Dy->Dy->Dy×Int)(x y:Iv):jt dn up x y=s0I (dn x.lo y.lo) (up x.lo y.lo) (fun o=>stI (dn x.lo y.hi) (up x.lo y.hi) o (fun o=>stI (dn x.hi y.lo) (up x.hi y.lo) o (fun o=>stI (dn x.hi y.hi) (up x.hi y.hi) o (fun o=>o)))):=by
 unfold jt;rw[f4I]
theorem zu9{dn up:Dy->Dy->Dy×Int}(h1:∀a b,VD (dn a b).1)(h2:∀a b,VD (up a b).1)(x y:Iv):CI (jt dn up x y):=by
 rw[zf5];unfold s0I;split
 .exact zhu
 .refine qch (h1 _ _) (h2 _ _) (h1 _ _) (h2 _ _) fun o _ a b=>?_
  refine qch (h1 _ _) (h2 _ _) a b fun o _ a b=>?_
  refine qch (h1 _ _) (h2 _ _) a b fun o c a b=>?_
  exact .inr ⟨c,a,b⟩
theorem zbd(x y:Iv)(p:Int):CI (ja x y p):=by
 unfold ja;split
 .rename_i h;exact zu9 (fun a b=>zac _ _ _ _ (vj h.2)) (fun a b=>zac _ _ _ _ (vj h.2)) x y
 .exact zhu
theorem zva(x y:Iv)(p:Int):CI (uq x y p):=by
 unfold uq;split
 .rename_i h;exact zu9 (fun a b=>zc5 _ _ _ _ (vj h.2.1)) (fun a b=>zc5 _ _ _ _ (vj h.2.1)) x y
 .exact zhu
theorem zp5{x:Iv}(h:RI x):CI (zbm x):=by
 unfold zbm;split
 .rename_i hk;have k:=(zw h).1 hk;exact .inr ⟨rfl,yt k.hi,yt k.lo⟩
 .exact zhu
theorem zu7(x:Iv)(n p:Int):CI (zhw x n p):=by
 unfold zhw;split
 .rename_i h;split
  .exact .inr ⟨rfl,wu 1 OA,wu 1 OA⟩
  .exact yb (zzf _ _ _ _ (vj h.2.1)) (zzf _ _ _ _ (vj h.2.1))
 .exact zhu
theorem qci(x:Iv)(p:Int):CI (zet x p):=by
 unfold zet;split
 .rename_i h;exact yb (zuz _ _ _ (vj h.2.1)) (zuz _ _ _ (vj h.2.1))
 .exact zhu
def zmm(r:Rt)(p:Int):Iv:=if rOk r=true then vl (zbv (wg r.n) (wg r.d) p.toNat false) (zbv (wg r.n) (wg r.d) p.toNat true)else wI0
theorem qgp(r:Rt){p:Int}(hp:pcB p=true):CI (zmm r p):=by
 unfold zmm;split
 .exact yb (zc5 _ _ _ _ (vj hp)) (zc5 _ _ _ _ (vj hp))
 .exact zhu
theorem i50(r:Rt)(p:Int)(hp:pcB p=true):Fn 66 G0 [.agg [.int .i64 r.n,.int .i64 r.d],.int .i64 p] (.agg (ivC (zmm r p))) G0:=by
 have h15:=f54 r.n r.d;have hR:zmm r p=if rOk r=true then vl (zbv (wg r.n) (wg r.d) p.toNat false) (zbv (wg r.n) (wg r.d) p.toNat true)else wI0:=rfl
 have hr:rOk ⟨r.n,r.d⟩=rOk r:=rfl;rw[hr]at h15;generalize zmm r p=R at*;by_cases h:rOk r=true
 .rw[Z6 h]at hR;rw[h]at h15;obtain⟨q,rfl,hq⟩:=ux.1 hp;rw[q1]at hR;have hb:=zok h;unfold rIn at hb;have n1:=v77 r.n O;have n2:=v77 r.d O;have vn:=wu r.n O;have vd:=wu r.d O;have n3:=v76 vn vd q hq;have n4:=v78 vn vd q hq;generalize zbv (wg r.n) (wg r.d) q false=A at*;generalize zbv (wg r.n) (wg r.d) q true=B at*;generalize wg r.n=N at*;generalize wg r.d=D at*;clear vn vd;obtain⟨⟨a1,a2,a3⟩,e⟩:=A;obtain⟨⟨b1,b2,b3⟩,f⟩:=B;unfold vl at hR;simp only at hR;refine fY6 Tryz.func66 rfl ?_;refine gYn h15 ?_;refine gYc n1 ?_;refine gYc n2 ?_;refine gYc n3 ?_;refine gYd ?_;refine gYc n1 ?_;refine gYc n2 ?_;refine gYc n4 ?_;refine gYd ?_;refine brI (fun k1=>?_) (fun k1=>?_)
  .have k1:e≠0:=by simpa using k1
   rw[Z6 (.inl k1)]at hR;subst hR;conv=>whnf
   exact⟨leW,leG⟩
  have k1:e=0:=by simpa using k1
  conv=>whnf
  refine brI (fun k2=>?_) (fun k2=>?_)
  .have k2:f≠0:=by simpa using k2
   rw[Z6 (.inr k2)]at hR;subst hR;conv=>whnf
   exact⟨leW,leG⟩
  have k2:f=0:=by simpa using k2
  rw[Z7 (by simp[k1,k2])]at hR;subst hR;conv=>whnf
  exact⟨lr rfl,leG⟩
 .rw[Z7 h]at hR;rw[show rOk r=false by simpa using h]at h15;subst hR;refine fY6 Tryz.func66 rfl ?_;refine gYn h15 ?_;exact⟨leW,leG⟩
def apI(fx:Int->Iv->Int->Iv)(k n:Int)(x y:Iv)(p:Int):Iv:=
 if k=3 then kp x y p else if k=4 then zes x y p else if k=5 then ja x y p else if k=6 then uq x y p else if k=7 then zbm x else if k=8 then zhw x n p
 else if k=13 then zet x p else if 9<=k/\k<=12 then fx k x p else wI0
def Ka(k:Int):Prop:=k=3\/k=4\/k=5\/k=6\/k=7\/k=8\/k=13
theorem qck{fx:Int->Iv->Int->Iv}{k:Int}(hk:Ka k)(n:Int){x:Iv}(y:Iv)(p:Int)(hx:RI x):CI (apI fx k n x y p):=by
 rcases hk with rfl|rfl|rfl|rfl|rfl|rfl|rfl
 .exact zax _ _ _
 .exact zax _ _ _
 .exact zbd _ _ _
 .exact zva _ _ _
 .exact zp5 hx
 .exact zu7 _ _ _
 .exact qci _ _
theorem i52{fx:Int->Iv->Int->Iv}{k:Int}(hk:Ka k)(n:Int)(x y:Iv)(hx:RI x)(hy:RI y)(p:Int):Fn 67 G0 [.int .i64 k,.int .i64 n,.agg (ivC x),.agg (ivC y),.int .i64 p] (.agg (ivC (apI fx k n x y p))) G0:=by
 have h3:=i82 x y hx hy p;have h4:=i83 x y hx hy p;have h5:=i84 x y hx hy p;have h6:=i85 x y hx hy p;have h7:=i86 x hx;have h8:=i87 x hx n p;have h13:=i92 x hx p;rcases hk with rfl|rfl|rfl|rfl|rfl|rfl|rfl
 .have e:apI fx 3 n x y p=kp x y p:=rfl;rw[e];generalize kp x y p=R at*;clear h4 h5 h6 h7 h8 h13 hx hy;refine fY6 Tryz.func67 rfl ?_;refine gYc h3 ?_;exact⟨lr rfl,leG⟩
 .have e:apI fx 4 n x y p=zes x y p:=rfl;rw[e];generalize zes x y p=R at*;clear h3 h5 h6 h7 h8 h13 hx hy;refine fY6 Tryz.func67 rfl ?_;refine gYc h4 ?_;exact⟨lr rfl,leG⟩
 .have e:apI fx 5 n x y p=ja x y p:=rfl;rw[e];generalize ja x y p=R at*;clear h3 h4 h6 h7 h8 h13 hx hy;refine fY6 Tryz.func67 rfl ?_;refine gYc h5 ?_;exact⟨lr rfl,leG⟩
 .have e:apI fx 6 n x y p=uq x y p:=rfl;rw[e];generalize uq x y p=R at*;clear h3 h4 h5 h7 h8 h13 hx hy;refine fY6 Tryz.func67 rfl ?_;refine gYc h6 ?_;exact⟨lr rfl,leG⟩
 .have e:apI fx 7 n x y p=zbm x:=rfl;rw[e];generalize zbm x=R at*;clear h3 h4 h5 h6 h8 h13 hx hy;refine fY6 Tryz.func67 rfl ?_;refine gYn h7 ?_;exact⟨lr rfl,leG⟩
 .have e:apI fx 8 n x y p=zhw x n p:=rfl;rw[e];generalize zhw x n p=R at*;clear h3 h4 h5 h6 h7 h13 hx hy;refine fY6 Tryz.func67 rfl ?_;refine gYc h8 ?_;exact⟨lr rfl,leG⟩
 .have e:apI fx 13 n x y p=zet x p:=rfl;rw[e];generalize zet x p=R at*;clear h3 h4 h5 h6 h7 h8 hx hy;refine fY6 Tryz.func67 rfl ?_;refine gYc h13 ?_;exact⟨lr rfl,leG⟩
def zI:Iv:=⟨d0,d0,false⟩
def ApK(fx:Int->Iv->Int->Iv)(K:Int->Prop)(p:Int):Prop:=
 ∀k n x y,K k->RI x->RI y->Fn 67 G0 [.int .i64 k,.int .i64 n,.agg (ivC x),.agg (ivC y),.int .i64 p] (.agg (ivC (apI fx k n x y p))) G0/\CI (apI fx k n x y p)
