/-
  matexp.both of a matrix of at most three rows that is not great is known.
-/
import Derived.Test.YtgehdbenidimlaaGreatDoorQNi
import Derived.Test.YtgehdbenidimlaaGreatDoorQRb
import Derived.Test.YtgehdbenidimlaaGreatDoorQRa
import Derived.Test.YtgehdbenidimlaaGreatDoorQYl
import Derived.Test.YtgehdbenidimlaaGreatDoorQMa
import Derived.Test.YtgehdbenidimlaaGreatDoorQXa
set_option linter.unusedVariables false
set_option linter.unusedSimpArgs false
namespace Go.Proofs.YtgehdbenidimlaaGreatDoor
open Go Go.Sx
set_option maxRecDepth 100000
set_option maxHeartbeats 4000000
theorem zx8 {p:Int} (hp:pcB p=true) (hp2:11<=p): ∀(r:List Iv) (s:Dy) (c:Nat),(∀x∈r,kI (pw 4) x)->VD s->dv s<=(c:Rat)->c+16*r.length<=2000-> ∃S,zfh p r s=some S/\VD S/\dv S<=((c+16*r.length:Nat):Rat)
 | [],s,c,_,hs,h1,_=>⟨s,rfl,hs,by simpa using h1⟩
 |x::r,s,c,hx,hs,h1,hc=>by
  have hb:=hx x (by simp);have k:=hb.k;have hm:=(zsz hb.b k).2.1;have e16:pw 4=((16:Nat):Rat):=jg 4;rw[e16]at hm;simp only[List.length_cons]at hc⊢;have hF:=qex (p:=p.toNat) (by omega) (c:=c+16) (by omega);have R1:=(zbm hs (zir k) (vn hp)).2.2 (((c+16:Nat)):Rat) (.inl hF) (by show dv s+dv (zct x)<=_;rw[Rat.natCast_add];grind);obtain⟨S,h2,h3,h4⟩:=zx8 hp hp2 r _ (c+16) (fun q hq=>hx q (List.mem_cons_of_mem _ hq)) (zey _ _ _ _ (vn hp)) R1.2 (by omega);refine⟨S,?_,h3,by rw[show c+16*(r.length+1)=c+16+16*r.length by omega];exact h4⟩;unfold zfh;rw[if_pos ⟨(qn k.ri).2 k,R1.1⟩];exact h2
theorem qdy {p:Int} (hp:pcB p=true) (hp2:11<=p): ∀(m:Mx) (D:Dy),(∀r∈m,r.length<=3/\ ∀x∈r,kI (pw 4) x)->dv D<=((48:Nat):Rat)-> ∃E,nmG p m D=some E/\dv E<=((48:Nat):Rat)
 | [],D,_,h=>⟨D,rfl,h⟩
 |l::m,D,h,hD=>by
  obtain⟨h1,h2⟩:=h l (by simp);obtain⟨S,e1,_,e2⟩:=zx8 hp hp2 l d0 0 h2 qc (by rw[xc];exact Rat.natCast_nonneg) (by omega);have e3:dv S<=((48:Nat):Rat):=Rat.le_trans e2 (Rat.natCast_le_natCast.2 (by omega));unfold nmG;rw[e1];refine qdy hp hp2 m _ (fun l hl=>h l (List.mem_cons_of_mem _ hl)) ?_;show dv (if 0<qa S D then S else D)<=_;split
  ·exact e3
  ·exact hD
theorem zz2 {k:Nat} (hk:k<=2) {a:Mx} (va:VM (k+1) (k+1) a) (hel: ∀r∈a,∀x∈r,kI (pw 20) x) {t:Iv} (kt:KI t) (hhalf: ∀s:Nat,s<=8->kI (pw 20) (zy t (-(s:Int)))) (hprod: ∀q,pcB q=true-> ∀r∈a,∀x∈r,kI (pw 4) (yb t x q)) {p:Int} (hp:pcB p=true):
 ∃w,zcs a t p=some w:=by
 have hp2:8<=p/\p<=512:=by
  obtain⟨q,rfl,hq⟩:=ux.1 hp;omega
 have hq:pcB (min (p+40) 512)=true:=by unfold pcB;simp;omega
 have hq2:11<=min (p+40) 512:=by omega
 generalize hqq:min (p+40) 512=q at*;have vsc0:=zam va (.inl kt) hq;have hsc:scM a t q=yw (fun _ _ y=>yb t y q) a:=by
  unfold scM;rw[if_pos (by rw[va.ok,(wl kt.ri).2 (.inl kt),hq];rfl)]
 obtain⟨E,hE,hE48⟩:=qdy hq hq2 (scM a t q) d0 (fun r hr=>⟨by rw[vsc0.row r hr];omega,fun x hx=>by
  rw[hsc]at hr;obtain⟨i,r0,_,hr0,rfl⟩:=ja hr;obtain⟨j,x0,_,hx0,rfl⟩:=ja hx;exact hprod q hq r0 hr0 x0 hx0⟩) (by rw[xc];exact Rat.natCast_nonneg)
 have hN:nmM (scM a t q) q=(E,true):=by
  unfold nmM;rw[if_pos (by rw[vsc0.ok,hq];rfl),hE]
 have hN':nmM (scM a t (min (p+40) 512)) (min (p+40) 512)=(E,true):=by rw[hqq];exact hN
 have hnd:=zjh (a:=scM a t q) (p:=q) vsc0.el;rw[hN]at hnd;have hnd2:0<=dv E:=hnd.2;have hE6:dv E<=pw 6:=by
  have:pw 6=((64:Nat):Rat):=jg 6;rw[this];exact Rat.le_trans hE48 (Rat.natCast_le_natCast.2 (by decide))
 have hcmp: ¬(0<qa E (zb4 256)):=fun c=>by
  have:=(zbk E (zb4 256)).2.1.1 c;rw[ji]at this;have h8:((256:Int):Rat)=pw 8:=(jg 8).symm;rw[h8]at this;have:=za5.2 (show(6:Int)<=8 by decide);grind
 have htop:=qc6 hnd2 hE6 (by decide);rw[zj6 hN',if_neg (by simp;omega),hqq];have hs0:((hvS E).toNat :Int)=hvS E:=by unfold hvS;omega
 have hs8:(hvS E).toNat <=8:=by unfold hvS;omega
 have hbd:=znj va kt hq hN;rw[←hs0]at hbd;generalize (hvS E).toNat =s at*;have hh:=hhalf s hs8;have vh:VI (zy t (-(s:Int))):= .inl hh.k;have vsc:=zam va vh hq;have hm:kM k (-1) (scM a (zy t (-(s:Int))) q):=by
  refine⟨vsc,fun i j hi hj=>?_⟩;rw[zxf va vh hq hi hj];obtain⟨r,hr1,hr2,_,hr4⟩:=zuo va hi hj;refine zth (hbd r hr2 _ (List.mem_of_getElem? hr4)) ?_;exact(zgn hh (hel r hr2 _ (List.mem_of_getElem? hr4)) hq (by rw[←pwA];exact pwF (by decide) (by decide))).k.all
 have hknown: ∀r∈scM a (zy t (-(s:Int))) q,∀w∈r,kI (pw (-1)) w:=fun r hr w hw=>by
  obtain⟨i,hi⟩:=List.getElem?_of_mem hr;obtain⟨j,hj⟩:=List.getElem?_of_mem hw;have hil:=(List.getElem?_eq_some_iff.1 hi).1;have hjl:=(List.getElem?_eq_some_iff.1 hj).1;rw[vsc.len]at hil;rw[vsc.row r hr]at hjl;have:=hm.e i j hil hjl;rw[zb7 hi hj]at this;exact this
 obtain⟨D,hD⟩:=qdv vsc hknown hq;have hDle:dv D<=pw 1:=by
  have h1:nmG q (scM a (zy t (-(s:Int))) q) d0=some D:=by
   unfold nmM at hD;rw[if_pos (by rw[vsc.ok,hq];rfl)]at hD;split at hD
   ·rename_i d hd;cases hD;exact hd
   ·cases hD
  have h2:=zv3 hq (k:=k+1) (by omega) _ d0 D (fun r hr=>⟨vsc.row r hr,fun w hw=>(hknown r hr w hw).b⟩) (by rw[xc];exact zc0 _ _) h1;have h3:vN (k+1) (-1)<=vN 4 (-1):=yo.2 (by omega);have h4:vN 4 (-1)=pw 1:=zcb 2 (-1);rw[h4]at h3;exact Rat.le_trans h2 h3
 have hDv:=zjh (a:=scM a (zy t (-(s:Int))) q) (p:=q) vsc.el;have hu:kI (pw 1) (zk (nmM (scM a (zy t (-(s:Int))) q) q).1):=by
  rw[hD]at hDv⊢;refine⟨zbn hDv.1,?_,hDle⟩;have:=zb3 1;have h0:0<=dv D:=hDv.2;show-pw 1<=dv D;grind
 obtain⟨m1,m2⟩:=qer hk hm (H:=20) (by decide) hh hq hq2 hu;obtain⟨C,hC,w1,w2⟩:=ztg hk hq s (20+12) _ (by decide) (by
  have:(2:Int)^s<=2^8:=by
   have:=Nat.pow_le_pow_right (show 0<2 by decide) hs8;have e:((2^s:Nat):Int)=(2:Int)^s:=by simp
   have e2:((2^8:Nat):Int)=(2:Int)^8:=by simp
   rw[←e,←e2];omega
  have:(20+12+3)*(2:Int)^s<=(20+12+3)*2^8:=Int.mul_le_mul_of_nonneg_left this (by decide);omega) m1 m2
 unfold qbq;simp only;rw[qen ⟨by omega,by omega⟩ w1 hp,qen ⟨by omega,by omega⟩ w2 hp];exact⟨_,rfl⟩
theorem qd0 {d:Dy} (h:VD d) (h0:0<=dv d):d.neg=false:=by
 cases hn:d.neg with
 |false=>rfl
 |true=>
  rcases h.ok with ⟨_,h1,_⟩|⟨h1,_⟩
  ·rw[hn]at h1;cases h1
  ·have:0<vN (nm d) d.e:=zxt d.e (by omega);unfold dv at h0;rw[if_pos hn]at h0;grind
theorem zor (a b:Dy):dv a<=dv (zh4 a b)/\dv b<=dv (zh4 a b)/\(zh4 a b=a\/zh4 a b=b):=za6 a b
theorem qf2 {a b:Dy} (ha:VD a) (hb:VD b):VD (zh4 a b):=znr ha hb
theorem zuw {x:Iv} (k:KI x):VD (zcn x):=qf2 (zcd k.lo) k.hi
theorem zjl {x:Iv} (k:KI x):0<=dv (zcn x)/\ -dv (zcn x)<=dv x.lo/\dv x.lo<=dv (zcn x)/\ -dv (zcn x)<=dv x.hi/\dv x.hi<=dv (zcn x):=by
 obtain⟨h1,h2,_⟩:=zor (uk x.lo) x.hi;rw[zbh]at h1;have h3:=k.dle;have e:zcn x=zh4 (uk x.lo) x.hi:=rfl;rw[e];generalize dv (zh4 (uk x.lo) x.hi)=M at*;refine⟨by grind,by grind,by grind,by grind,by grind⟩
def nrB (x:Iv):Bool:=decide (qa (zcn x) (cnN false 1 20)<=0)
def zba (x:Iv):Bool:=decide (3<x.lo.m.length)||decide (3<x.hi.m.length)||decide (x.lo.e< -80)||decide (x.hi.e< -80)|| !nrB x
def ze4 (x:Iv):Nat:=nm (zcn x)*2^((zcn x).e +80).toNat
theorem zs3 {x:Iv} (h:zba x=false):x.lo.m.length<=3/\x.hi.m.length<=3/\ -80<=x.lo.e/\ -80<=x.hi.e/\nrB x=true:=by
 unfold zba at h;simp only[Bool.or_eq_false_iff,decide_eq_false_iff_not,Bool.not_eq_false']at h;obtain⟨⟨⟨⟨h1,h2⟩,h3⟩,h4⟩,h5⟩:=h;exact⟨by omega,by omega,by omega,by omega,h5⟩
theorem zso {x:Iv} (h:nrB x=true):dv (zcn x)<=pw 20:=by
 unfold nrB at h;have h:=jk.1 (of_decide_eq_true h);rw[zbi,if_neg (by simp),zkf]at h;exact h
theorem zdj {x:Iv} (k:KI x) (h:zba x=false):zcn x=cnN false (ze4 x) (-80)/\ze4 x<=2^100:=by
 obtain⟨_,_,h3,h4,h5⟩:=zs3 h;have h6:=zso h5;have v:=zuw k;have n:=qd0 v (zjl k).1;have he: -80<=(zcn x).e :=by
  rcases(zor (uk x.lo) x.hi).2.2 with e|e
  ·have e:zcn x=uk x.lo:=e;rw[e];unfold uk;split
   ·decide
   ·exact h3
  ·have e:zcn x=x.hi:=e;rw[e];exact h4
 have hc:=v.canon;have hd:dv (zcn x)=vN (ze4 x) (-80):=by
  unfold dv ze4;rw[if_neg (by rw[n];simp),zcz]
  congr 1
  omega
 refine⟨?_,?_⟩
 ·unfold ze4;rw[zha,show(-80:Int)+(((zcn x).e +80).toNat :Nat)=(zcn x).e by omega];rw[n]at hc;exact hc
 ·rw[hd]at h6;have:pw 20=vN (2^100) (-80):=by rw[zcb];rfl
  rw[this]at h6;exact yo.1 h6
def loL (l:List Iv):List Iv:=l.map fun x=>zk x.lo
def loM (m:Mx):Mx:=m.map loL
theorem VD_c {n:Nat} {e:Int} (h:n<2^250) (he: -1000<=e/\e<=1000):VD (cnN false n e):=by
 have:=uz.2 h;exact zmc (zh7 (by omega) (by omega) (by omega))
theorem qdx {n:Nat} {e:Int} (h:n≠0):nm (cnN false n e)≠0:=by
 obtain⟨a,_,h1,h2,_⟩:=zar h;rw[zyh,h2];omega
theorem sum_c {n m:Nat} {e:Int}:ziy (cnN false n e) (cnN false m e)=cnN false (n+m) e:=by
 by_cases hn:n=0
 ·subst hn;have:cnN false 0 e=d0:=rfl;rw[this,Nat.zero_add];unfold ziy;rw[if_pos zjg]
 by_cases hm:m=0
 ·subst hm;have h0:cnN false 0 e=d0:=rfl;rw[h0,Nat.add_zero];unfold ziy;rw[if_neg (qdx hn),if_pos zjg]
 obtain⟨a,ha,ha1,ha2,_⟩:=zar hn;obtain⟨b,hb,hb1,hb2,_⟩:=zar hm;have e1:cnN false n e=⟨false,toL a,e+tz n⟩:=by unfold cnN;rw[if_neg hn,ha2]
 have e2:cnN false m e=⟨false,toL b,e+tz m⟩:=by unfold cnN;rw[if_neg hm,hb2]
 rw[e1,e2];unfold ziy;rw[if_neg (by rw[ur];omega),if_neg (by rw[ur];omega),ur,ur,if_pos rfl];obtain⟨k,p,q,h1,h2,h3,h4,h5⟩: ∃k p q:Nat,tz n=p+k/\tz m=q+k/\min (e+(tz n:Int)) (e+(tz m:Int))=e+(k:Int)/\(e+(tz n:Int)-(e+(k:Int))).toNat =p/\(e+(tz m:Int)-(e+(k:Int))).toNat =q:=by
  refine⟨min (tz n) (tz m),tz n-min (tz n) (tz m),tz m-min (tz n) (tz m),by omega,by omega,by omega,by omega,by omega⟩
 have e3:n+m=(a*2^p+b*2^q)*2^k:=by
  conv=>lhs;rw[ha,hb]
  rw[h1,h2,Nat.add_mul,Nat.mul_assoc,Nat.mul_assoc,←Nat.pow_add,←Nat.pow_add]
 show cnN false (a*2^(e+(tz n:Int)-min (e+(tz n:Int)) (e+(tz m:Int))).toNat +b*2^(e+(tz m:Int)-min (e+(tz n:Int)) (e+(tz m:Int))).toNat) (min (e+(tz n:Int)) (e+(tz m:Int)))=_;rw[h3,h4,h5,e3,zha]
theorem prd_c {n m:Nat} {e f:Int}:cnN ((cnN false n e).neg != (cnN false m f).neg) (nm (cnN false n e)*nm (cnN false m f)) ((cnN false n e).e +(cnN false m f).e)=cnN false (n*m) (e+f):=by
 by_cases hn:n=0
 ·subst hn;have:cnN false 0 e=d0:=rfl;rw[this,zjg,Nat.zero_mul,Nat.zero_mul];rfl
 by_cases hm:m=0
 ·subst hm;have:cnN false 0 f=d0:=rfl;rw[this,zjg,Nat.mul_zero,Nat.mul_zero];rfl
 obtain⟨a,ha,_,ha2,_⟩:=zar hn;obtain⟨b,hb,_,hb2,_⟩:=zar hm;have e1:cnN false n e=⟨false,toL a,e+tz n⟩:=by unfold cnN;rw[if_neg hn,ha2]
 have e2:cnN false m f=⟨false,toL b,f+tz m⟩:=by unfold cnN;rw[if_neg hm,hb2]
 rw[e1,e2,ur,ur];show cnN false (a*b) (e+tz n+(f+tz m))=_;have:n*m=a*b*2^(tz n+tz m):=by
  conv=>lhs;rw[ha,hb]
  rw[Nat.pow_add];generalize 2^tz n=p;generalize 2^tz m=q;grind
 rw[this,zha]
 congr 1
 omega
def rwS (r:List Iv) (j:Nat):Nat:=((r.take j).map ze4).sum
theorem rwS_0 (r:List Iv):rwS r 0=0:=rfl
theorem qaa {r:List Iv} {j:Nat} {x:Iv} (h:r[j]? =some x):rwS r (j+1)=rwS r j+ze4 x:=by
 unfold rwS;rw[List.take_add_one,h];simp
def szM (a:Mx) (i:Nat):Nat:=((a.take i).map fun r=>rwS r r.length).foldl max 0
theorem zzo {a:Mx} {i:Nat} {r:List Iv} (h:a[i]? =some r):szM a (i+1)=max (szM a i) (rwS r r.length):=by
 unfold szM;rw[List.take_add_one,h];simp
theorem zrv {r:List Iv} {B:Nat} (h: ∀x∈r,ze4 x<=B): ∀j,rwS r j<=j*B
 |0=>by rw[rwS_0];exact Nat.zero_le _
 |j+1=>by
  have h1:=zrv h j;rw[Nat.succ_mul]
  cases hg:r[j]? with
  |none=>
   have e:rwS r (j+1)=rwS r j:=by unfold rwS;rw[List.take_add_one,hg];simp
   rw[e];exact Nat.le_trans h1 (Nat.le_add_right _ _)
  |some x=>
   rw[qaa hg];exact Nat.add_le_add h1 (h x (List.mem_of_getElem? hg))
theorem zrw {r:List Iv}: ∀(j:Nat) (i:Nat) (x:Iv),r[i]? =some x->i<j->ze4 x<=rwS r j
 |0,_,_,_,h=>absurd h (by omega)
 |j+1,i,x,hx,h=>by
  cases hg:r[j]? with
  |none=>
   have h1:=(List.getElem?_eq_some_iff.1 hx).1;have h2:=List.getElem?_eq_none_iff.1 hg;have e:rwS r (j+1)=rwS r j:=by unfold rwS;rw[List.take_add_one,hg];simp
   rw[e];exact zrw j i x hx (by omega)
  |some y=>
   rw[qaa hg];by_cases c:i<j
   ·have:=zrw j i x hx c;omega
   ·have:i=j:=by omega
    subst this;rw[hx]at hg;cases hg
    omega
theorem zq8 {a:Mx}: ∀(i:Nat) (k:Nat) (r:List Iv),a[k]? =some r->k<i->rwS r r.length<=szM a i
 |0,_,_,_,h=>absurd h (by omega)
 |i+1,k,r,hr,h=>by
  cases hg:a[i]? with
  |none=>
   have h1:=(List.getElem?_eq_some_iff.1 hr).1;have h2:=List.getElem?_eq_none_iff.1 hg;have e:szM a (i+1)=szM a i:=by unfold szM;rw[List.take_add_one,hg];simp
   rw[e];exact zq8 i k r hr (by omega)
  |some y=>
   rw[zzo hg];by_cases c:k<i
   ·have:=zq8 i k r hr c;omega
   ·have:k=i:=by omega
    subst this;rw[hr]at hg;cases hg
    omega
theorem zq7 {a:Mx} (h: ∀r∈a,r.length<=3/\ ∀x∈r,ze4 x<=2^100): ∀i,szM a i<=3*2^100
 |0=>Nat.zero_le _
 |i+1=>by
  have:=zq7 h i
  cases hg:a[i]? with
  |none=>
   have e:szM a (i+1)=szM a i:=by unfold szM;rw[List.take_add_one,hg];simp
   rw[e];omega
  |some r=>
   rw[zzo hg];obtain⟨h1,h2⟩:=h r (List.mem_of_getElem? hg);have h3:=zrv h2 r.length;have:r.length*2^100<=3*2^100:=Nat.mul_le_mul_right _ h1;omega
theorem cmp_c {n m:Nat} {e:Int}:0<qa (cnN false n e) (cnN false m e)<->m<n:=by
 rw[(zbk _ _).2.1,zbi,zbi,if_neg (by simp),if_neg (by simp),zmj]
def zj9 (a:Mx) (t:Iv) (ls:List (List Iv)):Bool:=
 decide (a.length<=3)&&(zhh a t 24&&(!zba t&&(!(a.any fun r=>r.any zba)&&(ls.all (fun l=>bvB l&&(decide (l.length=a.length)&& !(l.any zba)))&&decide (qa (cnN false (szM a a.length*ze4 t) (-160)) (zb4 16)<=0)))))
structure SmM (a:Mx) (t:Iv):Prop where
 n3:a.length<=3
 cas:zhh a t 24=true
 lt:zba t=false
 la: ∀r∈a,∀x∈r,zba x=false
 sz:qa (cnN false (szM a a.length*ze4 t) (-160)) (zb4 16)<=0
theorem qdh {a:Mx} {t:Iv} {ls:List (List Iv)} (h:zj9 a t ls=true):SmM a t/\ ∀l∈ls,bvB l=true/\l.length=a.length/\ ∀x∈l,zba x=false:=by
 unfold zj9 at h;simp only[Bool.and_eq_true,decide_eq_true_eq,Bool.not_eq_true',List.all_eq_true]at h;obtain⟨h1,h2,h3,h4,h5,h6⟩:=h;refine⟨⟨h1,h2,h3,fun r hr x hx=>?_,h6⟩,fun l hl=>?_⟩
 ·cases hb:zba x with
  |false=>rfl
  |true=>
   have:(a.any fun r=>r.any zba)=true:=List.any_eq_true.2 ⟨r,hr,List.any_eq_true.2 ⟨x,hx,hb⟩⟩;rw[h4]at this;cases this
 ·obtain⟨g1,g2,g3⟩:=h5 l hl;refine⟨g1,g2,fun x hx=>?_⟩
  cases hb:zba x with
  |false=>rfl
  |true=>
   have:l.any zba=true:=List.any_eq_true.2 ⟨x,hx,hb⟩;rw[g3]at this;cases this
theorem sm_sz {a:Mx} {t:Iv} (h:SmM a t) (kt:KI t) {r:List Iv} (hr:r∈a) {x:Iv} (hx:x∈r) (kx:KI x):dv (zcn x)*dv (zcn t)<=pw 4:=by
 obtain⟨c1,c2⟩:=zdj kt h.lt;obtain⟨d1,d2⟩:=zdj kx (h.la r hr x hx);have hs:=jk.1 h.sz;rw[zbi,if_neg (by simp),ji]at hs;have h4:((16:Int):Rat)=pw 4:=(jg 4).symm;rw[h4]at hs;obtain⟨i,hi⟩:=List.getElem?_of_mem hr;obtain⟨j,hj⟩:=List.getElem?_of_mem hx;have g1:=zrw r.length j x hj (List.getElem?_eq_some_iff.1 hj).1;have g2:=zq8 a.length i r hi (List.getElem?_eq_some_iff.1 hi).1;rw[c1,d1,zbi,zbi,if_neg (by simp),if_neg (by simp),zqw];refine Rat.le_trans (yo.2 ?_) hs;exact Nat.mul_le_mul_right _ (Nat.le_trans g1 g2)
theorem qaz {B C D:Rat} {x y:Iv} (hx:kI B x) (hy:kI C y) (hD:B*C<=D) {p:Int} (hp:pcB p=true) (hF:inF p.toNat D):kI D (yb x y p):=by
 obtain⟨⟨a1,a2⟩,⟨a3,a4⟩⟩:=hx.b.ends hx.k;obtain⟨⟨b1,b2⟩,⟨b3,b4⟩⟩:=hy.b.ends hy.k;have w: ∀z:Rat,-(B*C)<=z/\z<=B*C-> -D<=z/\z<=D:=fun z h=>by constructor<;>grind
 have hv:=ww (.inl hx.k:VI x) (.inl hy.k:VI y) hp;rw[zk3 hx.k hy.k hp]at hv⊢;have f:=zk4 hx.k hy.k (vn hp);have hq:zln (fun u v=>u*v) x y (fun z=> -D<=z/\z<=D):=⟨w _ (ku a1 a2 b1 b2),w _ (ku a1 a2 b3 b4),w _ (ku a3 a4 b1 b2),w _ (ku a3 a4 b3 b4)⟩;have ha:=qb8 f hF hq;have hb:=zqk f hF hq ha;exact⟨(un hv).1 ha,hb.1,hb.2⟩
def Cn (x y:Iv):Prop:= ∃d,(d=x.lo\/d=x.hi)/\y=zk d
structure crM (k:Nat) (a m:Mx):Prop where
 v:VM (k+1) (k+1) m
 c: ∀i j,i<=k->j<=k->Cn (atM a i j) (atM m i j)
theorem Cn_kI {x y:Iv} (k:KI x) (h:Cn x y):kI (dv (zcn x)) y:=by
 obtain⟨d,hd,rfl⟩:=h;obtain⟨h0,h1,h2,h3,h4⟩:=zjl k;rcases hd with rfl|rfl
 ·exact⟨zbn k.lo,h1,h2⟩
 ·exact⟨zbn k.hi,h3,h4⟩
theorem qfi {k:Nat} {a m:Mx} (h:crM k a m):inM (k+1) (k+1) (fun i j=>dv (atM m i j).lo) m:=
 ⟨h.v,fun i j hi hj=>by
  obtain⟨d,_,e⟩:=h.c i j (by omega) (by omega);rw[e];exact .inr ⟨Rat.le_refl,Rat.le_refl⟩⟩
theorem zy6 {n k:Nat} {m:Mx} (v:VM n k m) {r:List Iv} (hr:r∈m) {x:Iv} (hx:x∈r): ∃i j,i<n/\j<k/\atM m i j=x:=by
 obtain⟨i,hi⟩:=List.getElem?_of_mem hr;obtain⟨j,hj⟩:=List.getElem?_of_mem hx;have hil:=(List.getElem?_eq_some_iff.1 hi).1;have hjl:=(List.getElem?_eq_some_iff.1 hj).1;rw[v.len]at hil;rw[v.row r hr]at hjl;exact⟨i,j,hil,hjl,zb7 hi hj⟩
theorem at_el {n k:Nat} {m:Mx} (v:VM n k m) {i j:Nat} (hi:i<n) (hj:j<k): ∃r∈m,atM m i j∈r:=by
 obtain⟨r,h1,h2,_,h4⟩:=zuo v hi hj;exact⟨r,h2,List.mem_of_getElem? h4⟩
theorem zvl {d:Dy} (v:VD d) (he: -80<=d.e) {B:Rat} (hb:kI B (zk d)) {s:Nat} (hs:s<=8):kI B (zy (zk d) (-(s:Int))):=by
 have hk:kB (zk d)=true:=(qn (zbn v).ri).2 (zbn v);have ho:(vj d (-(s:Int))).2=0:=by
  unfold vj;rw[if_neg (by unfold exB;simp;omega)];unfold ckN;rw[if_pos];have h1:=v.bits;have h2:=v.exp;exact zh7 h1 (by omega) (by omega)
 have ha:(zy (zk d) (-(s:Int))).all =false:=by
  unfold zy;rw[if_pos hk];exact yi.2 ⟨ho,ho⟩
 have h2:=zth (zph hb.b (-(s:Int))) ha;refine h2.mono ?_;have h3:pw (-(s:Int))<=pw 0:=za5.2 (by omega);rw[zvw]at h3;have:=Rat.mul_le_mul_of_nonneg_left h3 hb.nn;grind
theorem zrm {k:Nat} (hk:k<=2) {a m:Mx} {t:Iv} (va:VM (k+1) (k+1) a) (hs:SmM a t) (kt:KI t) (hel: ∀r∈a,∀x∈r,KI x) (hc:crM k a m) {d:Dy} (vd:VD d) (hd: -dv (zcn t)<=dv d/\dv d<=dv (zcn t)) (he: -80<=d.e) {p:Int} (hp:pcB p=true):
 ∃w,zcs m (zk d) p=some w:=by
 have kd:kI (dv (zcn t)) (zk d):=⟨zbn vd,hd.1,hd.2⟩;have h20:=zso (zs3 hs.lt).2.2.2.2;have hx: ∀r∈m,∀y∈r,∃B:Rat,kI B y/\B<=pw 20/\dv (zcn t)*B<=pw 4:=fun r hr y hy=>by
  obtain⟨i,j,hi,hj,e⟩:=zy6 hc.v hr hy;obtain⟨r',hr',hx'⟩:=at_el va hi hj;have kx:=hel r' hr' _ hx';have c:=hc.c i j (by omega) (by omega);rw[e]at c;refine⟨dv (zcn (atM a i j)),Cn_kI kx c,zso (zs3 (hs.la r' hr' _ hx')).2.2.2.2,?_⟩;have:=sm_sz hs kt hr' hx' kx;rw[Rat.mul_comm];exact this
 refine zz2 hk hc.v (fun r hr y hy=>?_) kd.k (fun s h8=>(zvl vd he kd h8).mono h20) (fun q hq r hr y hy=>?_) hp
 ·obtain⟨B,h1,h2,_⟩:=hx r hr y hy;exact h1.mono h2
 ·obtain⟨B,h1,_,h3⟩:=hx r hr y hy;exact qaz kd h1 h3 hq (pwF (by decide) (by decide))
theorem qf6 {k:Nat} (hk:k<=2) {a b:Mx} (va:VM (k+1) (k+1) a) (vb:VM (k+1) (k+1) b) (h: ∀i j,i<=k->j<=k->Mt (atM a i j) (atM b i j)):MtM a b:=by
 refine⟨by rw[va.len,vb.len],by rw[va.len];omega,fun i r r' hr hr'=>?_⟩;have hi:=(List.getElem?_eq_some_iff.1 hr).1;rw[va.len]at hi;have l1:=va.row r (List.mem_of_getElem? hr);have l2:=vb.row r' (List.mem_of_getElem? hr');refine⟨by rw[l1,l2],by rw[l1];omega,fun j w w' hw hw'=>?_⟩;have hj:=(List.getElem?_eq_some_iff.1 hw).1;rw[l1]at hj;have:=h i j (by omega) (by omega);rw[zb7 hr hw,zb7 hr' hw']at this;exact this
theorem zy8 {k:Nat} (hk:k<=2) {S:Nat->Nat->Nat->Rat} {a b:Mx} (ha:liM k S a) (hb:liM k S b):MtM a b:=
 qf6 hk ha.v hb.v fun i j hi hj=>qf5 (uh ha.v (by omega) (by omega)) (uh hb.v (by omega) (by omega)) (ha.l i j hi hj) (hb.l i j hi hj)
theorem lI_c {q:Rat} {x:Iv} (v:VI x) (h:lI (fun _=>q) x):inI q x:=by
 cases ha:x.all with
 |true=>exact .inl ha
 |false=>
  refine .inr ⟨zs9 fun e he=>?_,zs9 fun e he=>?_⟩
  ·obtain⟨N,hN⟩:=zwl h ha he;have:=(hN N (Nat.le_refl _)).1;grind
  ·obtain⟨N,hN⟩:=zwl h ha he;exact(hN N (Nat.le_refl _)).2
structure IsM (l m:Mx):Prop where
 vl:vmB l=true
 vm:vmB m=true
 len:l.length=m.length
 el: ∀(i:Nat) (x y:List Iv),l[i]? =some x->m[i]? =some y->x.length=y.length/\ ∀(j:Nat) (u v:Iv),x[j]? =some u->y[j]? =some v->VI u/\VI v/\zu3 u v=true
theorem id_li {k:Nat} (hk:k<=2):liM k (fun _=>dlt) (idM (k+1)):=
 ⟨zle (by omega),fun i j hi hj=>by
  rw[zxh (by omega) (by omega) (by omega)];refine qem ?_;unfold dlt;by_cases c:i=j
  ·rw[if_pos c,if_pos c];exact zhu 1
  ·rw[if_neg c,if_neg c];exact zhu 0⟩
theorem qf8 {k:Nat} (hk:k<=2) {m:Mx} (h:liM k (fun _=>dlt) m):IsM (idM (k+1)) m:=by
 have vi:=zle (n:=k+1) (by omega);refine⟨vi.ok,h.v.ok,by rw[vi.len,h.v.len],fun i r r' hr hr'=>?_⟩;have hi:=(List.getElem?_eq_some_iff.1 hr).1;rw[vi.len]at hi;have l1:=vi.row r (List.mem_of_getElem? hr);have l2:=h.v.row r' (List.mem_of_getElem? hr');refine⟨by rw[l1,l2],fun j w w' hw hw'=>?_⟩;have hj:=(List.getElem?_eq_some_iff.1 hw).1;rw[l1]at hj;have e1:w=whI (if i=j then 1 else 0):=by rw[←zb7 hr hw,zxh (by omega) hi hj]
 have e2:=zb7 hr' hw';have v1:VI w:=by rw[←zb7 hr hw];exact uh vi hi hj
 have v2:VI w':=by rw[←e2];exact uh h.v hi hj
 have hq:inI (dlt i j) w':=by rw[←e2];exact lI_c (uh h.v hi hj) (h.l i j (by omega) (by omega))
 refine⟨v1,v2,qa5 v1 v2 ?_⟩
 cases ha:w'.all with
 |true=>exact .inl ha
 |false=>
  rcases hq with c|⟨c1,c2⟩
  ·rw[ha]at c;cases c
  have hd:dlt i j=((if i=j then(1:Int)else 0:Int):Rat):=by unfold dlt;split<;>rfl
  rw[hd]at c1 c2;rw[e1];refine .inr ⟨rfl,ha,?_,?_⟩
  ·show dv w'.lo<=dv (zb4 _);rw[ji];exact c1
  ·show dv (zb4 _)<=dv w'.hi;rw[ji];exact c2
theorem ztn {k:Nat} (hk:k<=2) {A:Nat->Nat->Rat} {m:Mx} (hm:inM (k+1) (k+1) A m) {s t:Rat} {S T U B:Iv} (kS:KI S) (kT:KI T) (kU:KI U) (kB:KI B) (hs:inI s S) (ht:inI t T) (hu:inI (s+t) U) (hb:inI (-t) B) {p:Int} (hp:pcB p=true) {x y b:MPr} (ex:zcs m S p=some x) (ey:zcs m T p=some y) (eb:zcs m B p=some b):
 (∀z,zcs m U p=some z->MtM (muM x.exp y.exp p).1 z.exp)/\IsM (idM (k+1)) (muM y.exp b.exp p).1/\MtM (adM (muM m y.phi p).1 (idM (k+1)) p).1 y.exp:=by
 obtain⟨N,hN⟩:=qd1 k A;obtain⟨x1,_⟩:=zpg (by omega) hm kS hs hp ex;obtain⟨y1,y2⟩:=zpg (by omega) hm kT ht hp ey;obtain⟨b1,_⟩:=zpg (by omega) hm kB hb hp eb;have bx: ∀τ i j,i<=k->j<=k->Bnd fun N=>xQ k A τ N i j:=fun τ i j hi hj=>zxo hN hi hj τ
 refine⟨fun z ez=>?_,?_,?_⟩
 ·obtain⟨z1,_⟩:=zpg (by omega) hm kU hu hp ez;exact zy8 hk ((zgi x1 y1 (bx s) (bx t) hp).nul fun i j hi hj=>zqt hN hi hj s t) z1
 ·refine qf8 hk ((zgi y1 b1 (bx t) (bx (-t)) hp).nul fun i j hi hj=>?_);refine(zqt hN hi hj t (-t)).cg fun n=>?_
  rw[show t+ -t=0 by grind,zqs]
 ·have hmA:liM k (fun _=>A) m:=zs1 hm.v (K:=0) fun _ _=>hm
  refine zy8 hk ((zs2 (zgi hmA y2 (fun _ _ _ _=>Bnd.const _) (fun i j hi hj=>zxn hN hi hj t) hp) (id_li hk) hp).nul fun i j hi hj=>?_) y1;refine(qct hN hi hj t).cg fun n=>?_
  grind
end Go.Proofs.YtgehdbenidimlaaGreatDoor
