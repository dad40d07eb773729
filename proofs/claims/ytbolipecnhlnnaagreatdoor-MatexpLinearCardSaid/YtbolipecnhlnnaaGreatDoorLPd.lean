/- The enclosures of the exponential function are true. -/
import Derived.Test.YtbolipecnhlnnaaGreatDoorLMa
import Derived.Test.YtbolipecnhlnnaaGreatDoorLNk
import Derived.Test.YtbolipecnhlnnaaGreatDoorLPn
import Derived.Test.YtbolipecnhlnnaaGreatDoorLNl
set_option linter.all false
open And renaming intro->qR
open BitVec renaming ofInt->qV
open Int renaming toNat->qM
open List renaming mem_of_getElem?->qA,getElem?_eq_getElem->qB,replicate->qC,getElem?_of_mem->qF,getElem?_eq_some_iff->qG,getElem?_replicate->qI,length_map->qK,take_of_length_le->qO,getElem?_zipWith->qP,length_zipWith->qQ,mem_replicate->qS,take_add_one->qT,zipWith->qU,getElem?_mapIdx->qW,length_mapIdx->qX,getElem?_map->qZ,mem_map->w6
open Nat renaming zero_le->qJ,lt_of_le_of_lt->qY,le_refl->w0,add_mul->w4
open Option renaming map_eq_some_iff->qN
open Rat renaming mul_le_mul_of_nonneg_right->qD,mul_le_mul_of_nonneg_left->qE,le_refl->qH,le_trans->qL,mul_assoc->w5
open Go.Region renaming binds->w7
namespace Go.Proofs.YtbolipecnhlnnaaGreatDoor
open Go Go.Sx
set_option maxRecDepth 100000
set_option maxHeartbeats 4000000
theorem gYn{Q K:List Blk->AV->Prop}{r:AV}(h:Q [] r){X:Prop}(k:X)(e:K [] r=X:=by conv=>lhs;whnf):∃b r,Q b r/\K b r:=⟨_,_,h,e.mpr k⟩
theorem zs3{x:Iv}{B:Rat}(hb:kI B x)(h1: -80<=x.lo.e)(h2: -80<=x.hi.e){s:Nat}(hs:s<=8):kI B (zn x (-(s:Int))):=by
 have k:=hb.k;have hk:kB x=true:=(qb k.ri).2 k;have ho:∀d:Dy,VD d-> -80<=d.e->(qg d (-(s:Int))).2=0:=fun d v he=>by
  unfold qg;rw[Z5 (by unfold exB;simp;omega)];unfold ckN;rw[Z4];have h1:=v.bits;have h2:=v.exp;exact zf5 h1 O O
 have ha:(zn x (-(s:Int))).all =false:=by
  unfold zn;rw[Z4 hk];exact um.2 ⟨ho _ k.lo h1,ho _ k.hi h2⟩
 have h2:=zri (zlc hb.b (-(s:Int))) ha;refine h2.mono ?_;have h3:pw (-(s:Int))<=pw 0:=zat.2 O;rw[zwl]at h3;have:=qE h3 hb.nn;grind
theorem zme{x:Iv}(k:KI x):kI (dv (zbn x)) x:=by
 obtain⟨h0,h1,h2,h3,h4⟩:=zaj k;exact⟨k,h1,h4⟩
def rsD:Dy:=cnN false 1 (-300)
def rsI0:Iv:=⟨jm rsD,rsD,false⟩
def rsB(n:Nat):Mx:=qC n (qC n rsI0)
theorem zqx:VD rsD:=zie (zf5 OA OA OA)
theorem zvc:dv rsD=pw (-300):=by
 unfold rsD;rw[uf,Z5 OA,zgy]
theorem KI_rs:KI rsI0:=⟨rfl,ze1 zqx,zqx,jl.2 (by
 show dv (jm rsD)<=dv rsD;rw[za4,zvc];have:=yz (-300);grind)⟩
theorem zpm{n:Nat}(hn:1<=n/\n<=8){D:Nat->Nat->Rat}(h:∀i j,i<n->j<n->qk (D i j)<=pw (-300)):inM n n D (rsB n):=by
 refine⟨⟨hn,hn,by simp[rsB],fun r hr=>?_,fun r hr x hx=>?_⟩,fun i j hi hj=>?_⟩
 .rw[(qS.1 hr).2];simp
 .rw[(qS.1 hr).2]at hx;rw[(qS.1 hx).2];exact .inl KI_rs
 .have e:atM (rsB n) i j=rsI0:=zci (r:=qC n rsI0) (by unfold rsB;rw[qI,Z4 hi]) (by rw[qI,Z4 hj]);rw[e];obtain⟨a,b⟩:=zai.1 (h i j hi hj);refine .inr ⟨?_,?_⟩
  .show dv (jm rsD)<=_;rw[za4,zvc];exact a
  .show _<=dv rsD;rw[zvc];exact b
def rfS(K:Nat)(m:Mx):MPr:=⟨(adM (stM m 260 K).exp (rsB m.length) 260).1,(adM (stM m 260 K).phi (rsB m.length) 260).1⟩
theorem zz5{k:Nat}{A:Nat->Nat->Rat}{U:Rat}{m:Mx}(hm:inM (k+1) (k+1) A m):∀K:Nat,K<=1000->∃r,sIn k K A U (stM m 260 K) r
 |0,_=>by
  have hid:=qh1 hm.v.n1;refine⟨whI 1,?_⟩;show sIn k 0 A U ⟨idM m.length,idM m.length,idM m.length⟩ (whI 1);rw[hm.v.len];exact⟨hid,hid,hid,uz OA,zlj 1⟩
 |K+1,h=>by
  obtain⟨r,hr⟩:=zz5 hm K O;exact⟨_,zz4 hr hm (u:=wI0) (.inr rfl) (zzt U) OA O⟩
theorem qak{u v:Rat}(h0:0<=u)(h:u<=v):∀j,rQ u j<=rQ v j
 |0=>qH
 |j+1=>by
  have h1:=qak h0 h j;have h2:=zil h0 j;have h3:=(zjb j).1;have h4:=qD h1 h0;have h5:=qE h (qL h2 h1);exact qD (qL h4 h5) h3
theorem qgw:rQ (1/2) 70<=pw (-300):=by
 have h:rQ (1/2) 70*((2^150*2^150:Nat):Rat)<=1:=OB;have e:((2^150*2^150:Nat):Rat)=pw 300:=by rw[zkp,<-wq,<-pwA];rfl
 rw[e]at h;have h2:=qD h (yz (-300));have e2:pw 300*pw (-300)=1:=by rw[<-pwA];exact wq 0
 rw[w5,e2]at h2;grind
theorem rf_in{K:Nat}(hK:1<=K/\K<=1000)(hr:rQ (1/2) K<=pw (-300)){k:Nat}{A:Nat->Nat->Rat}{m:Mx}{h:Rat}(hm:inM (k+1) (k+1) (fun i j=>h*A i j) m){U:Rat}(hU:nQ k (fun i j=>h*A i j) U)(hu:U*2<=1)(N:Nat)(hN:K<=N):
 inM (k+1) (k+1) (xQ k A h N) (rfS K m).exp /\inM (k+1) (k+1) (fQ k (fun i j=>h*A i j) N) (rfS K m).phi :=by
 obtain⟨d,rfl⟩:=Nat.exists_eq_add_of_le hN;obtain⟨r,hs⟩:=zz5 (U:=U) hm K hK.2;have u0:=zn7 hU;have h70:rQ U K<=pw (-300):=qL (qak u0 (show U<=1/2 by grind) K) hr;have hU2:U*2<=((K+1:Nat):Rat):=by
  have:((1:Nat):Rat)<=((K+1:Nat):Rat):=zn6.2 O;exact qL hu this
 have hn:=hm.v.n1;have ht:∀i j,i<k+1->j<k+1->qk (eQ k (fun i j=>h*A i j) (K+d) i j-eQ k (fun i j=>h*A i j) K i j)<=pw (-300)/\qk (fQ k (fun i j=>h*A i j) (K+d) i j-fQ k (fun i j=>h*A i j) K i j)<=pw (-300):=fun i j hi hj=>by
  obtain⟨t1,t2⟩:=zvb hU hU2 (O:i<=k) (O:j<=k) d;have t3:=zil u0 (K+d);constructor<;>grind
 have a1:=zzl hs.e (zpm hn (D:=fun i j=>eQ k (fun i j=>h*A i j) (K+d) i j-eQ k (fun i j=>h*A i j) K i j) fun i j hi hj=>(ht i j hi hj).1) (p:=260) OA;have a2:=zzl hs.f (zpm hn (D:=fun i j=>fQ k (fun i j=>h*A i j) (K+d) i j-fQ k (fun i j=>h*A i j) K i j) fun i j hi hj=>(ht i j hi hj).2) (p:=260) OA;have e:rfS K m=⟨(adM (stM m 260 K).exp (rsB (k+1)) 260).1,(adM (stM m 260 K).phi (rsB (k+1)) 260).1⟩:=by unfold rfS;rw[hm.v.len]
 rw[e];refine⟨a1.cg fun i j _ _=>?_,a2.cg fun i j _ _=>?_⟩
 .show eQ k (fun i j=>h*A i j) K i j+(eQ k (fun i j=>h*A i j) (K+d) i j-eQ k (fun i j=>h*A i j) K i j)=_;rw[<-eQ_x (h:=h) (A:=A) (K+d)];grind
 .show fQ k (fun i j=>h*A i j) K i j+(fQ k (fun i j=>h*A i j) (K+d) i j-fQ k (fun i j=>h*A i j) K i j)=_;grind
def rfB(K:Nat)(a:Mx)(t:Iv)(s:Nat):MPr:=
 zc1 260 s ⟨(rfS K (scM a (zn t (-(s:Int))) 260)).exp,scM (rfS K (scM a (zn t (-(s:Int))) 260)).phi (zn t (-(s:Int))) 260⟩
theorem qai{K:Nat}(hK:1<=K/\K<=1000)(hr:rQ (1/2) K<=pw (-300)){k:Nat}{A:Nat->Nat->Rat}{a:Mx}(ha:inM (k+1) (k+1) A a){t:Iv}(vt:VI t){J:Rat}(hτ:inI J t)(s:Nat){U:Rat}(hU:nQ k A U)(hu:U*(qk J*pw (-(s:Int)))*2<=1):
 liM k (xQ k A J) (rfB K a t s).exp /\liM k (yQ k A J) (rfB K a t s).phi :=by
 have vs:=zbb vt (-(s:Int));have hs:=zpi vt (j:= -(s:Int)) hτ;have hm:=zny ha vs hs (p:=260) OA;have hN:nQ k (fun i j=>J*pw (-(s:Int))*A i j) (U*(qk J*pw (-(s:Int)))):=fun i hi=>by
  have h1:=hU i hi;have e:sQ (fun r=>qk (J*pw (-(s:Int))*A i r)) k=qk J*pw (-(s:Int))*sQ (fun r=>qk (A i r)) k:=by
   rw[<-ju];exact xn fun r _=>by rw[zbl,zbl,jq (yz _)]
  rw[e];have:=qE h1 (Rat.mul_nonneg (qj J) (yz (-(s:Int))));grind
 have key:=rf_in hK hr hm hN hu;have v:=(key K (w0 _)).1.v;have w:=(zny (key K (w0 _)).2 vs hs (p:=260) OA).v;have l1:liM k (xQ k A (J*pw (-(s:Int)))) (rfS K (scM a (zn t (-(s:Int))) 260)).exp :=zp3 v (K:=K) fun N hN=>(key N hN).1
 have l2:liM k (yQ k A (J*pw (-(s:Int)))) (scM (rfS K (scM a (zn t (-(s:Int))) 260)).phi (zn t (-(s:Int))) 260):=zp3 w (K:=K) fun N hN=>(zny (key N hN).2 vs hs (p:=260) OA).cg fun i j _ _=>fQ_y N
 have h:=zop hU (q:=260) OA s (J*pw (-(s:Int))) ⟨(rfS K (scM a (zn t (-(s:Int))) 260)).exp,scM (rfS K (scM a (zn t (-(s:Int))) 260)).phi (zn t (-(s:Int))) 260⟩ l1 l2;have e:J*pw (-(s:Int))*pw (s:Int)=J:=by
  rw[w5,<-pwA,show-(s:Int)+(s:Int)=((0:Nat):Int) by omega,wq];exact Rat.mul_one _
 rw[e]at h;exact h
structure cnL(k:Nat)(X:Nat->Rat)(x:List Iv):Prop where
 len:x.length=k+1
 i:∀(i:Nat)(y:Iv),x[i]? =some y->VI y/\inI (X i) y
def liS(k:Nat)(S:Nat->Nat->Nat->Rat)(X:Nat->Rat)(i N:Nat):Rat:=sQ (fun j=>S N i j*X j) k
theorem qi7{k:Nat}{S:Nat->Nat->Nat->Rat}{m:Mx}(hm:liM k S m)(bs:∀i j,i<=k->j<=k->Bnd fun N=>S N i j){X:Nat->Rat}{x:List Iv}(hx:cnL k X x){p:Int}(hp:pcB p=true){i:Nat}{y:Iv}(hy:(apM m x p)[i]? =some y):
 VI y/\lI (liS k S X i) y:=by
 unfold apM at hy;rw[qZ,qN]at hy;obtain⟨r,hr,rfl⟩:=hy;have hi:=(qG.1 hr).1;rw[hm.v.len]at hi;have hrl:=hm.v.row r (qA hr);have e:dtM p r x=dtF p (fun j=>atM m i j) (fun j=>(x[j]?).getD zI) k:=qea hrl hx.len (fun q z hz=>(zci hr hz).symm) fun q z hz=>by rw[hz];rfl
 rw[e];exact qdn hp (a:=fun j N=>S N i j) (b:=fun j _=>X j) k (fun j hj=>⟨xw hm.v O O,hm.l i j O hj,bs i j O hj⟩) fun j hj=>by
  obtain⟨z,hz⟩:∃z,x[j]? =some z:=⟨_,qB (by have:=hx.len;omega)⟩;show VI ((x[j]?).getD zI)/\lI (fun _=>X j) ((x[j]?).getD zI)/\Bnd fun _=>X j
  rw[hz];obtain⟨v,q⟩:=hx.i j z hz;exact⟨v,qhn q,Bnd.const _⟩
def znp(p:Int)(y z:List Iv):List Iv:=qU (fun u v=>yp u v p) y z
theorem zz2{k:Nat}{S T:Nat->Nat->Nat->Rat}{m n:Mx}(hm:liM k S m)(hn:liM k T n)(bs:∀i j,i<=k->j<=k->Bnd fun N=>S N i j)(bt:∀i j,i<=k->j<=k->Bnd fun N=>T N i j){X B:Nat->Rat}{x b:List Iv}(hx:cnL k X x)(hb:cnL k B b)
 {p:Int} (hp:pcB p=true) {i:Nat} {y:Iv} (hy:(znp p (apM m x p) (apM n b p))[i]? =some y):VI y/\lI (fun N=>liS k S X i N+liS k T B i N) y:=by
 unfold znp at hy;rw[qP]at hy;split at hy
 .rename_i u v hu hv;cases hy
  obtain⟨v1,l1⟩:=qi7 hm bs hx hp hu;obtain⟨v2,l2⟩:=qi7 hn bt hb hp hv;exact⟨zib v1 v2 hp,zul v1 v2 hp l1 l2⟩
 .cases hy
theorem qdg{K:Nat}(hK:1<=K/\K<=1000)(hr:rQ (1/2) K<=pw (-300)){k:Nat}(hk:k+1<=3){A:Nat->Nat->Rat}{a a':Mx}(ha:inM (k+1) (k+1) A a)(ha':inM (k+1) (k+1) A a'){t t':Iv}(kt:KI t)(vt':VI t'){J:Rat}(hτ:inI J t)(hτ':inI J t'){p:Int}(hp:pcB p=true){w:MPr}(hw:zlb a t p=some w)
 {s:Nat} {U:Rat} (hU:nQ k A U) (hu:U*(qk J*pw (-(s:Int)))*2<=1) {X B:Nat->Rat} {x b x' b':List Iv} (hx:cnL k X x) (hb:cnL k B b) (hx':cnL k X x') (hb':cnL k B b')
 {i:Nat} {y z:Iv} (hy:(znp p (apM w.exp x p) (apM w.phi b p))[i]? =some y) (hz:(znp 260 (apM (rfB K a' t' s).exp x' 260) (apM (rfB K a' t' s).phi b' 260))[i]? =some z):Mt y z:=by
 obtain⟨l1,l2⟩:=qiv hk ha kt hτ hp hw;obtain⟨r1,r2⟩:=qai hK hr ha' vt' hτ' s hU hu;have bx:∀i j,i<=k->j<=k->Bnd fun N=>xQ k A J N i j:=fun i j hi hj=>zzr hU hi hj J
 have by':∀i j,i<=k->j<=k->Bnd fun N=>yQ k A J N i j:=fun i j hi hj=>zzq hU hi hj J
 obtain⟨v1,m1⟩:=zz2 l1 l2 bx by' hx hb hp hy;obtain⟨v2,m2⟩:=zz2 r1 r2 bx by' hx' hb' OA hz;exact qjh v1 v2 m1 m2
theorem qhu{k:Nat}{C:Int}(hC: -16000<=C/\C<=16000){m:Mx}(h:kM k C m){p:Int}(hp:pcB p=true):kM k C (rdM m p):=
 ⟨zlu h.v p,fun i j hi hj=>by
  rw[zzg h.v O O];exact zp6 (h.e i j hi hj) hp (pwF O O)⟩
theorem zw5{k:Nat}(hk:k<=2){a:Mx}(va:VM (k+1) (k+1) a)(hel:∀r∈a,∀x∈r,kI (pw 20) x){t:Iv}(kt:KI t)(hhalf:∀s:Nat,s<=8->kI (pw 20) (zn t (-(s:Int))))(hprod:∀q,pcB q=true->∀r∈a,∀x∈r,kI (pw 4) (kf t x q)){p:Int}(hp:pcB p=true):
 ∃(w:MPr)(C:Int),zlb a t p=some w/\(0<=C/\C<=15000)/\kM k C w.exp/\kM k C w.phi:=by
 have hp2:8<=p/\p<=512:=by
  obtain⟨q,rfl,hq⟩:=yu.1 hp;omega
 have hq:pcB (min (p+40) 512)=true:=by unfold pcB;simp;omega
 have hq2:11<=min (p+40) 512:=O;generalize hqq:min (p+40) 512=q at*;have vsc0:=yr va (.inl kt) hq;have hsc:scM a t q=xt (fun _ _ y=>kf t y q) a:=by
  unfold scM;rw[Z4 (by rw[va.ok,(wu kt.ri).2 (.inl kt),hq];rfl)]
 obtain⟨E,hE,hE48⟩:=qg4 hq hq2 (scM a t q) d0 (fun r hr=>⟨by rw[vsc0.row r hr];omega,fun x hx=>by
  rw[hsc]at hr;obtain⟨i,r0,_,hr0,rfl⟩:=wl hr;obtain⟨j,x0,_,hx0,rfl⟩:=wl hx;exact hprod q hq r0 hr0 x0 hx0⟩) (by rw[uw];exact Rat.natCast_nonneg)
 have hN:nmM (scM a t q) q=(E,true):=by
  unfold nmM;rw[Z4 (by rw[vsc0.ok,hq];rfl),hE]
 have hN':nmM (scM a t (min (p+40) 512)) (min (p+40) 512)=(E,true):=by rw[hqq];exact hN
 have hnd:=zko (a:=scM a t q) (p:=q) vsc0.el;rw[hN]at hnd;have hnd2:0<=dv E:=hnd.2;have hE6:dv E<=pw 6:=by
  have:pw 6=((64:Nat):Rat):=wq 6;rw[this];exact qL hE48 (Rat.natCast_le_natCast.2 OA)
 have hcmp:¬(0<qh E (zcb 256)):=fun c=>by
  have:=(uq E (zcb 256)).2.1.1 c;rw[uo]at this;have h8:((256:Int):Rat)=pw 8:=(wq 8).symm;rw[h8]at this;have:=zat.2 (show(6:Int)<=8 by decide);grind
 have htop:=qf6 hnd2 hE6 OA;rw[zla hN',Z5 OE,hqq];have hs0:((hvS E).toNat :Int)=hvS E:=by unfold hvS;omega
 have hs8:(hvS E).toNat <=8:=by unfold hvS;omega
 have hbd:=zom va kt hq hN;rw[<-hs0]at hbd;generalize (hvS E).toNat =s at*;have hh:=hhalf s hs8;have vh:VI (zn t (-(s:Int))):=.inl hh.k;have vsc:=yr va vh hq;have hm:kM k (-1) (scM a (zn t (-(s:Int))) q):=by
  refine⟨vsc,fun i j hi hj=>?_⟩;rw[zzf va vh hq hi hj];obtain⟨r,hr1,hr2,_,hr4⟩:=zv3 va hi hj;refine zri (hbd r hr2 _ (qA hr4)) ?_;exact(zf4 hh (hel r hr2 _ (qA hr4)) hq (by rw[<-pwA];exact pwF OA OA)).k.all
 have hknown:∀r∈scM a (zn t (-(s:Int))) q,∀w∈r,kI (pw (-1)) w:=fun r hr w hw=>by
  obtain⟨i,hi⟩:=qF hr;obtain⟨j,hj⟩:=qF hw;have hil:=(qG.1 hi).1;have hjl:=(qG.1 hj).1;rw[vsc.len]at hil;rw[vsc.row r hr]at hjl;have:=hm.e i j hil hjl;rw[zci hi hj]at this;exact this
 obtain⟨D,hD⟩:=qg2 vsc hknown hq;have hDle:dv D<=pw 1:=by
  have h1:nmG q (scM a (zn t (-(s:Int))) q) d0=some D:=by
   unfold nmM at hD;rw[Z4 (by rw[vsc.ok,hq];rfl)]at hD;split at hD
   .rename_i d hd;cases hD;exact hd
   .cases hD
  have h2:=zxy hq (k:=k+1) O _ d0 D (fun r hr=>⟨vsc.row r hr,fun w hw=>(hknown r hr w hw).b⟩) (by rw[uw];exact zdc _ _) h1;have h3:vN (k+1) (-1)<=vN 4 (-1):=uk.2 O;have h4:vN 4 (-1)=pw 1:=zbw 2 (-1);rw[h4]at h3;exact qL h2 h3
 have hDv:=zko (a:=scM a (zn t (-(s:Int))) q) (p:=q) vsc.el;have hu:kI (pw 1) (zx (nmM (scM a (zn t (-(s:Int))) q) q).1):=by
  rw[hD]at hDv⊢;refine⟨ziu hDv.1,?_,hDle⟩;have:=yz 1;have h0:0<=dv D:=hDv.2;show-pw 1<=dv D;grind
 obtain⟨m1,m2⟩:=qht hk hm (H:=20) OA hh hq hq2 hu;obtain⟨C,hC,w1,w2⟩:=zuq hk hq s (20+12) _ OA (by
  have:(2:Int)^s<=2^8:=by
   have:=Nat.pow_le_pow_right (OA:0<2) hs8;have e:((2^s:Nat):Int)=(2:Int)^s:=OC;have e2:((2^8:Nat):Int)=(2:Int)^8:=OC;rw[<-e,<-e2];omega
  have:(20+12+3)*(2:Int)^s<=(20+12+3)*2^8:=Int.mul_le_mul_of_nonneg_left this OA;omega) m1 m2
 unfold qeo;simp only;rw[qhp ⟨O,O⟩ w1 hp,qhp ⟨O,O⟩ w2 hp];exact⟨_,C,rfl,hC,qhu O w1 hp,qhu O w2 hp⟩
theorem qck{k:Nat}(hk:k<=2){a:Mx}{t:Iv}(va:VM (k+1) (k+1) a)(hs:SmM a t)(kt:KI t)(hel:∀r∈a,∀x∈r,KI x){p:Int}(hp:pcB p=true):∃(w:MPr)(C:Int),zlb a t p=some w/\(0<=C/\C<=15000)/\kM k C w.exp/\kM k C w.phi:=by
 have lt:=zrf hs.lt;have h20:=zt1 lt.2.2.2.2;refine zw5 hk va (fun r hr y hy=>(zme (hel r hr y hy)).mono (zt1 (zrf (hs.la r hr y hy)).2.2.2.2)) kt (fun s h8=>(zs3 (zme kt) lt.2.2.1 lt.2.2.2.1 h8).mono h20) (fun q hq r hr y hy=>?_) hp;have:=qgi hs kt hr hy (hel r hr y hy);rw[Rat.mul_comm]at this;exact qdq (zme kt) (zme (hel r hr y hy)) this hq (pwF OA OA)
theorem qi8{k:Nat}(hk:k<=2){C:Int}(hC:0<=C/\C<=15000){m:Mx}(h:kM k C m){x:List Iv}(hx:x.length=k+1)(hel:∀y∈x,kI (pw 20) y){p:Int}(hp:pcB p=true){i:Nat}{y:Iv}(hy:(apM m x p)[i]? =some y):kI (pw (C+22)) y:=by
 unfold apM at hy;rw[qZ,qN]at hy;obtain⟨r,hr,rfl⟩:=hy;have hi:=(qG.1 hr).1;rw[h.v.len]at hi;have hrl:=h.v.row r (qA hr);have e:dtM p r x=dtF p (fun j=>atM m i j) (fun j=>(x[j]?).getD zI) k:=qea hrl hx (fun q z hz=>(zci hr hz).symm) fun q z hz=>by rw[hz];rfl
 rw[e];refine(qds hp (E:=C+20) k hk (fun j hj=>?_) O O).mono (zat.2 O);obtain⟨z,hz⟩:∃z,x[j]? =some z:=⟨_,qB O⟩;show kI _ (kf (atM m i j) ((x[j]?).getD zI) p);rw[hz,pwA];exact zf4 (h.e i j O O) (hel z (qA hz)) hp (by rw[<-pwA];exact pwF O O)
theorem qge{k:Nat}(hk:k<=2){C:Int}(hC:0<=C/\C<=15000){m n:Mx}(hm:kM k C m)(hn:kM k C n){x b:List Iv}(hx:x.length=k+1)(hb:b.length=k+1)(ex:∀y∈x,kI (pw 20) y)(eb:∀y∈b,kI (pw 20) y){p:Int}(hp:pcB p=true):
 (znp p (apM m x p) (apM n b p)).length =k+1/\∀y∈znp p (apM m x p) (apM n b p),KI y:=by
 refine⟨by unfold znp apM;rw[qQ,qK,qK,hm.v.len,hn.v.len];omega,fun y hy=>?_⟩;obtain⟨i,hi⟩:=qF hy;unfold znp at hi;rw[qP]at hi;split at hi
 .rename_i u v hu hv;cases hi
  exact(zmj (qi8 hk hC hm hx ex hp hu) (qi8 hk hC hn hb eb hp hv) (D:=pw (C+23)) (by rw[zlx];exact zat.2 O) hp (pwF O O)).k
 .cases hi
set_option maxHeartbeats 8000000
def bt(bits:Int)(i:Nat):Bool:=IntKind.u16.wrap ((qV IntKind.u16.bits (bits.fdiv (2^min ((i:Nat):Int).toNat IntKind.u16.bits))&&& qV IntKind.u16.bits 1).toNat :Int)==1
def enL(bits:Int)(l:List Iv):List Iv:=l.mapIdx fun i x=>zx (if bt bits i=true then x.hi else x.lo)
noncomputable def qiz:Code:=Tryz.f13.body.getD .skip
theorem k13(l:List Iv)(hl:l.length<=100)(bits:Int):Fn 13 [] [.sl .iv l,.int .u16 bits] (.sl .iv (enL bits l)) []:=by
 refine qy (code:=qiz) hTM hmx Tryz.func13 rfl rfl (ex:= []) ?_;conv=>whnf
 refine zdy hTM hmx [7] ?_;conv=>whnf
 refine⟨Nat,fun i=>i<=l.length,fun i=> [(10,.int .i64 i),(5,.own 25)],fun i=> [(7,.free),(25,.buf 28 .iv ((enL bits l).take i)),(31,.free)],fun i=>l.length-i,0,qJ _,?_,fun i hi=>?_⟩
 .exact KZ0
 (refine⟨Z,?_⟩;(conv=>whnf))
 refine brI (fun c=>?_) (fun c=>?_)
 .have c:i<l.length:=by have:=Z0 c;omega
  conv=>whnf
  refine⟨⟨O,O⟩,fun(x:Iv)hx=>?_⟩;have hx:l[i]? =some x:=by simpa using hx
  conv=>whnf
  refine⟨O,?_⟩;conv=>whnf
  have hxt:=zfb (f:=fun i x=>zx (if bt bits i=true then x.hi else x.lo)) hx;refine brI (fun h=>?_) (fun h=>?_)
  .have h:bt bits i=true:=h;rw[Z4 h]at hxt;conv=>whnf
   refine gYn (n31 x.hi) ?_
   refine⟨OE,?_⟩;conv=>whnf
   refine⟨i+1,c,by show l.length-(i+1)<l.length-i;omega,?_⟩;exact KZ0
  .have h:bt bits i=false:=h;rw[Z5 (by rw[h];decide)]at hxt;conv=>whnf
   refine zr6 25 31 ?_;refine zcf hTM hmx [] _ _ _ _ _ ?_;conv=>whnf
   refine gYn (n31 x.lo) ?_
   refine⟨OE,?_⟩;conv=>whnf
   refine⟨Z,?_⟩;conv=>whnf
   refine⟨i+1,c,by show l.length-(i+1)<l.length-i;omega,?_⟩;exact KZ0
 .have c:=Z1 c;conv=>whnf
  exact⟨qs (by rw[qO (by unfold enL;rw[qX];omega)]),lh0⟩
def nb(b:Int):Int:=IntKind.u16.wrap ((qV IntKind.u16.bits (b.fdiv (2^min (qM 3) IntKind.u16.bits))|||qV IntKind.u16.bits (IntKind.u16.wrap (b*2^min (qM 13) IntKind.u16.bits))).toNat :Int)
def nbI(b:Int):Nat->Int
 |0=>b
 |i+1=>nb (nbI b i)
def enM(bits:Int)(a:Mx):Mx:=a.mapIdx fun i r=>enL (nbI bits i) r
theorem k16(a:Mx)(hl:a.length<=100)(h8:∀r∈a,r.length<=100)(bits:Int):Fn 16 [] [.sl .vs a,.int .u16 bits] (.sl .vs (enM bits a)) []:=by
 obtain⟨G,hG⟩:∃G,enM bits a=G:=⟨_,rfl⟩;have hGl:G.length=a.length:=by rw[<-hG];unfold enM;simp
 rw[hG];refine fZM Tryz.func16 rfl rfl ?_;conv=>whnf
 refine⟨Nat,fun i=>i<=a.length,fun i=> [(10,.int .i64 i),(5,.own 19),(1,.int .u16 (nbI bits i))],fun i=> [(19,.buf 23 .vs (G.take i))],fun i=>a.length-i,0,qJ _,?_,fun i hi=>?_⟩
 .exact KZ0
 (refine⟨Z,?_⟩;(conv=>whnf))
 refine brI (fun c=>?_) (fun c=>?_)
 .have c:i<a.length:=by have:=Z0 c;omega
  conv=>whnf
  refine⟨⟨O,O⟩,fun(row:List Iv)hr=>?_⟩;have hr:a[i]? =some row:=by simpa using hr
  have hrl:=h8 row (qA hr);have hGi:=zfb (f:=fun i r=>enL (nbI bits i) r) hr;have hGe:(a.mapIdx fun i r=>enL (nbI bits i) r)=G:=hG;rw[hGe]at hGi;conv=>whnf
  refine gYn (k13 row hrl (nbI bits i)) ?_
  refine⟨OE,?_⟩;conv=>whnf
  refine⟨OA,?_⟩;conv=>whnf
  refine⟨OA,?_⟩;conv=>whnf
  refine⟨i+1,c,by show a.length-(i+1)<a.length-i;omega,?_⟩;exact KZ0
 .have c:=Z1 c;conv=>whnf
  exact⟨qs (by rw[qO O]),lh0⟩
noncomputable def oSr:Array Oper:=zty 20 (Tryz.f141.body.getD .skip)
def uu(n b0 i j:Nat)(hs:List Value)(rows:Mx)(hv:Value)(rw0:List Iv)(X Y:Mx)(d:Dy)(h':Value)(q0 q1 q2 q3 q4 q5 q6 q7 q8 q9 q10 q11 q12 q13:Bool):St:=
 ⟨[.any,.any,.any,.any,.int .i64 n,.any,.sl .vs X,.sl .vs Y,.any,.any,.ptr 10 0,.any,.val (.slice (some ⟨b0,0,none⟩) n n),.int .i64 i,.int .i64 j,.any,.any,.any,.any,.any,.any,.any,.any,.any,.any,.any,.any,.any,.any,.any,.any,.any,.any,.any,.any,.any,.any,.any,.any,.any,.any,.any,.any,.any,.any,.any,.any,.any,.any,.any,.any,.any,.any,.any,.any,.any,.any,.any,.any,.any,.any,.any,.any,.any,.any,.any,.any,.any,.any,.any,.any,.any,.any,(bif q0 then .val (.slice (some ⟨b0,0,none⟩) n n)else .any),(bif q1 then .int .i64 i else .any),(bif q2 then .val (.slice (some ⟨b0,0,none⟩) n n)else .any),(bif q3 then .int .i64 i else .any),(bif q4 then .val (.pointer (some ⟨b0,i,none⟩))else .any),(bif q5 then .val hv else .any),(bif q6 then .agg (dyC d)else .any),(bif q7 then .agg (dyC (jm d))else .any),(bif q8 then .agg (dyC d)else .any),(bif q9 then .agg (ivC ⟨jm d,d,false⟩)else .any),(bif q10 then .sl .iv [⟨jm d,d,false⟩]else .any),(bif q11 then .val h' else .any),(bif q12 then .val (.pointer (some ⟨b0,i,none⟩))else .any),.any,.any,.any,.any,.any,.any,.any,.any,.any,.any,.any,.any,.any,.any],
  [(10,.cells (dyC d)),(62,.free),(84,.free),(100084,.free),(1500084,.free),(qa,.gst (bif q13 then vu JT 23 28 .iv b0 n (hs.set i h') (rows.set i (rw0++ [(⟨jm d,d,false⟩)])) none else bif q11 then vu JT 23 28 .iv b0 n hs rows (some (i,h',rw0++ [(⟨jm d,d,false⟩)]))else vu JT 23 28 .iv b0 n hs rows none))]⟩
def SSr(n b0 i j:Nat)(hs:List Value)(rows:Mx)(hv:Value)(rw0:List Iv)(X Y:Mx)(d:Dy)(L:Nat->Bool)(J:St):Prop:=∃h':Value,J=uu n b0 i j hs rows hv rw0 X Y d h' (L 0) (L 1) (L 2) (L 3) (L 4) (L 5) (L 6) (L 7) (L 8) (L 9) (L 10) (L 11) (L 12) (L 13)
section
variable (n b0 i j:Nat) (hs:List Value) (rows:Mx) (hv:Value) (rw0:List Iv) (X Y:Mx) (d:Dy) (h':Value) (L:Nat->Bool)
theorem Sro0:∀o,oSr[0]? =some o->OpT Tryz.prog o (uu n b0 i j hs rows hv rw0 X Y d h' false (L 1) (L 2) (L 3) (L 4) (L 5) (L 6) (L 7) (L 8) (L 9) (L 10) (L 11) (L 12) (L 13)) (uu n b0 i j hs rows hv rw0 X Y d h' true (L 1) (L 2) (L 3) (L 4) (L 5) (L 6) (L 7) (L 8) (L 9) (L 10) (L 11) (L 12) (L 13)):=by
 intro o ho;have ho:some _=some o:=ho;cases ho
 refine qc hTN rfl ?_;conv=>whnf
 exact rfl
theorem Sro1:∀o,oSr[1]? =some o->OpT Tryz.prog o (uu n b0 i j hs rows hv rw0 X Y d h' (L 0) false (L 2) (L 3) (L 4) (L 5) (L 6) (L 7) (L 8) (L 9) (L 10) (L 11) (L 12) (L 13)) (uu n b0 i j hs rows hv rw0 X Y d h' (L 0) true (L 2) (L 3) (L 4) (L 5) (L 6) (L 7) (L 8) (L 9) (L 10) (L 11) (L 12) (L 13)):=by
 intro o ho;have ho:some _=some o:=ho;cases ho
 refine qc hTN rfl ?_;conv=>whnf
 exact rfl
theorem Sro2:∀o,oSr[2]? =some o->OpT Tryz.prog o (uu n b0 i j hs rows hv rw0 X Y d h' (L 0) (L 1) false (L 3) (L 4) (L 5) (L 6) (L 7) (L 8) (L 9) (L 10) (L 11) (L 12) (L 13)) (uu n b0 i j hs rows hv rw0 X Y d h' (L 0) (L 1) true (L 3) (L 4) (L 5) (L 6) (L 7) (L 8) (L 9) (L 10) (L 11) (L 12) (L 13)):=by
 intro o ho;have ho:some _=some o:=ho;cases ho
 refine qc hTN rfl ?_;conv=>whnf
 exact rfl
theorem Sro3:∀o,oSr[3]? =some o->OpT Tryz.prog o (uu n b0 i j hs rows hv rw0 X Y d h' (L 0) (L 1) (L 2) false (L 4) (L 5) (L 6) (L 7) (L 8) (L 9) (L 10) (L 11) (L 12) (L 13)) (uu n b0 i j hs rows hv rw0 X Y d h' (L 0) (L 1) (L 2) true (L 4) (L 5) (L 6) (L 7) (L 8) (L 9) (L 10) (L 11) (L 12) (L 13)):=by
 intro o ho;have ho:some _=some o:=ho;cases ho
 refine qc hTN rfl ?_;conv=>whnf
 exact rfl
theorem Sro4(hin:i<n):∀o,oSr[4]? =some o->OpT Tryz.prog o (uu n b0 i j hs rows hv rw0 X Y d h' (L 0) (L 1) true true false (L 5) (L 6) (L 7) (L 8) (L 9) (L 10) (L 11) (L 12) (L 13)) (uu n b0 i j hs rows hv rw0 X Y d h' (L 0) (L 1) true true true (L 5) (L 6) (L 7) (L 8) (L 9) (L 10) (L 11) (L 12) (L 13)):=by
 intro o ho;have ho:some _=some o:=ho;cases ho
 exact(yi (j:=(i:Int)) rfl rfl rfl Tryz.underlying22 Tryz.type23 rfl rfl rfl O O).to rfl
theorem Sro5(hh:hs[i]? =some hv):∀o,oSr[5]? =some o->OpT Tryz.prog o (uu n b0 i j hs rows hv rw0 X Y d h' (L 0) (L 1) (L 2) (L 3) true false (L 6) (L 7) (L 8) (L 9) (L 10) false (L 12) false) (uu n b0 i j hs rows hv rw0 X Y d h' (L 0) (L 1) (L 2) (L 3) true true (L 6) (L 7) (L 8) (L 9) (L 10) false (L 12) false):=by
 intro o ho;have ho:some _=some o:=ho;cases ho
 exact(zd9 (j:=i) rfl rfl rfl qgc rfl rfl rfl rfl hh).to rfl
theorem Sro6:∀o,oSr[6]? =some o->OpT Tryz.prog o (uu n b0 i j hs rows hv rw0 X Y d h' (L 0) (L 1) (L 2) (L 3) (L 4) (L 5) false (L 7) (L 8) (L 9) (L 10) (L 11) (L 12) (L 13)) (uu n b0 i j hs rows hv rw0 X Y d h' (L 0) (L 1) (L 2) (L 3) (L 4) (L 5) true (L 7) (L 8) (L 9) (L 10) (L 11) (L 12) (L 13)):=by
 intro o ho;have ho:some _=some o:=ho;cases ho
 refine qc hTN rfl ?_;conv=>whnf
 exact rfl
theorem Sro7(hvd:VD d):∀o,oSr[7]? =some o->OpT Tryz.prog o (uu n b0 i j hs rows hv rw0 X Y d h' (L 0) (L 1) (L 2) (L 3) (L 4) (L 5) true false (L 8) (L 9) (L 10) false (L 12) false) (uu n b0 i j hs rows hv rw0 X Y d h' (L 0) (L 1) (L 2) (L 3) (L 4) (L 5) true true (L 8) (L 9) (L 10) false (L 12) false):=by
 intro o ho;have ho:some _=some o:=ho;cases ho
 refine qc hTN rfl ?_;conv=>whnf
 refine gYn (r254 hvd) ?_
 exact rfl
theorem Sro8:∀o,oSr[8]? =some o->OpT Tryz.prog o (uu n b0 i j hs rows hv rw0 X Y d h' (L 0) (L 1) (L 2) (L 3) (L 4) (L 5) (L 6) (L 7) false (L 9) (L 10) (L 11) (L 12) (L 13)) (uu n b0 i j hs rows hv rw0 X Y d h' (L 0) (L 1) (L 2) (L 3) (L 4) (L 5) (L 6) (L 7) true (L 9) (L 10) (L 11) (L 12) (L 13)):=by
 intro o ho;have ho:some _=some o:=ho;cases ho
 refine qc hTN rfl ?_;conv=>whnf
 exact rfl
theorem Sro9:∀o,oSr[9]? =some o->OpT Tryz.prog o (uu n b0 i j hs rows hv rw0 X Y d h' (L 0) (L 1) (L 2) (L 3) (L 4) (L 5) (L 6) true true false (L 10) (L 11) (L 12) (L 13)) (uu n b0 i j hs rows hv rw0 X Y d h' (L 0) (L 1) (L 2) (L 3) (L 4) (L 5) (L 6) true true true (L 10) (L 11) (L 12) (L 13)):=by
 intro o ho;have ho:some _=some o:=ho;cases ho
 refine qc hTN rfl ?_;conv=>whnf
 exact rfl
theorem Sro10:∀o,oSr[10]? =some o->OpT Tryz.prog o (uu n b0 i j hs rows hv rw0 X Y d h' (L 0) (L 1) (L 2) (L 3) (L 4) (L 5) (L 6) (L 7) (L 8) true false (L 11) (L 12) (L 13)) (uu n b0 i j hs rows hv rw0 X Y d h' (L 0) (L 1) (L 2) (L 3) (L 4) (L 5) (L 6) (L 7) (L 8) true true (L 11) (L 12) (L 13)):=by
 intro o ho;have ho:some _=some o:=ho;cases ho
 refine qc hTN rfl ?_;conv=>whnf
 exact rfl
theorem Sro11(hh:hs[i]? =some hv)(hr:rows[i]? =some rw0)(hlr:rw0.length<=100000):∀o,oSr[11]? =some o->OpX Tryz.prog o (uu n b0 i j hs rows hv rw0 X Y d h' (L 0) (L 1) (L 2) (L 3) (L 4) true (L 6) (L 7) (L 8) (L 9) true false (L 12) false) fun J=>∃h'',J=uu n b0 i j hs rows hv rw0 X Y d h'' (L 0) (L 1) (L 2) (L 3) (L 4) true (L 6) (L 7) (L 8) (L 9) true true (L 12) false:=by
 intro o ho;have ho:some _=some o:=ho;cases ho
 refine(zd7 (k:=.iv) (i:=i) (row:=rw0) (y:=(⟨jm d,d,false⟩)) rfl rfl rfl rfl rfl rfl yq rfl rfl rfl rfl rfl rfl rfl rfl hh hr ?_ ?_).mono fun J h=>?_
 .show(_+1)*88<=_;omega
 .decide
 .obtain⟨h'',rfl⟩:=h;exact⟨h'',rfl⟩
theorem Sro12(hin:i<n):∀o,oSr[12]? =some o->OpT Tryz.prog o (uu n b0 i j hs rows hv rw0 X Y d h' true true (L 2) (L 3) (L 4) (L 5) (L 6) (L 7) (L 8) (L 9) (L 10) (L 11) false (L 13)) (uu n b0 i j hs rows hv rw0 X Y d h' true true (L 2) (L 3) (L 4) (L 5) (L 6) (L 7) (L 8) (L 9) (L 10) (L 11) true (L 13)):=by
 intro o ho;have ho:some _=some o:=ho;cases ho
 exact(yi (j:=(i:Int)) rfl rfl rfl Tryz.underlying22 Tryz.type23 rfl rfl rfl O O).to rfl
theorem Sro13(hi:i<hs.length):∀o,oSr[13]? =some o->OpT Tryz.prog o (uu n b0 i j hs rows hv rw0 X Y d h' (L 0) (L 1) (L 2) (L 3) (L 4) (L 5) (L 6) (L 7) (L 8) (L 9) (L 10) true true false) (uu n b0 i j hs rows hv rw0 X Y d h' (L 0) (L 1) (L 2) (L 3) (L 4) (L 5) (L 6) (L 7) (L 8) (L 9) (L 10) true true true):=by
 intro o ho;have ho:some _=some o:=ho;cases ho
 exact(zd8 (i:=i) rfl rfl rfl yq qh2 rfl rfl rfl rfl hi).to rfl
theorem qje(hin:i<n)(hh:hs[i]? =some hv)(hvd:VD d)(hr:rows[i]? =some rw0)(hlr:rw0.length<=100000)(hi:i<hs.length)
 (q:Nat) (o:Oper) (hcl:∀j oj,oSr[j]? =some oj->L j=true->∀e∈oj.after,w7 .any e=true->L e.on=true) (ho:oSr[q]? =some o) (hL:L q=false)
 (hd:∀e∈o.after,w7 .any e=true->L e.on=true):∀J,SSr n b0 i j hs rows hv rw0 X Y d L J->OpX Tryz.prog o J (SSr n b0 i j hs rows hv rw0 X Y d (zz8 L q)):=by
 rintro J ⟨h',rfl⟩;have dpq:∀ {j:Nat},oSr[j]? =some o->∀q,((oSr[j]?.map fun o=>o.after.toList.any fun e=>w7 .any e&&Nat.beq e.on q)=some true)->L q=true:=fun {j}ho q hq=>zjp ho hd q hq
 have cl:∀a q,((oSr[a]?.map fun o=>o.after.toList.any fun e=>w7 .any e&&Nat.beq e.on q)=some true)->L a=true->L q=true:=fun a q hq ha=>zm5 hcl hq ha
 match q,ho,hL with
 |0,ho,hL=>
  have hall:=Sro0 n b0 i j hs rows hv rw0 X Y d h' L o ho;refine OpT.x (σ':=uu n b0 i j hs rows hv rw0 X Y d h' true (L 1) (L 2) (L 3) (L 4) (L 5) (L 6) (L 7) (L 8) (L 9) (L 10) (L 11) (L 12) (L 13)) ?_ ⟨h',rfl⟩;show OpT Tryz.prog o (uu n b0 i j hs rows hv rw0 X Y d h' (L 0) (L 1) (L 2) (L 3) (L 4) (L 5) (L 6) (L 7) (L 8) (L 9) (L 10) (L 11) (L 12) (L 13)) _;rw[hL];exact hall
 |1,ho,hL=>
  have hall:=Sro1 n b0 i j hs rows hv rw0 X Y d h' L o ho;refine OpT.x (σ':=uu n b0 i j hs rows hv rw0 X Y d h' (L 0) true (L 2) (L 3) (L 4) (L 5) (L 6) (L 7) (L 8) (L 9) (L 10) (L 11) (L 12) (L 13)) ?_ ⟨h',rfl⟩;show OpT Tryz.prog o (uu n b0 i j hs rows hv rw0 X Y d h' (L 0) (L 1) (L 2) (L 3) (L 4) (L 5) (L 6) (L 7) (L 8) (L 9) (L 10) (L 11) (L 12) (L 13)) _;rw[hL];exact hall
 |2,ho,hL=>
  have hall:=Sro2 n b0 i j hs rows hv rw0 X Y d h' L o ho;refine OpT.x (σ':=uu n b0 i j hs rows hv rw0 X Y d h' (L 0) (L 1) true (L 3) (L 4) (L 5) (L 6) (L 7) (L 8) (L 9) (L 10) (L 11) (L 12) (L 13)) ?_ ⟨h',rfl⟩;show OpT Tryz.prog o (uu n b0 i j hs rows hv rw0 X Y d h' (L 0) (L 1) (L 2) (L 3) (L 4) (L 5) (L 6) (L 7) (L 8) (L 9) (L 10) (L 11) (L 12) (L 13)) _;rw[hL];exact hall
 |3,ho,hL=>
  have hall:=Sro3 n b0 i j hs rows hv rw0 X Y d h' L o ho;refine OpT.x (σ':=uu n b0 i j hs rows hv rw0 X Y d h' (L 0) (L 1) (L 2) true (L 4) (L 5) (L 6) (L 7) (L 8) (L 9) (L 10) (L 11) (L 12) (L 13)) ?_ ⟨h',rfl⟩;show OpT Tryz.prog o (uu n b0 i j hs rows hv rw0 X Y d h' (L 0) (L 1) (L 2) (L 3) (L 4) (L 5) (L 6) (L 7) (L 8) (L 9) (L 10) (L 11) (L 12) (L 13)) _;rw[hL];exact hall
 |4,ho,hL=>
  have hall:=Sro4 n b0 i j hs rows hv rw0 X Y d h' L hin o ho;have g2:L 2=true:=dpq ho 2 OB;have g3:L 3=true:=dpq ho 3 OB;refine OpT.x (σ':=uu n b0 i j hs rows hv rw0 X Y d h' (L 0) (L 1) (L 2) (L 3) true (L 5) (L 6) (L 7) (L 8) (L 9) (L 10) (L 11) (L 12) (L 13)) ?_ ⟨h',rfl⟩;show OpT Tryz.prog o (uu n b0 i j hs rows hv rw0 X Y d h' (L 0) (L 1) (L 2) (L 3) (L 4) (L 5) (L 6) (L 7) (L 8) (L 9) (L 10) (L 11) (L 12) (L 13)) _;rw[hL,g2,g3];exact hall
 |5,ho,hL=>
  have hall:=Sro5 n b0 i j hs rows hv rw0 X Y d h' L hh o ho;have g4:L 4=true:=dpq ho 4 OB;have g11:L 11=false:=by
   cases h:L 11 with
   |false=>rfl
   |true=>have:=cl 11 5 OB (h);rw[hL]at this;cases this
  have g13:L 13=false:=by
   cases h:L 13 with
   |false=>rfl
   |true=>have:=cl 11 5 OB (cl 13 11 OB (h));rw[hL]at this;cases this
  refine OpT.x (σ':=uu n b0 i j hs rows hv rw0 X Y d h' (L 0) (L 1) (L 2) (L 3) (L 4) true (L 6) (L 7) (L 8) (L 9) (L 10) (L 11) (L 12) (L 13)) ?_ ⟨h',rfl⟩;show OpT Tryz.prog o (uu n b0 i j hs rows hv rw0 X Y d h' (L 0) (L 1) (L 2) (L 3) (L 4) (L 5) (L 6) (L 7) (L 8) (L 9) (L 10) (L 11) (L 12) (L 13)) _;rw[hL,g4,g11,g13];exact hall
 |6,ho,hL=>
  have hall:=Sro6 n b0 i j hs rows hv rw0 X Y d h' L o ho;refine OpT.x (σ':=uu n b0 i j hs rows hv rw0 X Y d h' (L 0) (L 1) (L 2) (L 3) (L 4) (L 5) true (L 7) (L 8) (L 9) (L 10) (L 11) (L 12) (L 13)) ?_ ⟨h',rfl⟩;show OpT Tryz.prog o (uu n b0 i j hs rows hv rw0 X Y d h' (L 0) (L 1) (L 2) (L 3) (L 4) (L 5) (L 6) (L 7) (L 8) (L 9) (L 10) (L 11) (L 12) (L 13)) _;rw[hL];exact hall
 |7,ho,hL=>
  have hall:=Sro7 n b0 i j hs rows hv rw0 X Y d h' L hvd o ho;have g6:L 6=true:=dpq ho 6 OB;have g11:L 11=false:=by
   cases h:L 11 with
   |false=>rfl
   |true=>have:=cl 9 7 OB (cl 10 9 OB (cl 11 10 OB (h)));rw[hL]at this;cases this
  have g13:L 13=false:=by
   cases h:L 13 with
   |false=>rfl
   |true=>have:=cl 9 7 OB (cl 10 9 OB (cl 11 10 OB (cl 13 11 OB (h))));rw[hL]at this;cases this
  refine OpT.x (σ':=uu n b0 i j hs rows hv rw0 X Y d h' (L 0) (L 1) (L 2) (L 3) (L 4) (L 5) (L 6) true (L 8) (L 9) (L 10) (L 11) (L 12) (L 13)) ?_ ⟨h',rfl⟩;show OpT Tryz.prog o (uu n b0 i j hs rows hv rw0 X Y d h' (L 0) (L 1) (L 2) (L 3) (L 4) (L 5) (L 6) (L 7) (L 8) (L 9) (L 10) (L 11) (L 12) (L 13)) _;rw[hL,g6,g11,g13];exact hall
 |8,ho,hL=>
  have hall:=Sro8 n b0 i j hs rows hv rw0 X Y d h' L o ho;refine OpT.x (σ':=uu n b0 i j hs rows hv rw0 X Y d h' (L 0) (L 1) (L 2) (L 3) (L 4) (L 5) (L 6) (L 7) true (L 9) (L 10) (L 11) (L 12) (L 13)) ?_ ⟨h',rfl⟩;show OpT Tryz.prog o (uu n b0 i j hs rows hv rw0 X Y d h' (L 0) (L 1) (L 2) (L 3) (L 4) (L 5) (L 6) (L 7) (L 8) (L 9) (L 10) (L 11) (L 12) (L 13)) _;rw[hL];exact hall
 |9,ho,hL=>
  have hall:=Sro9 n b0 i j hs rows hv rw0 X Y d h' L o ho;have g7:L 7=true:=dpq ho 7 OB;have g8:L 8=true:=dpq ho 8 OB;refine OpT.x (σ':=uu n b0 i j hs rows hv rw0 X Y d h' (L 0) (L 1) (L 2) (L 3) (L 4) (L 5) (L 6) (L 7) (L 8) true (L 10) (L 11) (L 12) (L 13)) ?_ ⟨h',rfl⟩;show OpT Tryz.prog o (uu n b0 i j hs rows hv rw0 X Y d h' (L 0) (L 1) (L 2) (L 3) (L 4) (L 5) (L 6) (L 7) (L 8) (L 9) (L 10) (L 11) (L 12) (L 13)) _;rw[hL,g7,g8];exact hall
 |10,ho,hL=>
  have hall:=Sro10 n b0 i j hs rows hv rw0 X Y d h' L o ho;have g9:L 9=true:=dpq ho 9 OB;refine OpT.x (σ':=uu n b0 i j hs rows hv rw0 X Y d h' (L 0) (L 1) (L 2) (L 3) (L 4) (L 5) (L 6) (L 7) (L 8) (L 9) true (L 11) (L 12) (L 13)) ?_ ⟨h',rfl⟩;show OpT Tryz.prog o (uu n b0 i j hs rows hv rw0 X Y d h' (L 0) (L 1) (L 2) (L 3) (L 4) (L 5) (L 6) (L 7) (L 8) (L 9) (L 10) (L 11) (L 12) (L 13)) _;rw[hL,g9];exact hall
 |11,ho,hL=>
  have hall:=Sro11 n b0 i j hs rows hv rw0 X Y d h' L hh hr hlr o ho;have g5:L 5=true:=dpq ho 5 OB;have g10:L 10=true:=dpq ho 10 OB;have g13:L 13=false:=by
   cases h:L 13 with
   |false=>rfl
   |true=>have:=cl 13 11 OB (h);rw[hL]at this;cases this
  show OpX Tryz.prog o (uu n b0 i j hs rows hv rw0 X Y d h' (L 0) (L 1) (L 2) (L 3) (L 4) (L 5) (L 6) (L 7) (L 8) (L 9) (L 10) (L 11) (L 12) (L 13)) (fun J=>∃h'',J=uu n b0 i j hs rows hv rw0 X Y d h'' (L 0) (L 1) (L 2) (L 3) (L 4) (L 5) (L 6) (L 7) (L 8) (L 9) (L 10) true (L 12) (L 13));rw[hL,g5,g10,g13];exact hall
 |12,ho,hL=>
  have hall:=Sro12 n b0 i j hs rows hv rw0 X Y d h' L hin o ho;have g0:L 0=true:=dpq ho 0 OB;have g1:L 1=true:=dpq ho 1 OB;refine OpT.x (σ':=uu n b0 i j hs rows hv rw0 X Y d h' (L 0) (L 1) (L 2) (L 3) (L 4) (L 5) (L 6) (L 7) (L 8) (L 9) (L 10) (L 11) true (L 13)) ?_ ⟨h',rfl⟩;show OpT Tryz.prog o (uu n b0 i j hs rows hv rw0 X Y d h' (L 0) (L 1) (L 2) (L 3) (L 4) (L 5) (L 6) (L 7) (L 8) (L 9) (L 10) (L 11) (L 12) (L 13)) _;rw[hL,g0,g1];exact hall
 |13,ho,hL=>
  have hall:=Sro13 n b0 i j hs rows hv rw0 X Y d h' L hi o ho;have g12:L 12=true:=dpq ho 12 OB;have g11:L 11=true:=dpq ho 11 OB;refine OpT.x (σ':=uu n b0 i j hs rows hv rw0 X Y d h' (L 0) (L 1) (L 2) (L 3) (L 4) (L 5) (L 6) (L 7) (L 8) (L 9) (L 10) (L 11) (L 12) true) ?_ ⟨h',rfl⟩;show OpT Tryz.prog o (uu n b0 i j hs rows hv rw0 X Y d h' (L 0) (L 1) (L 2) (L 3) (L 4) (L 5) (L 6) (L 7) (L 8) (L 9) (L 10) (L 11) (L 12) (L 13)) _;rw[hL,g12,g11];exact hall
 |q+14,ho,_=>
  have hs:oSr.size=14:=Z;have:=(Array.getElem?_eq_some_iff.1 ho).1;omega
end
def TL:Tab:= {TM with gl:=141::61::15::TM.gl}
theorem hTL:TabOK Tryz.prog TL:=zfz Z Z
noncomputable def qbj:Code:=Tryz.f141.body.getD .skip
abbrev frS(d:Dy):Hp:= [(10,.cells (dyC d)),(62,.free),(84,.free),(100084,.free),(1500084,.free)]
theorem k141s{X Y:Mx}{n:Nat}(hn:1<=n/\n<=8)(vX:VM n n X)(vY:VM n n Y)(v:VM n n (rsB n)){d:Dy}(hdd:d=rsD)(hd:VD d):
 SemOK Tryz.prog TL Tryz.f141.results.toList [] (.tup [.sl .vs (adM X (rsB n) 260).1,.sl .vs (adM Y (rsB n) 260).1]) G0 (zev 6 qbj) ⟨[.any,.any,.any,.any,.int .i64 n,.any,.sl .vs X,.sl .vs Y,.any,.any,.ptr 10 0]++jr 89,frS d++G0⟩:=by
 have c1:=qhx vX v (p:=260) OA;have c2:=qhx vY v (p:=260) OA;generalize (adM X (rsB n) 260).1=RX at*;generalize (adM Y (rsB n) 260).1=RY at*;obtain⟨G,hG⟩:∃G,rsB n=G:=⟨_,rfl⟩;have hGe:G=qC n (qC n ⟨jm d,d,false⟩):=by rw[<-hG,hdd];rfl
 have hGl:G.length=n:=by rw[hGe];simp
 have hGi:∀i:Nat,i<n->G[i]? =some (qC n ⟨jm d,d,false⟩):=fun i h=>by
  rw[hGe,qI,Z4 h]
 rw[hG]at c1 c2;clear hGe hG v;refine zxa (E:=23) (e:=28) (k:=.iv) (kk:=.vs) yq (fun r=>r) (fun _=>rfl) rfl (cap:=n) (fun rows=>rows=G)
  (fun b0=>⟨[.any,.any,.any,.any,.int .i64 n,.any,.sl .vs X,.sl .vs Y,.any,.any,.ptr 10 0,.any,.val (.slice (some ⟨b0,0,none⟩) n n)]++jr 48++ [.int .i64 n,.val (.slice (some ⟨b0,0,none⟩) n n)]++jr 37,frS d++ [(qa,.gst (vu JT 23 28 .iv b0 n (qC n (.slice none 0 0)) (qC n []) none))]⟩)
  (fun b0 hs rows=>⟨[.any,.any,.any,.any,.any,.any,.sl .vs X,.sl .vs Y,.any,.any,.any,.any,.val (.slice (some ⟨b0,0,none⟩) n n)]++jr 87,frS d++ [(qa,.gst (vu JT 23 28 .iv b0 n hs rows none))]⟩)
  (fun rows=> [.any,.any,.any,.any,.any,.any,.sl .vs X,.sl .vs Y,.any,.any,.any,.any,.sl .vs rows]++jr 87) ?_ (fun b0=>?_) (fun b0 hs rows=>Z) (fun b0 hs rows h=>⟨rfl,?_⟩) (fun b0 hs rows h=>?_)
 .refine zb4 hTL (σa:=⟨[.any,.any,.any,.any,.int .i64 n,.any,.sl .vs X,.sl .vs Y,.any,.any,.ptr 10 0]++jr 50++ [.int .i64 n]++jr 38,frS d++G0⟩) (n:=n) (e:=28) (k:=.iv) _ _ (spl 1 rfl) rfl yq rfl rfl rfl rfl rfl Tryz.underlying22 Tryz.type23 rfl rfl OA O _ ?_ (fun b0=>?_)
  .conv=>whnf
   exact rfl
  .conv=>whnf
   exact rfl
 .refine zcf hTL hmx [20] _ _ _ _ _ ?_;conv=>whnf
  refine⟨Nat×List Value,fun y=>y.1<=n/\y.2.length=n,fun y=> [(13,.int .i64 y.1),(61,.any),(62,.any)],fun y=> [(84,.free),(100084,.free),(1500084,.free),(qa,.gst (vu JT 23 28 .iv b0 n y.2 (rwA G y.1 0) none))],fun y=>n-y.1,(0,qC n (.slice none 0 0)),⟨qJ _,OC⟩,?_,?_⟩
  ·((conv=>whnf);refine qR ?_ ?_;repeat' first|refine lc ?_ ?_|refine lh1 ?_ ?_|refine bc0 ?_|exact KXZ|refine lg0 ?_|refine lt0 ?_)
   exact bg0 (by rw[zdz,hGl])
  rintro⟨i,hs⟩ ⟨hi,hh⟩;have hi:i<=n:=hi;have hh:hs.length=n:=hh
  (refine⟨Z,?_⟩;(conv=>whnf))
  refine brI (fun c1=>?_) (fun c1=>?_)
  .have c1:i<n:=by have:=Z0 c1;omega
   have hGr:=hGi i c1;have hgl:(qC n (⟨jm d,d,false⟩:Iv)).length =n:=OC;have hgy:∀j,j<n->(qC n (⟨jm d,d,false⟩:Iv))[j]? =some ⟨jm d,d,false⟩:=fun j h=>by rw[qI,Z4 h]
   generalize qC n (⟨jm d,d,false⟩:Iv)=g at*;conv=>whnf
   refine⟨Nat×List Value,fun y=>y.1<=n/\y.2.length=n,fun y=> [(14,.int .i64 y.1),(63,.any),(64,.any),(65,.any)],fun y=> [(84,.free),(100084,.free),(1500084,.free),(qa,.gst (vu JT 23 28 .iv b0 n y.2 (rwA G i y.1) none))],fun y=>n-y.1,(0,hs),⟨qJ _,hh⟩,?_,?_⟩
   .exact KZ0
   rintro⟨j,hs⟩ ⟨hj,hh⟩;have hj:j<=n:=hj;have hh:hs.length=n:=hh
   (refine⟨Z,?_⟩;(conv=>whnf))
   refine brI (fun c2=>?_) (fun c2=>?_)
   .have c2:j<n:=by have:=Z0 c2;omega
    obtain⟨hv,hhv⟩:∃hv,hs[i]? =some hv:=⟨_,qB O⟩;have haa:=zff (j:=j) hGr;have hbb:=zg3 hGr (hgy j c2);conv=>whnf
    refine zao hmx (SSr n b0 i j hs (rwA G i j) hv (g.take j) X Y d) (σ0:=uu n b0 i j hs (rwA G i j) hv (g.take j) X Y d (.slice none 0 0) false false false false false false false false false false false false false false) Z ⟨_,rfl⟩ ?_ Z (fun L q o h1 h2 h3 h4=>qje n b0 i j hs (rwA G i j) hv (g.take j) X Y d L c1 hhv hd haa (by rw[List.length_take];omega) O q o h1 h2 h3 h4) ?_
    .exact KZ0
    .rintro J ⟨h',rfl⟩;conv=>whnf
     refine⟨(j+1,hs.set i h'),⟨c2,by rw[List.length_set];exact hh⟩,by show n-(j+1)<n-j;omega,?_⟩
     ((conv=>whnf);refine qR ?_ ?_;repeat' first|refine lc ?_ ?_|refine lh1 ?_ ?_|refine bc0 ?_|exact KXZ|refine lg0 ?_|refine lt0 ?_)
     .refine ai0 ?_;rw[wI O];show(j:Int)+1=((j+1:Nat):Int);omega
     .refine bg0 ?_;rw[<-hbb];rfl
   .conv=>whnf
    have hj2:j=n:=by have:=Z1 c2;omega
    have hn2:=zd0 hGr;refine⟨(i+1,hs),⟨O,hh⟩,by show n-(i+1)<n-i;omega,?_⟩
    ((conv=>whnf);refine qR ?_ ?_;repeat' first|refine lc ?_ ?_|refine lh1 ?_ ?_|refine bc0 ?_|exact KXZ|refine lg0 ?_|refine lt0 ?_)
    .exact ai0 (by rw[wI O];omega)
    .exact bg0 (by rw[hj2,<-hgl,hn2])
  .conv=>whnf
   have hi2:i=n:=by have:=Z1 c1;omega
   refine⟨hs,rwA G i 0,by rw[hi2,<-hGl];exact zg4 G,?_⟩;exact KZ0
 .subst h;rw[hGl];exact⟨.inl rfl,.inl rfl,.inl rfl,.inl rfl,.inl rfl,.inl rfl,.inr (.inl rfl),.inr (.inl rfl),.inl rfl,.inl rfl,.inl rfl,.inl rfl,.inr (.inr ⟨rfl,OC⟩),za3 _⟩
 .subst h;refine wx hTL hmx ?_;conv=>whnf
  refine gYn c1 ?_
  refine gYn c2 ?_
  exact⟨lr rfl,lh1 (bg0 rfl) lh0⟩
theorem zsl{n:Nat}{m:Mx}(vm:VM n n m):∀k:Nat,k<=1000->VM n n (stM m 260 k).term /\VM n n (stM m 260 k).exp /\VM n n (stM m 260 k).phi
 |0,_=>by
  have:=zrl vm.n1;have e:stM m 260 0=⟨idM m.length,idM m.length,idM m.length⟩:=rfl;rw[e,vm.len];exact⟨this,this,this⟩
 |k+1,h=>by
  obtain⟨h1,h2,h3⟩:=zsl vm k O;have b1:VI (ze9 (whI 1) (whI ((k+1:Nat):Int)) 260):=zce (uz OA) (uz O) OA;have b2:VI (ze9 (whI 1) (whI ((k+2:Nat):Int)) 260):=zce (uz OA) (uz O) OA;have t:=yr (zdf h1 vm (p:=260) OA).2 b1 (p:=260) OA;exact⟨t,(zbv h2 t OA).2,(zbv h3 (yr t b2 OA) OA).2⟩
theorem k141{n:Nat}{m:Mx}(vm:VM n n m):Fn 141 G0 [.sl .vs m] (.tup [.sl .vs (rfS 70 m).exp,.sl .vs (rfS 70 m).phi]) G0:=by
 have hn:=vm.n1;have hml:=vm.len;have c215:=k215 hn;have hst:=zsl vm;have v1:VM n n (rsB n):=(zpm hn (D:=fun _ _=>0) fun i j _ _=>by rw[zg8];exact yz _).v;have c115:Fn 115 [] [.bool false,.sl .u32 [1],.int .i64 (-300)] (.tup [.agg (dyC rsD),.int .i64 0]) []:=n94 (neg:=false) (m:= [1]) (e:= -300) (zo 1) OA OA zqx;have w1:=k217 1 OA;obtain⟨K,hK⟩:∃K:Nat,70=K:=⟨_,rfl⟩;have e:rfS 70 m=⟨(adM (stM m 260 K).exp (rsB n) 260).1,(adM (stM m 260 K).phi (rsB n) 260).1⟩:=by unfold rfS;rw[hml,hK]
 rw[e];have rest:=k141s hn (hst K O).2.1 (hst K O).2.2 v1 (d:=rsD) rfl zqx;simp only;generalize (adM (stM m 260 K).exp (rsB n) 260).1=RX at*;generalize (adM (stM m 260 K).phi (rsB n) 260).1=RY at*;generalize rsD=d at*;refine qy (code:=qbj) hTL hmx Tryz.func141 rfl rfl (ex:= []) ?_;conv=>whnf
 refine je hTL hmx 6 (fun _:Unit=>⟨[.any,.any,.any,.any,.int .i64 n,.any,.sl .vs (stM m 260 K).exp,.sl .vs (stM m 260 K).phi,.any,.any,.ptr 10 0]++jr 89,frS d++G0⟩) (fun _=>Z) ?_ (fun _=>rest);conv=>whnf
 rw[hml];refine gYn c215 ?_
 refine⟨Nat,fun k=>k<=K,fun k=> [(8,.int .i64 ((k+1:Nat):Int)),(5,.sl .vs (stM m 260 k).term),(6,.sl .vs (stM m 260 k).exp),(7,.sl .vs (stM m 260 k).phi)],fun k=> [],fun k=>K-k,0,qJ _,?_,fun k hk=>?_⟩
 ·((conv=>whnf);refine qR ?_ ?_;repeat' first|refine lc ?_ ?_|refine lh1 ?_ ?_|refine bc0 ?_|exact KXZ|refine lg0 ?_|refine lt0 ?_)
  .exact qs (by show idM n=idM m.length;rw[hml])
  .exact qs (by show idM n=idM m.length;rw[hml])
  .exact qs (by show idM n=idM m.length;rw[hml])
 have hk:k<=K:=hk
 (refine⟨Z,?_⟩;(conv=>whnf))
 refine brI (fun d=>?_) (fun d=>?_)
 .have d:k<K:=by have d:((k+1:Nat):Int)<=70:=Z0 d;omega
  obtain⟨v1,v2,v3⟩:=hst k O;obtain⟨b1,hb1⟩:∃b,ze9 (whI 1) (whI ((k+1:Nat):Int)) 260=b:=⟨_,rfl⟩;obtain⟨b2,hb2⟩:∃b,ze9 (whI 1) (whI ((k+2:Nat):Int)) 260=b:=⟨_,rfl⟩;have vb1:VI b1:=by rw[<-hb1];exact zce (uz OA) (uz O) OA
  have vb2:VI b2:=by rw[<-hb2];exact zce (uz OA) (uz O) OA
  have q1:=k217 ((k+1:Nat):Int) O;have q2:=k217 ((k+2:Nat):Int) O;have d1:=k216 (uz (n:=1) OA).ri (uz (n:=((k+1:Nat):Int)) O).ri 260;have d2:=k216 (uz (n:=1) OA).ri (uz (n:=((k+2:Nat):Int)) O).ri 260;rw[hb1]at d1;rw[hb2]at d2;have m1:=k143 v1 vm (p:=260) OA;have vm1:=(zdf v1 vm (p:=260) OA).2;have s1:=k142 vm1 vb1 (p:=260) OA;have vs1:=yr vm1 vb1 (p:=260) OA;have a1:=qhx v2 vs1 (p:=260) OA;have s2:=k142 vs1 vb2 (p:=260) OA;have vs2:=yr vs1 vb2 (p:=260) OA;have a2:=qhx v3 vs2 (p:=260) OA;have eS:stM m 260 (k+1)=⟨scM (muM (stM m 260 k).term m 260).1 b1 260,(adM (stM m 260 k).exp (scM (muM (stM m 260 k).term m 260).1 b1 260) 260).1,(adM (stM m 260 k).phi (scM (scM (muM (stM m 260 k).term m 260).1 b1 260) b2 260) 260).1⟩:=by rw[<-hb1,<-hb2];rfl
  have hw:IntKind.i64.wrap (((k+1:Nat):Int)+1)=((k+2:Nat):Int):=by rw[wI O];omega
  generalize (stM m 260 k).term =S1 at*;generalize (stM m 260 k).exp =S2 at*;generalize (stM m 260 k).phi =S3 at*;generalize (muM S1 m 260).1=M1 at*;generalize scM M1 b1 260=T1 at*;generalize (adM S2 T1 260).1=A1 at*;generalize scM T1 b2 260=T2 at*;generalize (adM S3 T2 260).1=A2 at*;generalize whI 1=w at*;generalize whI ((k+1:Nat):Int)=x1 at*;generalize whI ((k+2:Nat):Int)=x2 at*;conv=>whnf
  refine gYn m1 ?_
  refine gYn w1 ?_
  refine gYn q1 ?_
  refine gYn d1 ?_
  refine gYn s1 ?_
  refine gYn a1 ?_
  refine gYn w1 ?_
  rw[hw];refine gYn q2 ?_
  refine gYn d2 ?_
  refine gYn s2 ?_
  refine gYn a2 ?_
  refine⟨k+1,d,by show K-(k+1)<K-k;omega,?_⟩
  ((conv=>whnf);refine qR ?_ ?_;repeat' first|refine lc ?_ ?_|refine lh1 ?_ ?_|refine bc0 ?_|exact KXZ|refine lg0 ?_|refine lt0 ?_)
  .exact qs (by rw[eS])
  .exact qs (by rw[eS])
  .exact qs (by rw[eS])
  .exact ai0 (by rw[hw])
 .have hk2:k=K:=by have d:¬((k+1:Nat):Int)<=70:=Z1 d;omega
  subst hk2;conv=>whnf
  refine gYn c115 ?_
  refine⟨(),?_⟩;exact KZ0
theorem k214{d:Dy}(v:VD d){j:Int}(hj: -1000<=j/\j<=0)(h:(qg d j).2=0):Fn 214 [] [.agg (dyC d),.int .i64 j] (.tup [.agg (dyC (qg d j).1),.int .i64 0]) []:=by
 have e:(qg d j).1=cnN d.neg (nm d) (d.e+j)/\VD (cnN d.neg (nm d) (d.e+j)):=by
  have hx:exB j=true:=by unfold exB;simp;omega
  unfold qg at h⊢;rw[Z5 (by rw[hx];decide)]at h⊢;unfold ckN at h⊢;split at h
  .rename_i c;rw[Z4 c];exact⟨rfl,zie c⟩
  .cases h
 rw[e.1];have he:=v.exp;have c25:=qcw d v.lb (by have:=v.len;omega);rw[(jt v.lb).2 v]at c25;have c192:=n136 j O;have c124:Fn 124 [] [.bool d.neg,.sl .u32 d.m,.int .i64 (d.e+j)] (.agg (dyC (cnN d.neg (nm d) (d.e+j)))) []:=zxn d.neg v.lb (by have:=v.len;omega) (d.e+j) O;have c193:=n137 e.2;have hw:IntKind.i64.wrap (d.e+j)=d.e+j:=wI O;generalize cnN d.neg (nm d) (d.e+j)=D at*;clear e h v;obtain⟨d1,d2,d3⟩:=d;simp only at hw c124;refine fZM Tryz.func214 rfl rfl ?_;conv=>whnf
 refine gYn c25 ?_
 refine gYn c192 ?_
 rw[hw];refine gYn c124 ?_
 refine gYn c193 ?_
 exact⟨lr rfl,lh0⟩
theorem k140{x:Iv}(k:KI x){j:Int}(hj: -1000<=j/\j<=0)(h:(zn x j).all =false):Fn 140 [] [.agg (ivC x),.int .i64 j] (.agg (ivC (zn x j))) []:=by
 have hk:kB x=true:=(qb k.ri).2 k;have e:zn x j=jc (qg x.lo j) (qg x.hi j):=by unfold zn;rw[Z4 hk]
 rw[e]at h⊢;obtain⟨h1,h2⟩:=um.1 h;have c1:=k214 k.lo hj h1;have c2:=k214 k.hi hj h2;have c147:=qan x k.ri;rw[hk]at c147;have c149:=r256 (qg x.lo j) (qg x.hi j);rw[h1,h2]at c149;generalize jc (qg x.lo j) (qg x.hi j)=R at*;generalize (qg x.lo j).1=L at*;generalize (qg x.hi j).1=U at*;clear k e h h1 h2 hk;refine fZM Tryz.func140 rfl rfl ?_;conv=>whnf
 refine gYn c147 ?_
 refine brI (fun c=>absurd (Z0 c) O) (fun c=>?_);conv=>whnf
 refine brI (fun c=>absurd (Z0 c) O) (fun c=>?_);conv=>whnf
 refine gYn c1 ?_
 refine gYn c2 ?_
 refine gYn c149 ?_
 exact⟨lr rfl,lh0⟩
theorem qbf(p:Int):∀(n:Nat)(x:MPr),zc1 p (n+1) x=znh p (zc1 p n x)
 |0,_=>rfl
 |n+1,x=>qbf p n (znh p x)
theorem zvn{n:Nat}:∀(s:Nat)(x:MPr),VM n n x.exp->VM n n x.phi->VM n n (zc1 260 s x).exp /\VM n n (zc1 260 s x).phi
 |0,_,h1,h2=>⟨h1,h2⟩
 |s+1,x,h1,h2=>zvn s (znh 260 x) (zdf h1 h1 OA).2 (zbv h2 (zdf h1 h2 OA).2 OA).2
def rfN(Zq:Nat):Nat:=if Zq=0 then 0 else(qd (cnN false Zq (-160))+1).toNat
theorem qgu{n:Nat}{m:Mx}(vm:VM n n m):VM n n (rfS 70 m).exp /\VM n n (rfS 70 m).phi :=by
 obtain⟨K,hK⟩:∃K:Nat,70=K:=⟨_,rfl⟩;obtain⟨_,h2,h3⟩:=zsl vm K O;have v1:VM n n (rsB n):=(zpm vm.n1 (D:=fun _ _=>0) fun i j _ _=>by rw[zg8];exact yz _).v;unfold rfS;rw[hK,vm.len];exact⟨(zbv h2 v1 OA).2,(zbv h3 v1 OA).2⟩
noncomputable def qbl:Code:=Tryz.f61.body.getD .skip
theorem k61r{a M:Mx}{n:Nat}{t u:Iv}{s:Nat}{X0:MPr}{P0:Mx}(c140:Fn 140 [] [.agg (ivC t),.int .i64 (-(s:Int))] (.agg (ivC u)) [])(c142:Fn 142 [] [.sl .vs a,.agg (ivC u),.int .i64 260] (.sl .vs M) [])
 (c141:Fn 141 G0 [.sl .vs M] (.tup [.sl .vs X0.exp,.sl .vs P0]) G0) (c142b:Fn 142 [] [.sl .vs P0,.agg (ivC u),.int .i64 260] (.sl .vs X0.phi) []) (hD:∀q,VM n n (zc1 260 q X0).exp /\VM n n (zc1 260 q X0).phi) (hs8:s<=8):
 SemOK Tryz.prog TL Tryz.f61.results.toList [] (.tup [.sl .vs (zc1 260 s X0).exp,.sl .vs (zc1 260 s X0).phi]) G0 (zev 3 qbl) ⟨[.sl .vs a,.any,.any,.ptr 3 0,.any,.any,.int .i64 (-(s:Int))]++jr 61,[(3,.cells (ivC t)),(7,.free)]++G0⟩:=by
 refine wx hTL hmx ?_;conv=>whnf
 refine gYn c140 ?_
 refine gYn c142 ?_
 refine gZc c141 ?_;conv=>whnf
 refine gYn c142b ?_
 refine⟨Nat,fun q=>q<=s,fun q=> [(10,.int .i64 (-(s:Int)+q)),(8,.sl .vs (zc1 260 q X0).exp),(9,.sl .vs (zc1 260 q X0).phi)],fun q=> [],fun q=>s-q,0,qJ _,?_,fun q hq=>?_⟩
 ·((conv=>whnf);refine qR ?_ ?_;repeat' first|refine lc ?_ ?_|refine lh1 ?_ ?_|refine bc0 ?_|exact KXZ|refine lg0 ?_|refine lt0 ?_)
  all_goals first|exact ai0 O|exact qs rfl
 have hq:q<=s:=hq
 (refine⟨Z,?_⟩;(conv=>whnf))
 refine brI (fun c=>?_) (fun c=>?_)
 .have c:q<s:=by have c: -(s:Int)+q<0:=Z0 c;omega
  obtain⟨v1,v2⟩:=hD q;have m1:=k143 v1 v2 (p:=260) OA;have a1:=qhx v2 (zdf v1 v2 (p:=260) OA).2 (p:=260) OA;have m2:=k143 v1 v1 (p:=260) OA;have eS:zc1 260 (q+1) X0=⟨(muM (zc1 260 q X0).exp (zc1 260 q X0).exp 260).1,(adM (zc1 260 q X0).phi (muM (zc1 260 q X0).exp (zc1 260 q X0).phi 260).1 260).1⟩:=qbf 260 q X0;generalize (zc1 260 q X0).exp =E at*;generalize (zc1 260 q X0).phi =F at*;generalize (muM E F 260).1=V at*;generalize (adM F V 260).1=A at*;generalize (muM E E 260).1=B at*;conv=>whnf
  refine gYn m1 ?_
  refine gYn a1 ?_
  refine gYn m2 ?_
  refine⟨q+1,c,by show s-(q+1)<s-q;omega,?_⟩
  ((conv=>whnf);refine qR ?_ ?_;repeat' first|refine lc ?_ ?_|refine lh1 ?_ ?_|refine bc0 ?_|exact KXZ|refine lg0 ?_|refine lt0 ?_)
  .exact qs (by rw[eS])
  .exact qs (by rw[eS])
  .exact ai0 (by rw[wI O];omega)
 .have c:q=s:=by have c:¬ -(s:Int)+q<0:=Z1 c;omega
  subst c;conv=>whnf
  exact⟨lr rfl,za1⟩
theorem k61{a:Mx}{n:Nat}(hn:n<=3)(va:VM n n a)(hk:∀r∈a,∀x∈r,KI x/\zal x=false){t:Iv}(kt:KI t)(ht:zal t=false){s:Nat}(hs:rfN (szM a a.length*zak t)=s)(hs8:s<=8)(hZ:VD (cnN false (szM a a.length*zak t) (-160)))
 (hsc:(zn t (-(s:Int))).all =false):Fn 61 G0 [.sl .vs a,.agg (ivC t)] (.tup [.sl .vs (rfB 70 a t s).exp,.sl .vs (rfB 70 a t s).phi]) G0:=by
 have c53:=n50 hn va hk kt ht;have c120:=r252 hZ;have c140:=k140 kt (j:= -(s:Int)) O hsc;generalize hz:szM a a.length*zak t=Zq at*;have vs:VI (zn t (-(s:Int))):=zbb (.inl kt) _;have vm:=yr va vs (p:=260) OA;have c142:=k142 va vs (p:=260) OA;have c141:=k141 vm;obtain⟨w1,w2⟩:=qgu vm;have c142b:=k142 w2 vs (p:=260) OA;have w3:=yr w2 vs (p:=260) OA;unfold rfB;have hD:=zvn (n:=n);generalize hX:(⟨(rfS 70 (scM a (zn t (-(s:Int))) 260)).exp,scM (rfS 70 (scM a (zn t (-(s:Int))) 260)).phi (zn t (-(s:Int))) 260⟩:MPr)=X0 at*;have hX1:X0.exp=(rfS 70 (scM a (zn t (-(s:Int))) 260)).exp :=by rw[<-hX]
 have hX2:X0.phi=scM (rfS 70 (scM a (zn t (-(s:Int))) 260)).phi (zn t (-(s:Int))) 260:=by rw[<-hX]
 have hD:=fun q=>hD q X0 (by rw[hX1];exact w1) (by rw[hX2];exact w3)
 rw[<-hX2]at c142b;rw[<-hX1]at c141;generalize (rfS 70 (scM a (zn t (-(s:Int))) 260)).phi =P0 at*;generalize scM a (zn t (-(s:Int))) 260=M at*;generalize zn t (-(s:Int))=u at*;generalize hC:cnN false Zq (-160)=C at*;have hlen:C.m.length=0<->Zq=0:=by
  rw[hZ.eq,wv,<-hC];constructor
  .intro h;refine Decidable.byContradiction fun c=>qau c h
  .intro h;subst h;rfl
 have ht0:Zq=0->qd C=0:=fun h=>by subst h;rw[<-hC];rfl
 have hsN:s=if Zq=0 then 0 else(qd C+1).toNat :=by rw[<-hs,<-hC];rfl
 have htb: -20000<=qd C/\qd C<=20000:=by
  have:=hZ.exp;have:=hZ.bits;unfold qd;split<;>omega
 clear hX hX1 hX2 hC hs hz w1 w2 w3 vs vm hk ht va;obtain⟨C1,C2,C3⟩:=C;simp only at hlen;generalize qd ⟨C1,C2,C3⟩=T at*;have rest:=k61r c140 c142 c141 c142b hD hs8;refine qy (code:=qbl) hTL hmx Tryz.func61 rfl rfl (ex:= []) ?_;conv=>whnf
 refine je hTL hmx 3 (fun _:Unit=>⟨[.sl .vs a,.any,.any,.ptr 3 0,.any,.any,.int .i64 (-(s:Int))]++jr 61,[(3,.cells (ivC t)),(7,.free)]++G0⟩) (fun _=>Z) ?_ (fun _=>rest);conv=>whnf
 refine⟨Nat,fun i=>i<=s,fun i=> [(6,.int .i64 (-(i:Int)))],fun i=> [],fun i=>s-i,0,qJ _,?_,fun i hi=>?_⟩
 .exact KZ0
 have hi:i<=s:=hi;have hw:IntKind.i64.wrap (0- -(i:Int))=i:=by rw[wI O];omega
 (refine⟨Z,?_⟩;(conv=>whnf))
 refine gYn c53 ?_
 refine gYn c120 ?_
 refine brI (fun c1=>?_) (fun c1=>?_)
 .have c1:(i:Int)<=T:=by have c1:=Z0 c1;rw[hw]at c1;omega
  conv=>whnf
  refine gYn c53 ?_
  refine brI (fun c2=>?_) (fun c2=>?_)
  .have c2:¬C2.length=0:=by have c2:((C2.length:Nat):Int)>0:=Z0 c2;omega
   have hlt:i<s:=by
    have hz:=mt hlen.2 c2;rw[Z5 hz]at hsN;omega
   conv=>whnf
   refine⟨i+1,hlt,by show s-(i+1)<s-i;omega,?_⟩;exact KZ0
  .have c2:C2.length=0:=by have c2:¬((C2.length:Nat):Int)>0:=Z1 c2;omega
   have hsi:i=s:=by
    rw[Z4 (hlen.1 c2)]at hsN;omega
   subst hsi;conv=>whnf
   refine⟨(),?_⟩;exact KZ0
 .have c1:¬(i:Int)<=T:=by have c1:=Z1 c1;rw[hw]at c1;omega
  have hsi:i=s:=by
   by_cases hz:Zq=0
   .rw[Z4 hz]at hsN;omega
   .rw[Z5 hz]at hsN;omega
  subst hsi;conv=>whnf
  refine⟨(),?_⟩;exact KZ0
theorem zu8{bits:Int}{l:List Iv}{i:Nat}{y:Iv}(h:(enL bits l)[i]? =some y):∃x,l[i]? =some x/\Cn x y:=by
 unfold enL at h;rw[qW,qN]at h;obtain⟨x,hx,rfl⟩:=h;refine⟨x,hx,_,?_,rfl⟩;split
 .exact .inr rfl
 .exact .inl rfl
theorem zqh(bits:Int)(l:List Iv):(enL bits l).length =l.length:=by unfold enL;simp
theorem zwh{x y:Iv}(k:KI x)(h:Cn x y):KI y:=(Cn_kI k h).k
theorem qie{k:Nat}{a:Mx}(va:VM (k+1) (k+1) a)(hel:∀r∈a,∀x∈r,KI x)(bits:Int):crM k a (enM bits a):=by
 have hr:∀r∈enM bits a,∃(i:Nat)(s:List Iv),a[i]? =some s/\r=enL (nbI bits i) s:=fun r hr=>by
  obtain⟨i,s,h1,_,h2⟩:=wl hr;exact⟨i,s,h1,h2⟩
 have v:VM (k+1) (k+1) (enM bits a):=⟨va.n1,va.k1,by unfold enM;rw[qX,va.len],fun r h=>by
  obtain⟨i,s,h1,rfl⟩:=hr r h;rw[zqh,va.row s (qA h1)],fun r h x hx=>by
  obtain⟨i,s,h1,rfl⟩:=hr r h;obtain⟨j,hj⟩:=qF hx;obtain⟨y,hy,hc⟩:=zu8 hj;exact .inl (zwh (hel s (qA h1) y (qA hy)) hc)⟩
 refine⟨v,fun i j hi hj=>?_⟩;obtain⟨r,h1⟩:∃r,a[i]? =some r:=⟨_,qB (by rw[va.len];omega)⟩;have hrl:=va.row r (qA h1);obtain⟨x,hx⟩:∃x,r[j]? =some x:=⟨_,qB O⟩;have h2:(enM bits a)[i]? =some (enL (nbI bits i) r):=by unfold enM;rw[qW,h1];rfl
 obtain⟨y,hy⟩:∃y,(enL (nbI bits i) r)[j]? =some y:=⟨_,qB (by rw[zqh];omega)⟩;obtain⟨x',hx',hc⟩:=zu8 hy;rw[hx]at hx';cases hx'
 rw[zci h1 hx,zci h2 hy];exact hc
theorem qbu{x y:Iv}(k:KI x)(h:zal x=false)(c:Cn x y):zal y=false:=by
 obtain⟨h1,h2,h3,h4,h5⟩:=zrf h;have h6:=zt1 h5;obtain⟨d,hd,rfl⟩:=c;have kd:KI (zx d):=zwh k ⟨d,hd,rfl⟩;obtain⟨g0,g1,g2,g3,g4⟩:=zaj k;have hb:dv (zbn (zx d))<=pw 20:=by
  have e:zbn (zx d)=jm d\/zbn (zx d)=d:=(zgm (jm d) d).2.2;rcases hd with rfl|rfl<;>rcases e with e|e<;>rw[e]<;>(try rw[za4])<;>grind
 have hn:nrB (zx d)=true:=by
  unfold nrB;rw[Z2,jl,uf,Z5 OC,zgy];exact hb
 unfold zal;rw[hn];rcases hd with rfl|rfl
 .show(decide (3<x.lo.m.length)||decide (3<x.lo.m.length)||decide (x.lo.e< -80)||decide (x.lo.e< -80)|| !true)=false;rw[Z7 O,Z7 O];rfl
 .show(decide (3<x.hi.m.length)||decide (3<x.hi.m.length)||decide (x.hi.e< -80)||decide (x.hi.e< -80)|| !true)=false;rw[Z7 O,Z7 O];rfl
theorem zs7{r:List Iv}{c B:Nat}(h:∀x∈r,zak x*c<=B):∀j,rwS r j*c<=j*B
 |0=>by rw[qcq,Nat.zero_mul];exact qJ _
 |j+1=>by
  have ih:=zs7 h j
  cases hg:r[j]? with
  |none=>
   have e:rwS r (j+1)=rwS r j:=by unfold rwS;rw[qT,hg];simp
   rw[e,w4];omega
  |some x=>
   have:=h x (qA hg);rw[zq8 hg,w4,w4,Nat.one_mul];omega
theorem zse{a:Mx}{c B:Nat}(h:∀r∈a,rwS r r.length*c<=B):∀i,szM a i*c<=B
 |0=>by show 0*c<=B;omega
 |i+1=>by
  have ih:=zse h i
  cases hg:a[i]? with
  |none=>
   have e:szM a (i+1)=szM a i:=by unfold szM;rw[qT,hg];simp
   rw[e];exact ih
  |some r=>
   have:=h r (qA hg);rw[zwy hg];rcases Nat.le_total (szM a i) (rwS r r.length)with c2|c2
   .rw[Nat.max_eq_right c2];exact this
   .rw[Nat.max_eq_left c2];exact ih
theorem zz0{Zq:Nat}(h:Zq≠0)(e:Int):qd (cnN false Zq e)=(bl Zq:Int)+e:=by
 obtain⟨m,_,h1,h2,h3⟩:=xu h;have hc:cnN false Zq e=⟨false,toL m,e+tz Zq⟩:=by unfold cnN;rw[Z5 h,h2]
 rw[hc];unfold qd;rw[ji,Z5 O,h3];show(bl m:Int)+(e+tz Zq)=_;omega
theorem qcu{Zq:Nat}{s:Nat}(hs:rfN Zq=s):vN Zq (-160)*pw (-(s:Int))*2<=1:=by
 by_cases h:Zq=0
 .subst h;rw[uj];grind
 unfold rfN at hs;rw[Z5 h,zz0 h]at hs;have h1:=zdt (n:=Zq) (e:= -160) (t:=(s:Int)-1) O;have h2:=qw (Rat.le_of_lt h1) (yz (-(s:Int)));rw[<-pwA,show(s:Int)-1+ -(s:Int)= -1 by omega]at h2;have h3:pw (-1)*2=1:=by
  have e1:(2:Rat)=pw 1:=by rw[show(1:Int)=((1:Nat):Int)from rfl,wq];rfl
  rw[e1,<-pwA];exact wq 0
 grind
theorem qb5{α β γ:Type}{f:α->β->γ}{l:List α}{m:List β}{i:Nat}{x:α}{y:β}(h:l[i]? =some x)(g:m[i]? =some y):(qU f l m).take (i+1)=(qU f l m).take i++ [f x y]:=by
 rw[qT,qP,h,g];rfl
theorem k15{m E F:Mx}{n:Nat}(vE:VM n n E)(vF:VM n n F){t:Iv}(c61:Fn 61 G0 [.sl .vs m,.agg (ivC t)] (.tup [.sl .vs E,.sl .vs F]) G0){b x:List Iv}(hb:∀y∈b,VI y)(hx:∀y∈x,VI y)(hbl:b.length=n)(hxl:x.length=n):
 Fn 15 G0 [.sl .vs m,.sl .iv b,.sl .iv x,.agg (ivC t)] (.sl .iv (znp 260 (apM E x 260) (apM F b 260))) G0:=by
 have n1:=vE.n1;have c1:=k62 vE hx hxl (p:=260) OA;have c2:=k62 vF hb hbl (p:=260) OA;have l1:(apM E x 260).length =n:=by unfold apM;rw[qK,vE.len]
 have l2:(apM F b 260).length =n:=by unfold apM;rw[qK,vF.len]
 have r1:∀y∈apM E x 260,RI y:=fun y hy=>by
  obtain⟨r,hr,rfl⟩:=w6.1 hy;exact(zve OA (vE.el r hr) hx).ri
 have r2:∀y∈apM F b 260,RI y:=fun y hy=>by
  obtain⟨r,hr,rfl⟩:=w6.1 hy;exact(zve OA (vF.el r hr) hb).ri
 obtain⟨G,hG⟩:∃G,znp 260 (apM E x 260) (apM F b 260)=G:=⟨_,rfl⟩;have hGe:qU (fun u v=>yp u v 260) (apM E x 260) (apM F b 260)=G:=hG;rw[hG];generalize apM E x 260=Y at*;generalize apM F b 260=Zq at*;have hGl:G.length=n:=by rw[<-hGe,qQ];omega
 refine fnT hTL hmx Tryz.func15 rfl rfl (ex:= []) ?_;conv=>whnf
 refine gZc c61 ?_;conv=>whnf
 refine gYn c1 ?_
 refine gYn c2 ?_
 refine⟨Nat,fun i=>i<=Y.length,fun i=> [(16,.int .i64 i),(15,.own 52)],fun i=> [(52,.buf 28 .iv (G.take i))],fun i=>Y.length-i,0,qJ _,?_,fun i hi=>?_⟩
 .exact KZ0
 have hi:i<=Y.length:=hi
 (refine⟨Z,?_⟩;(conv=>whnf))
 refine brI (fun d=>?_) (fun d=>?_)
 .have d:i<Y.length:=by have d:((i:Nat):Int)<(Y.length:Int):=Z0 d;omega
  obtain⟨u,hu⟩:∃z,Y[i]? =some z:=⟨_,qB d⟩;obtain⟨v,hv⟩:∃z,Zq[i]? =some z:=⟨_,qB O⟩;have ca:=k63 (r1 u (qA hu)) (r2 v (qA hv)) 260;have hGi:=qb5 (f:=fun u v=>yp u v 260) hu hv;rw[hGe]at hGi;conv=>whnf
  refine⟨⟨O,O⟩,fun(z1:Iv)hz1=>?_⟩;obtain rfl:=zc6 hu hz1;conv=>whnf
  refine⟨⟨O,O⟩,fun(z2:Iv)hz2=>?_⟩;obtain rfl:=zc6 hv hz2;conv=>whnf
  refine gYn ca ?_
  refine⟨OE,?_⟩
  (refine⟨Z,Z,?_⟩;(conv=>whnf))
  refine⟨i+1,d,by show Y.length-(i+1)<Y.length-i;omega,?_⟩;exact KZ0
 .have d:i=Y.length:=by have d:¬((i:Nat):Int)<(Y.length:Int):=Z1 d;omega
  conv=>whnf
  exact⟨qs (by rw[qO O]),za1⟩
theorem qbt{x y:Iv}(k:KI x)(c:Cn x y):dv (zbn y)<=dv (zbn x):=by
 obtain⟨d,hd,rfl⟩:=c;obtain⟨g0,g1,g2,g3,g4⟩:=zaj k;have e:zbn (zx d)=jm d\/zbn (zx d)=d:=(zgm (jm d) d).2.2;rcases hd with rfl|rfl<;>rcases e with e|e<;>rw[e]<;>(try rw[za4])<;>grind
theorem nQ_sz{k:Nat}{m:Mx}(v:VM (k+1) (k+1) m)(hel:∀r∈m,∀x∈r,KI x/\zal x=false):nQ k (fun i j=>dv (atM m i j).lo) (vN (szM m m.length) (-80)):=fun i hi=>by
 obtain⟨r,hr⟩:∃r,m[i]? =some r:=⟨_,qB (by rw[v.len];omega)⟩;have hrl:=v.row r (qA hr);have one:∀j,j<=k->∃x,r[j]? =some x/\qk (dv (atM m i j).lo)<=vN (zak x) (-80):=fun j hj=>by
  obtain⟨x,hx⟩:∃x,r[j]? =some x:=⟨_,qB O⟩;obtain⟨kx,lx⟩:=hel r (qA hr) x (qA hx);obtain⟨g0,g1,g2,_⟩:=zaj kx;have e:=(zaz kx lx).1;refine⟨x,hx,?_⟩;rw[zci hr hx];have e2:vN (zak x) (-80)=dv (zbn x):=by conv=>rhs;rw[e,uf,Z5 OC]
  rw[e2];exact zai.2 ⟨g1,g2⟩
 have key:∀j,j<=k->sQ (fun r=>qk (dv (atM m i r).lo)) j<=vN (rwS r (j+1)) (-80):=fun j=>by
  induction j with
  |zero=>
   intro h;obtain⟨x,hx,h1⟩:=one 0 h;rw[zq8 hx,qcq,Nat.zero_add];exact h1
  |succ j ih=>
   intro h;obtain⟨x,hx,h1⟩:=one (j+1) h;have h2:=ih O;rw[zq8 hx,<-zlm];show sQ (fun r=>qk (dv (atM m i r).lo)) j+qk (dv (atM m i (j+1)).lo)<=_;grind
 have h1:=key k (w0 _);have h2:=zo9 m.length i r hr (by rw[v.len];omega);rw[hrl]at h2;exact qL h1 (uk.2 h2)
theorem bv_of{l:List Iv}(h1:1<=l.length/\l.length<=8)(h:∀y∈l,KI y):bvB l=true:=by
 unfold bvB;rw[Z6 h1,Bool.true_and];have:(l.any fun x=>x.all|| !viB x)=false:=by
  rw[List.any_eq_false];intro x hx;have k:=h x hx;rw[k.all,(wu k.ri).2 (.inl k)];decide
 rw[this];rfl
theorem qbg{k:Nat}{b b':List Iv}(hl:b.length=k+1)(hl':b'.length=k+1)(hk:∀y∈b,KI y)(hc:∀(i:Nat)(y:Iv),b'[i]? =some y->∃x,b[i]? =some x/\Cn x y):
 cnL k (fun i=>dv ((b'[i]?).getD zI).lo) b/\cnL k (fun i=>dv ((b'[i]?).getD zI).lo) b':=by
 refine⟨⟨hl,fun i y hy=>?_⟩,⟨hl',fun i y hy=>?_⟩⟩
 .have hi:=(qG.1 hy).1;obtain⟨z,hz⟩:∃z,b'[i]? =some z:=⟨_,qB O⟩;obtain⟨x,hx,d,hd,e⟩:=hc i z hz;rw[hy]at hx;cases hx
  have k:=hk y (qA hy);refine⟨.inl k,?_⟩;rw[hz,e];have:=k.dle;rcases hd with rfl|rfl
  .exact .inr ⟨qH,this⟩
  .exact .inr ⟨this,qH⟩
 .obtain⟨x,hx,d,hd,e⟩:=hc i y hy;have kx:=hk x (qA hx);refine⟨.inl (zwh kx ⟨d,hd,e⟩),?_⟩;rw[hy,e];exact .inr ⟨qH,qH⟩
theorem zyf{a:Mx}(ha:RX a){t:Iv}(ht:RI t){b x:List Iv}(hb:∀y∈b,RI y)(hx:∀y∈x,RI y){p:Int}(hp:pcB p=true)(h:znw a t [b,x]=true)(B B4 B6 B9:Int):
 ∃(out res:List Iv)(T:Iv),(enL B9 [t])= [T]/\(∀r∈a,r.length<=100)/\a.length<=100/\b.length<=100/\x.length<=100/\zud a b x t p=(out,0)/\out.length=a.length/\
  Fn 15 G0 [.sl .vs (enM B a),.sl .iv (enL B4 b),.sl .iv (enL B6 x),.agg (ivC T)] (.sl .iv res) G0/\MtL out res:=by
 obtain⟨sm,hls⟩:=sm_ok h;obtain⟨b1,b2,b3⟩:=hls b OC;obtain⟨x1,x2,x3⟩:=hls x OC;obtain⟨n,va,kt,_⟩:=zjs ha ht sm.cas;have hel:=qbh ha ht sm.cas;have hn:n<=3:=by rw[<-va.len];exact sm.n3
 obtain⟨k,rfl⟩:∃k,n=k+1:=⟨n-1,by have:=va.n1;omega⟩;have hk:k<=2:=O;have bk:=(qen hb b1).2;have xk:=(qen hx x1).2;have lb:b.length=k+1:=by rw[b2,va.len]
 have xl:x.length=k+1:=by rw[x2,va.len]
 have k20:∀y:Iv,KI y->zal y=false->kI (pw 20) y:=fun y ky ly=>(zme ky).mono (zt1 (zrf ly).2.2.2.2)
 obtain⟨w,C,hw,hC,w1,w2⟩:=qck hk va sm kt hel hp;obtain⟨ol,ok⟩:=qge hk hC w1 w2 xl lb (fun y hy=>k20 y (xk y hy) (x3 y hy)) (fun y hy=>k20 y (bk y hy) (b3 y hy)) hp;have hcas:zjt a t p=true:=by
  have h1:=sm.cas;unfold zjt at h1⊢;rw[hp];simp only[Bool.and_eq_true]at h1⊢;exact⟨⟨⟨h1.1.1.1,h1.1.1.2⟩,trivial⟩,h1.2⟩
 have hlin:zud a b x t p=(znp p (apM w.exp x p) (apM w.phi b p),0):=by
  unfold zud;rw[Z4 (by rw[hcas,b1,x1,b2,x2];simp),hw];show(if bvB (znp p (apM w.exp x p) (apM w.phi b p))=true then(znp p (apM w.exp x p) (apM w.phi b p),(0:Int))else([],13))=_;rw[Z4 (bv_of O ok)]
 have hcr:=qie va hel B;obtain⟨T,hT,cT⟩:∃T,enL B9 [t]= [T]/\Cn t T:=by
  refine⟨zx (if bt B9 0=true then t.hi else t.lo),rfl,_,?_,rfl⟩;split
  .exact .inr rfl
  .exact .inl rfl
 have kT:=zwh kt cT;have lT:=qbu kt sm.lt cT;have hem:∀r∈enM B a,∀y∈r,∃r'∈a,∃z∈r',Cn z y:=fun r hr y hy=>by
  obtain⟨i,s,h1,hm,rfl⟩:=wl hr;obtain⟨j,hj⟩:=qF hy;obtain⟨z,hz,hc⟩:=zu8 hj;exact⟨s,hm,z,qA hz,hc⟩
 have hKL:∀r∈enM B a,∀y∈r,KI y/\zal y=false:=fun r hr y hy=>by
  obtain⟨r',h1,z,h2,hc⟩:=hem r hr y hy;exact⟨zwh (hel r' h1 z h2) hc,qbu (hel r' h1 z h2) (sm.la r' h1 z h2) hc⟩
 have hprod:∀r∈enM B a,∀y∈r,zak y*zak T<=2^164:=fun r hr y hy=>by
  obtain⟨r',h1,z,h2,hc⟩:=hem r hr y hy;have kz:=hel r' h1 z h2;obtain⟨ky,ly⟩:=hKL r hr y hy;have s1:=qgi sm kt h1 h2 kz;have m1:=qbt kz hc;have m2:=qbt kt cT;have p1:=(zaj ky).1;have p2:=(zaj kT).1;have p3:=qD m1 p2;have p4:=qE m2 (zaj kz).1;have e1:dv (zbn y)=vN (zak y) (-80):=by conv=>lhs;rw[(zaz ky ly).1,uf,Z5 OC]
  have e2:dv (zbn T)=vN (zak T) (-80):=by conv=>lhs;rw[(zaz kT lT).1,uf,Z5 OC]
  have e4:pw 4=vN (2^164) (-160):=by rw[zbw];rfl
  have hle:vN (zak y*zak T) (-160)<=vN (2^164) (-160):=by
   rw[<-e4,show(-160:Int)= -80+ -80 by decide,<-zix,<-e1,<-e2];grind
  exact uk.1 hle
 have hZ:szM (enM B a) (enM B a).length *zak T<=3*2^164:=zse (fun r hr=>by
  have h1:=zs7 (hprod r hr) r.length;have h2:=hcr.v.row r hr;exact Nat.le_trans h1 (Nat.mul_le_mul_right _ O)) _
 have vZ:VD (cnN false (szM (enM B a) (enM B a).length *zak T) (-160)):=qjd (qY hZ OA) OA;obtain⟨s,hs⟩:∃s,rfN (szM (enM B a) (enM B a).length *zak T)=s:=⟨_,rfl⟩;have hs8:s<=8:=by
  have hb:bl (szM (enM B a) (enM B a).length *zak T)<=166:=ur.2 (qY hZ OA);rw[<-hs];unfold rfN;split
  .omega
  .rename_i c;rw[zz0 c];omega
 obtain⟨d,hd,eT⟩:=cT;have vd:VD d:=by rw[eT]at kT;exact kT.lo
 have de: -80<=d.e:=by
  have lt:=zrf sm.lt;rcases hd with rfl|rfl
  .exact lt.2.2.1
  .exact lt.2.2.2.1
 have hsc:(zn T (-(s:Int))).all =false:=by
  rw[eT]at kT lT⊢;exact(zxb vd de (k20 _ kT lT) hs8).k.all
 have c61:=k61 O hcr.v hKL kT lT hs hs8 vZ hsc;have hin:=qin hcr;have iT:inI (dv d) T:=by rw[eT];exact .inr ⟨qH,qH⟩
 have it:inI (dv d) t:=by
  have:=kt.dle;rcases hd with rfl|rfl
  .exact .inr ⟨qH,this⟩
  .exact .inr ⟨this,qH⟩
 have hain:inM (k+1) (k+1) (fun i j=>dv (atM (enM B a) i j).lo) a:=⟨va,fun i j hi hj=>by
  obtain⟨e,he,e2⟩:=hcr.c i j O O;rw[e2];obtain⟨r,hr1,hr2⟩:=at_el va hi hj;have kz:=hel r hr1 _ hr2;have:=kz.dle;rcases he with rfl|rfl
  .exact .inr ⟨qH,this⟩
  .exact .inr ⟨this,qH⟩⟩
 have hU:=nQ_sz hcr.v hKL;have htau:qk (dv d)<=vN (zak T) (-80):=by
  have e2:vN (zak T) (-80)=dv (zbn T):=by conv=>rhs;rw[(zaz kT lT).1,uf,Z5 OC]
  obtain⟨_,g1,g2,_⟩:=zaj kT;rw[e2];rw[eT]at g1 g2⊢;exact zai.2 ⟨g1,g2⟩
 have hu:vN (szM (enM B a) (enM B a).length) (-80)*(qk (dv d)*pw (-(s:Int)))*2<=1:=by
  have h1:=qcu hs;rw[show(-160:Int)= -80+ -80 by decide,<-zix]at h1;have h2:=qE htau (zdc (szM (enM B a) (enM B a).length) (-80));have h3:=qD h2 (yz (-(s:Int)));grind
 have bl':(enL B4 b).length =k+1:=by rw[zqh,lb]
 have xl':(enL B6 x).length =k+1:=by rw[zqh,xl]
 obtain⟨cb1,cb2⟩:=qbg lb bl' bk fun i y hy=>zu8 hy
 obtain⟨cx1,cx2⟩:=qbg xl xl' xk fun i y hy=>zu8 hy
 obtain⟨rv1,rv2⟩:=qai (K:=70) OA qgw hin (.inl kT) iT s hU hu;have c15:=k15 rv1.v rv2.v c61 (fun y hy=>by obtain⟨i,hi⟩:=qF hy;exact(cb2.i i y hi).1) (fun y hy=>by obtain⟨i,hi⟩:=qF hy;exact(cx2.i i y hi).1) bl' xl';have rl:(znp 260 (apM (rfB 70 (enM B a) T s).exp (enL B6 x) 260) (apM (rfB 70 (enM B a) T s).phi (enL B4 b) 260)).length =k+1:=by
  unfold znp apM;rw[qQ,qK,qK,rv1.v.len,rv2.v.len];omega
 refine⟨_,_,T,hT,fun r hr=>by rw[va.row r hr];omega,by rw[va.len];omega,O,O,hlin,by rw[ol,va.len],c15,⟨by rw[ol,rl],O,fun i y z hy hz=>?_⟩⟩;exact qdg (K:=70) OA qgw O hain hin kt (.inl kT) it iT hp hw hU hu cx1 cb1 cx2 cb2 hy hz
theorem ixV{P:Iv->Prop}{a:Iv}{l:List Iv}(h:P a):((0:Int)<=0/\(0:Int)<((a::l).length :Int))/\∀x,(a::l)[(0:Int).toNat]? =some x->P x:=
 ⟨⟨O,by simp only[List.length_cons];omega⟩,fun x hx=>(show a=x by simpa using hx)▸h⟩
theorem lin3(a:Mx)(ha:RX a)(b:List Iv)(hb:∀y∈b,RI y)(hbl:b.length<9223372036854775808)(x:List Iv)(hx:∀y∈x,RI y)(hxl:x.length<9223372036854775808)(t:Iv)(ht:RI t)(B:Int){P:Int}(hP:0<=P/\P<=255):
 Fn 3 G0 [.sl .vs a,.sl .iv b,.sl .iv x,.agg (ivC t),.int .u16 B,.int .u8 P] (.bool true) G0:=by
 have c10:=n18 a ha t ht [b,x] (fun l hl=>by
  simp only[List.mem_cons,List.not_mem_nil,or_false]at hl;rcases hl with rfl|rfl
  .exact⟨hb,hbl⟩
  .exact⟨hx,hxl⟩) (by show 2<_;decide)
 have c12:=n19 P hP;have hp:pcB (24+P % 41)=true:=by unfold pcB;simp;omega
 generalize 24+P % 41=p at*;cases e1:znw a t [b,x]with
 |false=>
  rw[e1]at c10;refine fnT hTL hmx Tryz.func3 rfl rfl (ex:= []) ?_;conv=>whnf
  refine gZc n8 ?_;conv=>whnf
  refine gYn c10 ?_
  refine gZc n8 ?_;conv=>whnf
  exact⟨lr rfl,za1⟩
 |true=>
  rw[e1]at c10;obtain⟨out,res,T,hT,ha8,hal,hb8,hx8,hlin,hol,c15,hM⟩:=zyf ha ht hb hx hp e1 B (B.fdiv (2^min (qM 4) IntKind.u16.bits)) (B.fdiv (2^min (qM 6) IntKind.u16.bits)) (B.fdiv (2^min (qM 9) IntKind.u16.bits));have c11:=n16 a ha b x hb hx O O t ht p;rw[hlin]at c11;have c11:Fn 11 G0 [.sl .vs a,.sl .iv b,.sl .iv x,.agg (ivC t),.int .i64 p] (.tup [.sl .iv out,.int .i64 0]) G0:=c11;have c16:=k16 a hal ha8 B;have c13a:=k13 [t] OC (B.fdiv (2^min (qM 9) IntKind.u16.bits));rw[hT]at c13a;have c13b:=k13 b hb8 (B.fdiv (2^min (qM 4) IntKind.u16.bits));have c13x:=k13 x hx8 (B.fdiv (2^min (qM 6) IntKind.u16.bits));have c14:=n21 hM;generalize enM B a=m at*;generalize enL (B.fdiv (2^min (qM 4) IntKind.u16.bits)) b=b' at*;generalize enL (B.fdiv (2^min (qM 6) IntKind.u16.bits)) x=x' at*;clear hM hlin hT e1;refine fnT hTL hmx Tryz.func3 rfl rfl (ex:= []) ?_;conv=>whnf
  refine gZc n8 ?_;conv=>whnf
  refine gYn c10 ?_
  refine gYn c12 ?_
  refine gZc c11 ?_
  (refine⟨Z,Z,?_⟩;(conv=>whnf))
  refine brI (fun c=>?_) (fun c=>?_)
  .have c:((out.length:Int) != (a.length:Int))=true:=c;exact(zv0 c O).elim
  conv=>whnf
  refine⟨OA,?_⟩;conv=>whnf
  refine gYn c13a ?_
  refine ixV ?_;conv=>whnf
  refine gYn c16 ?_
  refine⟨OA,?_⟩;conv=>whnf
  refine gYn c13b ?_
  refine⟨OA,?_⟩;conv=>whnf
  refine gYn c13x ?_
  refine gZc c15 ?_;conv=>whnf
  refine gZn c14 ?_
  (refine⟨Z,Z,?_⟩;(conv=>whnf))
  exact⟨lr rfl,za1⟩
