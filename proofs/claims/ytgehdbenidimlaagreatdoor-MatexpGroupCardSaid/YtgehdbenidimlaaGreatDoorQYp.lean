/-
  Natural numbers: plain laws of long division, told by whole numbers.
-/
import Derived.Test.YtgehdbenidimlaaGreatDoorQYk
import Derived.Test.YtgehdbenidimlaaGreatDoorQZz
set_option linter.unusedVariables false
set_option linter.unusedSimpArgs false
namespace Go.Proofs.YtgehdbenidimlaaGreatDoor
open Go Go.Sx
theorem qe6 {W D T V2 P V0 x B:Nat} (hW1:T*P<=W) (hW2:W<(T+1)*P) (hD:D=V2*P+V0) (hV0:V0<P) (hx:x<B) (hxT:x*V2<=T)
 (hmax: ∀q,q<B->q*V2<=T->q<=x) (hWD:W<D*B) (hBP:B*P<=D):W<(x+1)*D/\x*D<=W+D:=by
 have hB:0<B:=by omega
 have hD0:0<D:=by
  have:0<P:=by omega
  have:=Nat.mul_pos hB this;omega
 constructor
 ·have hq:W/D<B:=by rw[Nat.div_lt_iff_lt_mul hD0,Nat.mul_comm];exact hWD
  have h1:W/D*D<=W:=Nat.div_mul_le_self W D;have h2:W/D*V2*P<=W/D*D:=by rw[Nat.mul_assoc];exact Nat.mul_le_mul_left _ (by omega)
  have h3:W/D*V2<T+1:=Nat.lt_of_mul_lt_mul_right (Nat.lt_of_le_of_lt (Nat.le_trans h2 h1) hW2);have h4:=hmax _ hq (by omega);have h5:W<(W/D+1)*D:=by
   have:=Nat.lt_div_mul_add (a:=W) hD0;rw[Nat.succ_mul];omega
  exact Nat.lt_of_lt_of_le h5 (Nat.mul_le_mul_right _ (by omega))
 ·have h1:x*D=x*V2*P+x*V0:=by rw[hD,Nat.mul_add,Nat.mul_assoc]
  have h2:x*V2*P<=T*P:=Nat.mul_le_mul_right _ hxT;have h3:x*V0<=B*P:=Nat.mul_le_mul (by omega) (by omega);omega
def Zr (k:Nat) (l:List Int):Prop:= ∀i,k<=i->l[i]?.getD 0=0
theorem zcy (l:List Int) (k:Nat) (hk:k<=l.length):val l=val (l.take k)+4294967296^k*val (l.drop k):=by
 conv=>lhs;rw[←List.take_append_drop k l]
 rw[ziw,List.length_take,Nat.min_eq_left hk]
theorem zuv {k:Nat} {l:List Int} (h:LB l) (hz:Zr k l):val l<4294967296^k:=by
 by_cases hk:k<=l.length
 ·have hd: ∀m:List Int,(∀i:Nat,m[i]?.getD 0=0)->val m=0:=by
   intro m
   induction m with
   |nil=>intro _;rfl
   |cons x m ih=>
    intro h;have h0:=h 0;simp only[List.getElem?_cons_zero,Option.getD_some]at h0;rw[qr,ih fun i=>by have:=h (i+1);simpa using this,h0];rfl
  have h1:=hd (l.drop k) fun i=>by rw[List.getElem?_drop];exact hz _ (by omega)
  rw[zcy l k hk,h1];exact uu h k hk
 ·have:=uu h l.length (Nat.le_refl _);rw[List.take_length]at this;exact Nat.lt_of_lt_of_le this (Nat.pow_le_pow_right (by decide) (by omega))
theorem zxs {k:Nat} {l:List Int} (h:LB l) (hv:val l<4294967296^k):Zr k l:=by
 intro i hi;by_cases hl:i<l.length
 ·have h1:=zcy l i (by omega);rw[List.drop_eq_getElem_cons hl,qr]at h1;have h2:=h l[i] (List.getElem_mem hl);have h3:4294967296^k<=4294967296^i:=Nat.pow_le_pow_right (by decide) hi;rw[List.getElem?_eq_getElem hl,Option.getD_some];by_cases h4:l[i].toNat +4294967296*val (l.drop (i+1))=0
  ·omega
  ·have:4294967296^i*1<=4294967296^i*(l[i].toNat +4294967296*val (l.drop (i+1))):=Nat.mul_le_mul_left _ (by omega);omega
 ·rw[List.getElem?_eq_none (by omega)];rfl
theorem alg3 (r P B a b c:Nat):r+P*a+P*B*b+P*B*B*c=r+P*((c*B+b)*B+a):=by grind
theorem top3 {l:List Int} {k:Nat} (h:LB l) (hk:k+3<=l.length) (hz:Zr (k+3) l):
 ∃r,r<4294967296^k/\val l=r+4294967296^k*(((l[k+2]?.getD 0).toNat *4294967296+(l[k+1]?.getD 0).toNat)*4294967296+(l[k]?.getD 0).toNat):=by
 refine⟨val (l.take k),uu h k (by omega),?_⟩;have h3:=wm l (n:=k+2) (by omega);have h2:=wm l (n:=k+1) (by omega);have h1:=wm l (n:=k) (by omega);have e:val l=val (l.take (k+3)):=by
  have h0:=zcy l (k+3) hk;have hv:=zuv h hz;generalize 4294967296^(k+3)=Q at h0 hv;generalize val (l.drop (k+3))=d at h0
  cases d with
  |zero=>rw[Nat.mul_zero,Nat.add_zero]at h0;exact h0
  |succ d=>
   rw[Nat.mul_succ]at h0;omega
 rw[e,show k+3=k+2+1 from rfl,h3,show k+2=k+1+1 from rfl,h2,h1,Nat.pow_succ 4294967296 (k+1),Nat.pow_succ 4294967296 k];exact alg3 _ _ _ _ _ _
theorem top2 {l:List Int} {k:Nat} (h:LB l) (hk:k+2=l.length):
 ∃r,r<4294967296^k/\val l=r+4294967296^k*((l[k+1]?.getD 0).toNat *4294967296+(l[k]?.getD 0).toNat):=by
 refine⟨val (l.take k),uu h k (by omega),?_⟩;have h2:=wm l (n:=k+1) (by omega);have h1:=wm l (n:=k) (by omega);rw[hk,List.take_length]at h2;rw[h2,h1,Nat.pow_succ];generalize 4294967296^k=P;rw[Nat.mul_add];have e1:P*4294967296*(l[k+1]?.getD 0).toNat =P*((l[k+1]?.getD 0).toNat *4294967296):=by rw[Nat.mul_assoc,Nat.mul_comm 4294967296]
 rw[e1];omega
set_option maxRecDepth 100000
set_option maxHeartbeats 8000000
def dgF (third v w:Nat):Nat->Nat->Nat->Nat
 |0,q,_=>q
 |f+1,q,rest=>if rest<4294967296/\rest*4294967296+third<q*w then dgF third v w f (q-1) (rest+v)else q
def dgN (third v w q rest:Nat):Nat:=dgF third v w q q rest
theorem zt6 (third v w q rest:Nat):dgN third v w q rest=if rest<4294967296/\rest*4294967296+third<q*w then dgN third v w (q-1) (rest+v)else q:=by
 unfold dgN
 cases q with
 |zero=>rw[if_neg (by omega)];rfl
 |succ q=>rfl
theorem zwu {b c:Int} (hb:0<=b/\b<4294967296) (hc:0<=c/\c<4294967296):
 IntKind.u64.wrap (BitVec.ofInt 64 (IntKind.u64.wrap (b*4294967296))|||BitVec.ofInt 64 (IntKind.u64.wrap c)).toNat =b*4294967296+c:=by
 obtain⟨x,rfl⟩:=Int.eq_ofNat_of_zero_le hb.1;obtain⟨y,rfl⟩:=Int.eq_ofNat_of_zero_le hc.1;have e2:((x:Nat):Int)*4294967296=((x*2^32:Nat):Int):=by simp
 rw[wU (x:=(y:Int)) (by omega),e2,wU (x:=((x*2^32:Nat):Int)) (by omega),zsk x 32 y (by omega) (by omega) (by omega),wU (by omega)];omega
theorem zoo {a b:Int} (ha:0<=a/\a<4294967296) (hb:0<=b/\b<4294967296):0<=a*b/\a*b<=4294967295*4294967295:=
 ⟨Int.mul_nonneg ha.1 hb.1,Int.mul_le_mul (by omega) (by omega) hb.1 (by omega)⟩
theorem y279 (q rest third v w:Nat) (hq:q<4294967296) (hr:rest<8589934592) (ht:third<4294967296) (hv:v<4294967296) (hw:w<4294967296):
 Fn 227 [] [.int .u64 q,.int .u64 rest,.int .u32 third,.int .u32 v,.int .u32 w] (.int .u64 (dgN third v w q rest)) []:=by
 refine fnT hT4 hmx Tryz.func227 rfl rfl (ex:= []) ?_;conv=>whnf
 refine⟨Int×Int,fun x=>(0<=x.1/\x.1<4294967296/\0<=x.2/\x.2<8589934592)/\dgN third v w x.1.toNat x.2.toNat=dgN third v w q rest,fun x=> [(0,.int .u64 x.1),(1,.int .u64 x.2)],fun _=> [],fun x=>x.1.toNat,((q:Int),(rest:Int)),?_,?_,fun x hx=>?_⟩
 ·exact⟨⟨by simp only;omega,by simp only;omega,by simp only;omega,by simp only;omega⟩,rfl⟩
 ·((conv=>whnf);refine And.intro ?_ ?_;repeat' first|refine lc ?_ ?_|exact la0|exact lr rfl|exact ln0|refine lh1 ?_ ?_|exact lh0|exact bf0|exact bd0|refine bc0 ?_|exact bm0 rfl|exact bb0 rfl|exact bg0 rfl|exact li0 rfl|refine lg0 ?_|refine lt0 ?_|fail)
 (refine⟨by kernel_rfl,?_⟩;(conv=>whnf))
 obtain⟨a,b⟩:=x;obtain⟨⟨h0,h1,h2,h3⟩,h⟩:=hx;simp only at h0 h1 h2 h3 h;have hif:=zt6 third v w a.toNat b.toNat;have hcast:((a.toNat*w:Nat):Int)=a*(w:Int):=by rw[Int.natCast_mul,show((a.toNat:Nat):Int)=a by omega]
 refine brI (fun h4=>?_) (fun h4=>?_)
 ·have h4:b<4294967296:=of_decide_eq_true h4;have hm:=zoo (a:=a) (b:=(w:Int)) (by omega) (by omega);conv=>whnf
  refine⟨by decide,?_⟩;conv=>whnf
  refine brI (fun h5=>?_) (fun h5=>?_)
  ·have h5:=of_decide_eq_true h5;have h5:IntKind.u64.wrap (BitVec.ofInt 64 (IntKind.u64.wrap (b*4294967296))|||BitVec.ofInt 64 (IntKind.u64.wrap (third:Int))).toNat <IntKind.u64.wrap (a*IntKind.u64.wrap (w:Int)):=h5;rw[zwu (by omega) (by omega),wU (x:=(w:Int)) (by omega),wU (by omega),←hcast]at h5;have ha:a≠0:=fun e=>by subst e;rw[Int.zero_mul]at hcast;omega
   rw[if_pos (by constructor<;>omega)]at hif;conv=>whnf
   refine⟨(a-1,b+(v:Int)),⟨⟨by simp only;omega,by simp only;omega,by simp only;omega,by simp only;omega⟩,?_⟩,by show(a-1).toNat <a.toNat;omega,?_⟩
   ·show dgN third v w (a-1).toNat (b+(v:Int)).toNat =_;rw[←h,hif,show(a-1).toNat =a.toNat-1 by omega,show(b+(v:Int)).toNat =b.toNat+v by omega]
   ((conv=>whnf);refine And.intro ?_ ?_;repeat' first|refine lc ?_ ?_|exact la0|exact lr rfl|exact ln0|refine lh1 ?_ ?_|exact lh0|exact bf0|exact bd0|refine bc0 ?_|exact bm0 rfl|exact bb0 rfl|exact bg0 rfl|exact li0 rfl|refine lg0 ?_|refine lt0 ?_|fail)
   ·exact ai0 (by rw[wU (by simp only;omega)])
   ·exact ai0 (by rw[wU (x:=(v:Int)) (by omega),wU (by simp only;omega)])
  ·have h5:=of_decide_eq_false h5;have h5: ¬IntKind.u64.wrap (BitVec.ofInt 64 (IntKind.u64.wrap (b*4294967296))|||BitVec.ofInt 64 (IntKind.u64.wrap (third:Int))).toNat <IntKind.u64.wrap (a*IntKind.u64.wrap (w:Int)):=h5;rw[zwu (by omega) (by omega),wU (x:=(w:Int)) (by omega),wU (by omega),←hcast]at h5;rw[if_neg (by omega)]at hif;conv=>whnf
   exact⟨ai0 (by simp only;omega),lh0⟩
 ·have h4: ¬b<4294967296:=of_decide_eq_false h4;rw[if_neg (by omega)]at hif;conv=>whnf
  exact⟨ai0 (by simp only;omega),lh0⟩
theorem qbl {a v w B r t q:Nat} (h:a*w<=r*B+t) (hN:a*v+r=q):a*(v*B+w)<=q*B+t:=by
 subst hN;have e1:a*(v*B+w)=a*v*B+a*w:=by rw[Nat.mul_add,Nat.mul_assoc]
 have e2:(a*v+r)*B=a*v*B+r*B:=Nat.add_mul _ _ _;omega
theorem qbk {a v w B r t q:Nat} (h:r*B+t<a*w) (hN:a*v+r=q):q*B+t<a*(v*B+w):=by
 subst hN;have e1:a*(v*B+w)=a*v*B+a*w:=by rw[Nat.mul_add,Nat.mul_assoc]
 have e2:(a*v+r)*B=a*v*B+r*B:=Nat.add_mul _ _ _;omega
theorem zpc (third v w N:Nat) (hw:w<4294967296): ∀q rest,q<4294967296->q*v+rest=N->
 dgN third v w q rest<=q/\dgN third v w q rest*(v*4294967296+w)<=N*4294967296+third/\ ∀z,z<=q->z*(v*4294967296+w)<=N*4294967296+third->z<=dgN third v w q rest:=by
 intro q
 induction q with
 |zero=>
  intro rest _ hN;rw[zt6,if_neg (by omega)];refine⟨Nat.le_refl _,by rw[Nat.zero_mul];exact Nat.zero_le _,fun z hz _=>hz⟩
 |succ q ih=>
  intro rest hq hN;rw[zt6];split
  ·rename_i hc;rw[show q+1-1=q from rfl];obtain⟨h1,h2,h3⟩:=ih (rest+v) (by omega) (by rw[←hN,Nat.succ_mul];omega);refine⟨by omega,h2,fun z hz hzT=>?_⟩;have hne:z≠q+1:=fun e=>by
    subst e;have:=qbk hc.2 hN;omega
   exact h3 z (by omega) hzT
  ·rename_i hc;refine⟨Nat.le_refl _,qbl ?_ hN,fun z hz _=>hz⟩;by_cases hr:rest<4294967296
   ·exact Nat.not_lt.1 fun h=>hc ⟨hr,h⟩
   ·have:(q+1)*w<=4294967295*4294967295:=Nat.mul_le_mul (by omega) (by omega);omega
def gsN (top next third v w:Nat):Nat:=if v<=top then dgN third v w 4294967295 ((top-v)*4294967296+next+v)else dgN third v w ((top*4294967296+next)/v) ((top*4294967296+next) % v)
theorem zww (top next third v w:Nat) (hv:0<v) (hv2:v<4294967296) (ht:top<=v) (hn:next<4294967296) (h3:third<4294967296) (hw:w<4294967296):
 gsN top next third v w<4294967296/\gsN top next third v w*(v*4294967296+w)<=(top*4294967296+next)*4294967296+third/\ ∀z,z<4294967296->z*(v*4294967296+w)<=(top*4294967296+next)*4294967296+third->z<=gsN top next third v w:=by
 unfold gsN;split
 ·obtain⟨h1,h2,h3⟩:=zpc third v w (top*4294967296+next) hw 4294967295 ((top-v)*4294967296+next+v) (by omega) (by omega);exact⟨by omega,h2,fun z hz=>h3 z (by omega)⟩
 ·have hq:(top*4294967296+next)/v<4294967296:=by rw[Nat.div_lt_iff_lt_mul hv];omega
  obtain⟨h1,h2,h4⟩:=zpc third v w (top*4294967296+next) hw _ ((top*4294967296+next) % v) hq (by rw[Nat.mul_comm];exact Nat.div_add_mod _ _);refine⟨by omega,h2,fun z hz hzT=>h4 z ?_ hzT⟩;rw[Nat.le_div_iff_mul_le hv];have e:z*(v*4294967296+w)=z*v*4294967296+z*w:=by rw[Nat.mul_add,Nat.mul_assoc]
  omega
theorem qcv {Q R:Int} (q rest third v w:Nat) (hq:q<4294967296) (hr:rest<8589934592) (ht:third<4294967296) (hv:v<4294967296) (hw:w<4294967296) (hQ:Q=q) (hR:R=rest):
 Fn 227 [] [.int .u64 Q,.int .u64 R,.int .u32 third,.int .u32 v,.int .u32 w] (.int .u64 (dgN third v w q rest)) []:=by
 subst hQ hR;exact y279 q rest third v w hq hr ht hv hw
theorem wUn {n:Nat} (h:n<=18446744073709551615):IntKind.u64.wrap (n:Int)=n:=wU ⟨Int.natCast_nonneg n,by omega⟩
theorem zzj {n:Nat} (h:n<4294967296):IntKind.u32.wrap (n:Int)=n:=zqu ⟨Int.natCast_nonneg n,by omega⟩
theorem y259 (top next third v w:Nat) (hv:0<v) (hv2:v<4294967296) (ht:top<=v) (hn:next<4294967296) (h3:third<4294967296) (hw:w<4294967296):
 Fn 215 [] [.int .u32 top,.int .u32 next,.int .u32 third,.int .u32 v,.int .u32 w] (.int .u64 (gsN top next third v w)) []:=by
 refine fnT hT4 hmx Tryz.func215 rfl rfl (ex:= []) ?_;conv=>whnf
 refine brI (fun h4=>?_) (fun h4=>?_)
 ·have h4:(v:Int)<=top:=of_decide_eq_true h4;conv=>whnf
  refine⟨by decide,?_⟩;conv=>whnf
  have e:IntKind.u64.wrap (IntKind.u64.wrap (IntKind.u64.wrap (IntKind.u64.wrap (IntKind.u32.wrap ((top:Int)-v))*4294967296)+IntKind.u64.wrap (next:Int))+IntKind.u64.wrap (v:Int))=(((top-v)*4294967296+next+v:Nat):Int):=by
   rw[zqu (by omega),wU (x:=(top:Int)-v) (by omega),wU (x:=(next:Int)) (by omega),wU (x:=(v:Int)) (by omega),wU (x:=((top:Int)-v)*4294967296) (by omega),wU (x:=((top:Int)-v)*4294967296+next) (by omega),wU (by omega)];omega
  refine gZn (qcv 4294967295 ((top-v)*4294967296+next+v) third v w (by omega) (by omega) h3 hv2 hw rfl e) ?_;conv=>whnf
  exact⟨ai0 (by unfold gsN;rw[if_pos (by omega)]),lh0⟩
 ·have h4: ¬(v:Int)<=top:=of_decide_eq_false h4;have hd:(top*4294967296+next)/v<4294967296:=by rw[Nat.div_lt_iff_lt_mul hv];omega
  have hmd:=Nat.mod_lt (top*4294967296+next) hv;conv=>whnf
  refine⟨by decide,?_⟩;conv=>whnf
  have e:=zwu (b:=(top:Int)) (c:=(next:Int)) (by omega) (by omega);have e:IntKind.u64.wrap (BitVec.ofInt 64 (IntKind.u64.wrap (IntKind.u64.wrap (top:Int)*4294967296))|||BitVec.ofInt 64 (IntKind.u64.wrap (next:Int))).toNat =((top*4294967296+next:Nat):Int):=by
   rw[wU (x:=(top:Int)) (by omega),e];omega
  have ev:IntKind.u64.wrap (v:Int)=v:=wU (by omega);have e1:IntKind.u64.wrap ((IntKind.u64.wrap (BitVec.ofInt 64 (IntKind.u64.wrap (IntKind.u64.wrap (top:Int)*4294967296))|||BitVec.ofInt 64 (IntKind.u64.wrap (next:Int))).toNat).tdiv (IntKind.u64.wrap (v:Int)))=(((top*4294967296+next)/v:Nat):Int):=by
   rw[e,ev,←Int.ofNat_tdiv,wUn (by omega)]
  have e2:(IntKind.u64.wrap (BitVec.ofInt 64 (IntKind.u64.wrap (IntKind.u64.wrap (top:Int)*4294967296))|||BitVec.ofInt 64 (IntKind.u64.wrap (next:Int))).toNat).tmod (IntKind.u64.wrap (v:Int))=(((top*4294967296+next) % v:Nat):Int):=by
   rw[e,ev,←Int.ofNat_tmod]
  refine⟨by rw[ev];omega,?_⟩;conv=>whnf
  refine⟨by rw[ev];omega,?_⟩;conv=>whnf
  refine gZn (qcv ((top*4294967296+next)/v) ((top*4294967296+next) % v) third v w hd (by omega) h3 hv2 hw e1 e2) ?_;conv=>whnf
  (refine⟨by kernel_rfl,by kernel_rfl,?_⟩;(conv=>whnf))
  exact⟨ai0 (by unfold gsN;rw[if_neg (by omega)]),lh0⟩
theorem y278 (hi lo y:Nat) (hh:hi<y) (hl:lo<4294967296) (hy:y<4294967296):Fn 226 [] [.int .u32 hi,.int .u32 lo,.int .u32 y] (.tup [.int .u32 ((hi*4294967296+lo)/y:Nat),.int .u32 ((hi*4294967296+lo) % y:Nat)]) []:=by
 have ey:IntKind.u64.wrap (y:Int)=y:=wUn (by omega);have e:=zwu (b:=(hi:Int)) (c:=(lo:Int)) (by omega) (by omega);have e:IntKind.u64.wrap (BitVec.ofInt 64 (IntKind.u64.wrap (IntKind.u64.wrap (hi:Int)*4294967296))|||BitVec.ofInt 64 (IntKind.u64.wrap (lo:Int))).toNat =((hi*4294967296+lo:Nat):Int):=by
  rw[wUn (n:=hi) (by omega),e];omega
 have hd:(hi*4294967296+lo)/y<4294967296:=by rw[Nat.div_lt_iff_lt_mul (by omega)];omega
 have hm:=Nat.mod_lt (hi*4294967296+lo) (show 0<y by omega);have e1:IntKind.u32.wrap (IntKind.u64.wrap ((IntKind.u64.wrap (BitVec.ofInt 64 (IntKind.u64.wrap (IntKind.u64.wrap (hi:Int)*4294967296))|||BitVec.ofInt 64 (IntKind.u64.wrap (lo:Int))).toNat).tdiv (IntKind.u64.wrap (y:Int))))=(((hi*4294967296+lo)/y:Nat):Int):=by
  rw[e,ey,←Int.ofNat_tdiv,wUn (by omega),zzj hd]
 have e2:IntKind.u32.wrap ((IntKind.u64.wrap (BitVec.ofInt 64 (IntKind.u64.wrap (IntKind.u64.wrap (hi:Int)*4294967296))|||BitVec.ofInt 64 (IntKind.u64.wrap (lo:Int))).toNat).tmod (IntKind.u64.wrap (y:Int)))=(((hi*4294967296+lo) % y:Nat):Int):=by
  rw[e,ey,←Int.ofNat_tmod,zzj (by omega)]
 refine fnT hT4 hmx Tryz.func226 rfl rfl (ex:= []) ?_;conv=>whnf
 refine brI (fun h4=>?_) (fun h4=>?_)
 rotate_left
 ·have h4:((y:Int) != 0)=false:=h4;rw[bne_eq_false_iff_eq]at h4;omega
 conv=>whnf
 refine brI (fun h5=>?_) (fun h5=>?_)
 ·have h5:(y:Int)<=hi:=of_decide_eq_true h5;omega
 conv=>whnf
 refine⟨by decide,?_⟩;conv=>whnf
 refine⟨by rw[ey];omega,?_⟩;conv=>whnf
 refine⟨by rw[ey];omega,?_⟩;conv=>whnf
 (refine⟨by kernel_rfl,by kernel_rfl,?_⟩;(conv=>whnf))
 exact⟨lt0 (lc (ai0 e1) (lc (ai0 e2) ln0)),lh0⟩
theorem y278i {H L Y:Int} (hi lo y:Nat) (hh:hi<y) (hl:lo<4294967296) (hy:y<4294967296) (e1:H=hi) (e2:L=lo) (e3:Y=y):Fn 226 [] [.int .u32 H,.int .u32 L,.int .u32 Y] (.tup [.int .u32 ((hi*4294967296+lo)/y:Nat),.int .u32 ((hi*4294967296+lo) % y:Nat)]) []:=by
 subst e1 e2 e3;exact y278 hi lo y hh hl hy
theorem zrn {vo d B P q r rest a t:Nat} (h:rest*B+a=q*d+r):(vo+P*q)*d+P*r+t=vo*d+P*B*rest+(t+P*a):=by
 have e1:P*(rest*B+a)=P*(q*d+r):=by rw[h]
 grind
theorem y256 (l:List Int) (d:Nat) (hb:LB l) (hl:l.length<=100000) (hd:0<d) (hd2:d<4294967296):Fn 212 [] [.sl .u32 l,.int .u32 d] (.tup [.sl .u32 (zd8 l.length (val l/d)),.int .u32 (val l % d:Nat)]) []:=by
 refine fnT hT4 hmx Tryz.func212 rfl rfl (ex:= []) ?_;conv=>whnf
 refine⟨⟨by omega,by omega,by omega⟩,?_⟩;conv=>whnf
 have hw:IntKind.i64.wrap ((l.length:Int)-1)=(l.length:Int)-1:=wI (by omega);rw[hw];refine⟨Int×List Int×Nat,fun x=>(-1<=x.1/\x.1<l.length/\x.2.2<d)/\(LB x.2.1/\x.2.1.length=l.length)/\(∀j:Nat,(j:Int)<=x.1->x.2.1[j]?.getD 0=0)/\val x.2.1*d+4294967296^(x.1+1).toNat *x.2.2+val (l.take (x.1+1).toNat)=val l,fun x=> [(8,.int .i64 x.1),(7,.int .u32 x.2.2)],fun x=> [(11,.buf 104 .u32 x.2.1)],fun x=>(x.1+1).toNat,((l.length:Int)-1,List.replicate l.length 0,0),?_,?_,fun x hx=>?_⟩
 ·refine⟨⟨by simp only;omega,by simp only;omega,hd⟩,⟨fun x hx=>by rw[List.eq_of_mem_replicate hx];omega,by simp⟩,fun j _=>by simp only[List.getElem?_replicate];split<;>rfl,?_⟩;simp only;rw[zd5,show((l.length:Int)-1+1).toNat =l.length by omega,List.take_length];simp
 ·((conv=>whnf);refine And.intro ?_ ?_;repeat' first|refine lc ?_ ?_|exact la0|exact lr rfl|exact ln0|refine lh1 ?_ ?_|exact lh0|exact bf0|exact bd0|refine bc0 ?_|exact bm0 rfl|exact bb0 rfl|exact bg0 rfl|exact li0 rfl|refine lg0 ?_|refine lt0 ?_|fail)
 (refine⟨by kernel_rfl,?_⟩;(conv=>whnf))
 obtain⟨i,out,rest⟩:=x;obtain⟨⟨h1,h2,h3⟩,⟨h4,h5⟩,h6,h7⟩:=hx;simp only at h1 h2 h3 h4 h5 h6 h7;refine brI (fun h8=>?_) (fun h8=>?_)
 ·have h8:0<=i:=of_decide_eq_true h8;obtain⟨j,rfl⟩:=Int.eq_ofNat_of_zero_le h8;have hj:j<l.length:=by omega
  conv=>whnf
  refine⟨⟨by omega,by omega⟩,fun(x:Int) hx=>?_⟩;have hx:l[j]? =some x:=hx;have hxb:=hb x (List.mem_of_getElem? hx);have ta:=wm l hj;rw[hx,Option.getD_some]at ta;rw[show((j:Int)+1).toNat =j+1 by omega]at h7;have hm:=Nat.mod_lt (rest*4294967296+x.toNat) hd;have hq:(rest*4294967296+x.toNat)/d<4294967296:=by rw[Nat.div_lt_iff_lt_mul hd];omega
  have hqr:rest*4294967296+x.toNat=(rest*4294967296+x.toNat)/d*d+(rest*4294967296+x.toNat) % d:=(Nat.div_add_mod' _ _).symm;conv=>whnf
  refine gZn (y278i rest x.toNat d h3 (by omega) hd2 rfl (by omega) rfl) ?_;generalize (rest*4294967296+x.toNat)/d=q at hq hqr;generalize (rest*4294967296+x.toNat) % d=r at hm hqr;conv=>whnf
  refine⟨⟨by omega,by simp only;omega⟩,?_⟩;conv=>whnf
  refine⟨by simp only;omega,?_⟩;conv=>whnf
  have hs:=kz out j (q:Int) (by omega);rw[h6 j (by omega),Int.toNat_zero,Nat.mul_zero,Nat.add_zero,Int.toNat_natCast]at hs;refine⟨((j:Int)-1,out.set j (q:Int),r),⟨⟨by simp only;omega,by simp only;omega,hm⟩,⟨h4.set (by omega),by simp only[List.length_set];exact h5⟩,fun k hk=>by simp only at hk⊢;rw[List.getElem?_set_ne (by omega)];exact h6 k (by omega),?_⟩,by show((j:Int)-1+1).toNat <((j:Int)+1).toNat;omega,?_⟩
  ·show val (out.set j (q:Int))*d+4294967296^((j:Int)-1+1).toNat *r+val (l.take ((j:Int)-1+1).toNat)=val l;rw[show((j:Int)-1+1).toNat =j by omega,hs,←h7,ta,Nat.pow_succ];exact zrn hqr
  ((conv=>whnf);refine And.intro ?_ ?_;repeat' first|refine lc ?_ ?_|exact la0|exact lr rfl|exact ln0|refine lh1 ?_ ?_|exact lh0|exact bf0|exact bd0|refine bc0 ?_|exact bm0 rfl|exact bb0 rfl|exact bg0 rfl|exact li0 rfl|refine lg0 ?_|refine lt0 ?_|fail)
  ·exact ai0 (by rw[wI (by omega)])
 ·have h8: ¬0<=i:=of_decide_eq_false h8;rw[show(i+1).toNat =0 by omega,Nat.pow_zero,Nat.one_mul,List.take_zero]at h7;have h7:val out*d+rest=val l:=by rw[←h7];rfl
  have e1:val l/d=val out:=by
   rw[←h7,Nat.mul_comm,Nat.mul_add_div hd,Nat.div_eq_of_lt h3];rfl
  have e2:val l % d=rest:=by
   rw[←h7,Nat.mul_comm,Nat.mul_add_mod,Nat.mod_eq_of_lt h3]
  have hp:=zao h4;rw[h5]at hp;rw[e1,e2,hp];conv=>whnf
  exact⟨lr rfl,lh0⟩
theorem y257 (x:Nat) (hx:x<4294967296):Fn 213 [] [.int .u32 x] (.int .i64 (32-(bl x:Int))) []:=by
 have h113:=y113 x hx;rw[zdz (by omega)]at h113;have hb:bl x<=32:=uz.2 hx;refine fnT hT4 hmx Tryz.func213 rfl rfl (ex:= []) ?_;conv=>whnf
 refine gZn h113 ?_;conv=>whnf
 exact⟨ai0 (by rw[wI (by omega)]),lh0⟩
theorem qda {w' w P d r Bj x vt u c b m B bor q Bi y:Nat} (zay:w'+P*d=w+P*r) (hI:w+Bj*(x*vt)=u+P*(c+b)) (hr:r+m+b=d+B*bor) (hs:x*y+c=m+B*q) (hP:P=Bj*Bi):
 w'+Bj*(x*(vt+Bi*y))=u+P*B*(q+bor):=by
 have e1:P*(x*y+c)=P*(m+B*q):=by rw[hs]
 have e2:P*(r+m+b)=P*(d+B*bor):=by rw[hr]
 grind
theorem qc9 {w' w P d r Bj x vt u c b B bor:Nat} (zay:w'+P*d=w+P*r) (hI:w+Bj*(x*vt)=u+P*(c+b)) (hr:r+c+b=d+B*bor):
 w'+Bj*(x*vt)=u+P*B*bor:=by
 have e2:P*(r+c+b)=P*(d+B*bor):=by rw[hr]
 grind
theorem zxk (s:Nat) (hs:s<18446744073709551616):IntKind.u64.wrap (BitVec.ofInt 64 (s:Int)&&& BitVec.ofInt 64 4294967295).toNat =((s % 4294967296:Nat):Int):=by
 have e1:(BitVec.ofInt 64 (s:Int)).toNat =s:=by rw[BitVec.ofInt_natCast,BitVec.toNat_ofNat];exact Nat.mod_eq_of_lt hs
 have e2:(BitVec.ofInt 64 4294967295).toNat =2^32-1:=by decide
 rw[BitVec.toNat_and,e1,e2,Nat.and_two_pow_sub_one_eq_mod];exact wUn (by have:=Nat.mod_lt s (show 0<2^32 by decide);omega)
theorem zn4 (d m b:Nat) (hd:d<4294967296) (hm:m<4294967296) (hb:b<=1):
 ∃r bor:Nat,r<4294967296/\bor<=1/\r+m+b=d+4294967296*bor/\IntKind.u32.wrap (IntKind.u64.wrap (IntKind.u64.wrap ((d:Int)-(m:Int))-(b:Int)))=(r:Int)/\(IntKind.u64.wrap (IntKind.u64.wrap ((d:Int)-(m:Int))-(b:Int))).fdiv 9223372036854775808=(bor:Int):=by
 have e:IntKind.u64.wrap (IntKind.u64.wrap ((d:Int)-(m:Int))-(b:Int))=if d<m+b then(d:Int)-m-b+18446744073709551616 else(d:Int)-m-b:=by
  simp[IntKind.wrap,IntKind.signed,IntKind.bits];split<;>omega
 by_cases h:d<m+b
 ·refine⟨d+4294967296-m-b,1,by omega,by omega,by omega,?_,?_⟩
  ·rw[e,if_pos h];simp[IntKind.wrap,IntKind.signed,IntKind.bits];omega
  ·rw[e,if_pos h,Int.fdiv_eq_ediv_of_nonneg _ (by decide)];omega
 ·refine⟨d-m-b,0,by omega,by omega,by omega,?_,?_⟩
  ·rw[e,if_neg h];simp[IntKind.wrap,IntKind.signed,IntKind.bits];omega
  ·rw[e,if_neg h,Int.fdiv_eq_ediv_of_nonneg _ (by decide)];omega
def T4w:Tab:= {T4 with nb:=(214,1)::T4.nb,of:=216::T4.of,wn:= [116]}
theorem qe0:TabOK Tryz.prog T4w:=zf5 (by kernel_rfl) (by kernel_rfl)
abbrev bU (u:List Int):Hp:= [(1000001,.buf 104 .u32 u)]
noncomputable def qbt:Code:=Tryz.f216.body.getD .skip
def tkN (u:List Int) (j x:Nat) (v:List Int):List Int:=
 zd8 u.length (if val u<4294967296^j*(x*val v)then val u+4294967296^(j+v.length+1)-4294967296^j*(x*val v)else val u-4294967296^j*(x*val v))
theorem y260 (u v:List Int) (j x:Nat) (hu:LB u) (hv:LB v) (hj:j+v.length<u.length) (hul:u.length<=200000) (hx:x<4294967296) (hz:Zr (j+v.length+1) u):
 Fn 216 (bU u) [.ow 1000001 1 j (v.length+1),.sl .u32 v,.int .u64 x] (.bool (decide (val u<4294967296^j*(x*val v)))) (bU (tkN u j x v)):=by
 refine zqc rfl (ztt (code:=qbt) qe0 Tryz.func216 rfl rfl [1000001] ?_);conv=>whnf
 refine zvk qe0 hmx [] ?_;conv=>whnf
 refine⟨Nat×List Int×Nat×Nat,fun s=>(s.1<=v.length/\s.2.2.1<4294967296/\s.2.2.2<=1)/\(LB s.2.1/\s.2.1.length=u.length)/\(∀k,k<j\/j+s.1<=k->s.2.1[k]? =u[k]?)/\val s.2.1+4294967296^j*(x*val (v.take s.1))=val u+4294967296^(j+s.1)*(s.2.2.1+s.2.2.2),fun s=> [(16,.int .i64 s.1),(7,.int .u64 s.2.2.1),(8,.int .u64 s.2.2.2)],fun s=>bU s.2.1,fun s=>v.length-s.1,(0,u,0,0),?_,?_,fun s hs=>?_⟩
 ·exact⟨⟨by simp,by simp,by simp⟩,⟨hu,rfl⟩,fun _ _=>rfl,by simp[val]⟩
 ·((conv=>whnf);refine And.intro ?_ ?_;repeat' first|refine lc ?_ ?_|exact la0|exact lr rfl|exact ln0|refine lh1 ?_ ?_|exact lh0|exact bf0|exact bd0|refine bc0 ?_|exact bm0 rfl|exact bb0 rfl|exact bg0 rfl|exact li0 rfl|refine lg0 ?_|refine lt0 ?_|fail)
 (refine⟨by kernel_rfl,?_⟩;(conv=>whnf))
 obtain⟨i,w,c,b⟩:=s;obtain⟨⟨h1,h2,h3⟩,⟨h4,h5⟩,h6,h7⟩:=hs;simp only at h1 h2 h3 h4 h5 h6 h7;refine brI (fun h8=>?_) (fun h8=>?_)
 ·have hi:i<v.length:=by simp only[decide_eq_true_eq]at h8;omega
  conv=>whnf
  refine⟨⟨by omega,by simp only;omega⟩,fun(y:Int) hy=>?_⟩;have hy:v[i]? =some y:=by simpa using hy
  have hyb:=hv y (List.mem_of_getElem? hy);have tv:=wm v hi;rw[hy,Option.getD_some]at tv;conv=>whnf
  refine⟨by decide,?_⟩;conv=>whnf
  refine⟨⟨by omega,by simp only;omega⟩,?_⟩;conv=>whnf
  refine⟨by simp only;omega,fun(d:Int) hd=>?_⟩;have hd:w[j+i]? =some d:=by simpa using hd
  have hdb:=h4 d (List.mem_of_getElem? hd);have hxy:=zoo (a:=(x:Int)) (b:=y) (by omega) (by omega);have es:IntKind.u64.wrap (IntKind.u64.wrap ((x:Int)*IntKind.u64.wrap y)+(c:Int))=((x*y.toNat+c:Nat):Int):=by
   have e0:((x*y.toNat:Nat):Int)=(x:Int)*y:=by rw[Int.natCast_mul,show((y.toNat:Nat):Int)=y by omega]
   rw[wU (x:=y) (by omega),wU (x:=(x:Int)*y) (by omega),wU (by omega),Int.natCast_add,e0]
  have hsb:x*y.toNat+c<18446744073709551616:=by
   have:x*y.toNat<=4294967295*4294967295:=Nat.mul_le_mul (by omega) (by omega);omega
  have hmd:=Nat.mod_add_div (x*y.toNat+c) 4294967296;have hmlt:=Nat.mod_lt (x*y.toNat+c) (show 0<4294967296 by decide);obtain⟨r,bor,hr1,hb1,hrb,er,eb⟩:=zn4 d.toNat ((x*y.toNat+c) % 4294967296) b (by omega) hmlt h3;have em:=zxk (x*y.toNat+c) hsb;have edd:IntKind.u64.wrap d=((d.toNat:Nat):Int):=by rw[wU (by omega)];omega
  have er:IntKind.u32.wrap (IntKind.u64.wrap (IntKind.u64.wrap (IntKind.u64.wrap d-IntKind.u64.wrap (BitVec.ofInt 64 (IntKind.u64.wrap (IntKind.u64.wrap ((x:Int)*IntKind.u64.wrap y)+(c:Int)))&&& BitVec.ofInt 64 4294967295).toNat)-(b:Int)))=(r:Int):=by rw[es,em,edd,er]
  have eb:(IntKind.u64.wrap (IntKind.u64.wrap (IntKind.u64.wrap d-IntKind.u64.wrap (BitVec.ofInt 64 (IntKind.u64.wrap (IntKind.u64.wrap ((x:Int)*IntKind.u64.wrap y)+(c:Int)))&&& BitVec.ofInt 64 4294967295).toNat)-(b:Int))).fdiv 9223372036854775808=(bor:Int):=by rw[es,em,edd,eb]
  have ec:(IntKind.u64.wrap (IntKind.u64.wrap ((x:Int)*IntKind.u64.wrap y)+(c:Int))).fdiv 4294967296=(((x*y.toNat+c)/4294967296:Nat):Int):=by
   rw[es,Int.fdiv_eq_ediv_of_nonneg _ (by decide)];rfl
  have hs:=kz w (j+i) (r:Int) (by omega);rw[hd,Option.getD_some,Int.toNat_natCast]at hs;have hq:(x*y.toNat+c)/4294967296<4294967296:=by omega
  have key:=qda (y:=y.toNat) (Bi:=4294967296^i) hs h7 hrb hmd.symm (Nat.pow_add _ _ _);generalize (x*y.toNat+c)/4294967296=q at ec hq key;conv=>whnf
  refine⟨by decide,?_⟩;conv=>whnf
  refine⟨⟨by omega,by simp only;omega⟩,?_⟩;conv=>whnf
  refine⟨by simp only;omega,?_⟩;conv=>whnf
  refine⟨(i+1,w.set (j+i) (r:Int),q,bor),⟨⟨by simp only;omega,by simp only;omega,hb1⟩,⟨h4.set (by omega),by simp only[List.length_set];exact h5⟩,fun k hk=>by simp only at hk⊢;rw[List.getElem?_set_ne (by omega)];exact h6 k (by omega),?_⟩,by show v.length-(i+1)<v.length-i;omega,?_⟩
  ·show val (w.set (j+i) (r:Int))+4294967296^j*(x*val (v.take (i+1)))=val u+4294967296^(j+(i+1))*(q+bor);rw[tv,←Nat.add_assoc j i 1,Nat.pow_succ];exact key
  ((conv=>whnf);refine And.intro ?_ ?_;repeat' first|refine lc ?_ ?_|exact la0|exact lr rfl|exact ln0|refine lh1 ?_ ?_|exact lh0|exact bf0|exact bd0|refine bc0 ?_|exact bm0 rfl|exact bb0 rfl|exact bg0 rfl|exact li0 rfl|refine lg0 ?_|refine lt0 ?_|fail)
  ·exact ai0 ec
  ·exact ai0 eb
  ·exact ai0 (by rw[wI (by simp only;omega)];simp only;omega)
  ·exact bb0 (congrArg (fun z=>w.set (j+i) z) er)
 ·have hi:i=v.length:=by simp only[decide_eq_false_iff_not]at h8;omega
  subst hi;rw[List.take_length]at h7;conv=>whnf
  refine⟨⟨by omega,by omega⟩,?_⟩;conv=>whnf
  refine⟨by simp only;omega,fun(d:Int) hd=>?_⟩;have hd:w[j+v.length]? =some d:=by simpa using hd
  have hdb:=h4 d (List.mem_of_getElem? hd);obtain⟨r,bor,hr1,hb1,hrb,er,eb⟩:=zn4 d.toNat c b (by omega) h2 h3;have edd:IntKind.u64.wrap d=((d.toNat:Nat):Int):=by rw[wU (by omega)];omega
  have er:IntKind.u32.wrap (IntKind.u64.wrap (IntKind.u64.wrap (IntKind.u64.wrap d-(c:Int))-(b:Int)))=(r:Int):=by rw[edd,er]
  have eb:(IntKind.u64.wrap (IntKind.u64.wrap (IntKind.u64.wrap d-(c:Int))-(b:Int))).fdiv 9223372036854775808=(bor:Int):=by rw[edd,eb]
  have hs:=kz w (j+v.length) (r:Int) (by omega);rw[hd,Option.getD_some,Int.toNat_natCast]at hs;have key:=qc9 hs h7 hrb;have hzw:Zr (j+v.length+1) (w.set (j+v.length) (r:Int)):=fun k hk=>by
   rw[List.getElem?_set_ne (by omega),h6 k (by omega)];exact hz k hk
  have hLB:LB (w.set (j+v.length) (r:Int)):=h4.set (by omega);have hlt:=zuv hLB hzw;have hp:=zao hLB;rw[List.length_set,h5]at hp;rw[←Nat.pow_succ]at key;have hres:decide (val u<4294967296^j*(x*val v))=((bor:Int)==1)/\tkN u j x v=w.set (j+v.length) (r:Int):=by
   unfold tkN;rw[←hp];generalize val (w.set (j+v.length) (r:Int))=W at key hlt;generalize 4294967296^(j+v.length+1)=Q at key hlt;generalize 4294967296^j*(x*val v)=D at key;rcases(by omega:bor=0\/bor=1)with e|e
   ·subst e;rw[Nat.mul_zero,Nat.add_zero]at key;rw[if_neg (by omega),decide_eq_false (by omega)];exact⟨rfl,congrArg (zd8 u.length) (by omega)⟩
   ·subst e;rw[Nat.mul_one]at key;rw[if_pos (by omega),decide_eq_true (by omega)];exact⟨rfl,congrArg (zd8 u.length) (by omega)⟩
  rw[hres.1,hres.2];conv=>whnf
  refine⟨⟨by omega,by omega⟩,?_⟩;conv=>whnf
  refine⟨by simp only;omega,?_⟩;conv=>whnf
  refine⟨by decide,?_⟩;conv=>whnf
  refine⟨ab0 ?_,lh1 (bb0 ?_) lh0⟩
  ·exact congrArg (fun z:Int=>z==1) eb
  ·exact congrArg (fun z=>w.set (j+v.length) z) er
theorem qcw (a:List Int) (n:Nat) (hb:LB a) (ha:a.length<=100000) (hn:n<=100000):Fn 214 [] [.sl .u32 a,.int .i64 n] (.own 2000000) [(2000000,.buf 104 .u32 (zi3 a n))]:=by
 have htl:=jp a;have h216:=zit a (by omega);have hb2:=hb.tr;unfold zi3;generalize trL a=t at htl h216 hb2;refine wd (code:=zuj) hT4 hmx Tryz.func214 rfl rfl (ex:= [46]) ?_;conv=>whnf
 refine ko hT4 hmx 4 (fun _:Unit=>⟨[.sl .u32 t,.int .i64 n,.any,.any,.any,.own 20,.int .u64 0]++um 40,[(20,.buf 104 .u32 (List.replicate (n/32) 0)),(38,.dead),(100038,.free),(1500038,.free),(46,.free),(100046,.free),(1500046,.free)]⟩) (fun _=>by kernel_rfl) ?_ (fun _=>?_)
 ·have hq:IntKind.i64.wrap ((n:Int).tdiv 32)=((n/32:Nat):Int):=by
   rw[show(n:Int).tdiv 32=((n/32:Nat):Int)from Int.ofNat_tdiv n 32,wI (by omega)]
  conv=>whnf
  refine gZn h216 ?_;conv=>whnf
  refine⟨by omega,?_⟩;conv=>whnf
  refine⟨by omega,?_⟩;conv=>whnf
  rw[hq,wI (x:=((n/32:Nat):Int)+(t.length:Int)) (by omega),wI (by omega)];refine⟨⟨by omega,by omega,by omega⟩,?_⟩;conv=>whnf
  refine⟨(),?_⟩
  ((conv=>whnf);refine And.intro ?_ ?_;repeat' first|refine lc ?_ ?_|exact la0|exact lr rfl|exact ln0|refine lh1 ?_ ?_|exact lh0|exact bf0|exact bd0|refine bc0 ?_|exact bm0 rfl|exact bb0 rfl|exact bg0 rfl|exact li0 rfl|refine lg0 ?_|refine lt0 ?_|fail)
 ·refine zi6 38 20 (by kernel_rfl) ?_;conv=>whnf
  refine je hT4 hmx ?_;conv=>whnf
  refine⟨Nat×List Int×Int,fun x=>x.1<=t.length/\x.2.1.length=n/32+x.1/\(0<=x.2.2/\x.2.2<2^(n % 32))/\x.2.1++yz (n % 32) (t.drop x.1) x.2.2=List.replicate (n/32) 0++yz (n % 32) t 0,fun x=> [(23,.int .i64 x.1),(5,.own 38),(6,.int .u64 x.2.2)],fun x=> [(38,.buf 104 .u32 x.2.1)],fun x=>t.length-x.1,(0,List.replicate (n/32) 0,0),⟨by simp,by simp,⟨by simp,by exact Int.pow_pos (by decide)⟩,by simp⟩,?_,fun x hx=>?_⟩
  ·((conv=>whnf);refine And.intro ?_ ?_;repeat' first|refine lc ?_ ?_|exact la0|exact lr rfl|exact ln0|refine lh1 ?_ ?_|exact lh0|exact bf0|exact bd0|refine bc0 ?_|exact bm0 rfl|exact bb0 rfl|exact bg0 rfl|exact li0 rfl|refine lg0 ?_|refine lt0 ?_|fail)
  (refine⟨by kernel_rfl,?_⟩;(conv=>whnf))
  obtain⟨i,out,c⟩:=x;obtain⟨hi1,hi2,hi3,hi4⟩:=hx;simp only at hi1 hi2 hi3 hi4;have hp31:(2:Int)^(n % 32)<=2147483648:=by
   have h1:2^(n % 32)<=2^31:=Nat.pow_le_pow_right (by decide) (by omega);have h2:(2:Int)^(n % 32)=((2^(n % 32):Nat):Int):=by simp
   rw[h2];omega
  refine brI (fun h1=>?_) (fun h1=>?_)
  ·have hi:i<t.length:=by simp only[decide_eq_true_eq]at h1;omega
   conv=>whnf
   refine⟨⟨by omega,by simp only;omega⟩,fun(x:Int) hx=>?_⟩;have hx:t[i]? =some x:=by simpa using hx
   have hxb:=hb2 x (List.mem_of_getElem? hx);have hst:=zmn (n:=n) hxb hi3;rw[zq hx]at hi4;simp only[yz]at hi4;obtain⟨s,hs⟩: ∃s,x*2^(n % 32)+c=s:=⟨_,rfl⟩;rw[hs]at hst hi4;have hs0:0<=s/\s<4294967296*2^(n % 32):=by
    have h1:0<=x*2^(n % 32):=Int.mul_nonneg hxb.1 (by exact Int.pow_nonneg (by decide));have h2:x*2^(n % 32)<=4294967295*2^(n % 32):=Int.mul_le_mul_of_nonneg_right (by omega) (by exact Int.pow_nonneg (by decide));omega
   conv=>whnf
   rw[wU (x:=x) (by omega)];refine⟨by omega,?_⟩;conv=>whnf
   refine⟨by have h9:((n:Int).tmod 32)=((n % 32:Nat):Int):=Int.ofNat_tmod n 32;omega,?_⟩;conv=>whnf
   refine⟨by simp only[List.length_cons,List.length_nil];omega,?_⟩;conv=>whnf
   refine⟨by omega,?_⟩;conv=>whnf
   refine⟨(i+1,out++ [s % 4294967296],s/4294967296),⟨by simp only;omega,by simp only[List.length_append,List.length_cons,List.length_nil];omega,⟨by simp only;omega,by simp only;omega⟩,by rw[List.append_assoc];exact hi4⟩,by show t.length-(i+1)<t.length-i;omega,?_⟩;have e1:IntKind.u32.wrap s=s % 4294967296:=by simp[IntKind.wrap,IntKind.signed,IntKind.bits]
   have e2:s.fdiv 4294967296=s/4294967296:=Int.fdiv_eq_ediv_of_nonneg _ (by decide)
   ((conv=>whnf);refine And.intro ?_ ?_;repeat' first|refine lc ?_ ?_|exact la0|exact lr rfl|exact ln0|refine lh1 ?_ ?_|exact lh0|exact bf0|exact bd0|refine bc0 ?_|exact bm0 rfl|exact bb0 rfl|exact bg0 rfl|exact li0 rfl|refine lg0 ?_|refine lt0 ?_|fail)
   ·exact ai0 ((congrArg (fun z:Int=>z.fdiv 4294967296) hst).trans e2)
   ·exact ai0 (by rw[wI (by simp only;omega)];simp only;omega)
   ·exact bb0 (by
     show out++ [_]=out++ [s % 4294967296];rw[←e1,←hst];rfl)
   all_goals trace_state
  ·have hi: ¬i<t.length:=by simp only[decide_eq_false_iff_not]at h1;omega
   rw[List.drop_of_length_le (by omega)]at hi4;simp only[yz]at hi4;conv=>whnf
   refine⟨by simp only[List.length_cons,List.length_nil];omega,?_⟩;conv=>whnf
   refine⟨lr rfl,lh1 (bb0 ?_) lh0⟩;rw[←hi4];show out++ [IntKind.u32.wrap c]=out++ [c]
   congr 2
   simp[IntKind.wrap,IntKind.signed,IntKind.bits];omega
theorem zw5 (K J w B:Nat):(K*(w*B))*(J*B)=J*K*(w*B*B):=by grind
theorem zo9 (K J V2 r:Nat):r*J+K*V2*J=V2*(J*K)+r*J:=by grind
theorem qbj {B J K U V v1 v0 u2 u1 u0 r r':Nat} (q0:0<J) (hr:r<J*K) (hr':r'<K) (eu:U=r+J*K*((u2*B+u1)*B+u0)) (ev:V=r'+K*(v1*B+v0)) (hV:K*B<=V) (hW:U<V*(J*B)) (b2:v0<B):
 0<v1/\u2<=v1/\ ∀x,x<B->x*(v1*B+v0)<=(u2*B+u1)*B+u0->(∀z,z<B->z*(v1*B+v0)<=(u2*B+u1)*B+u0->z<=x)->U<(x+1)*(V*J)/\x*(V*J)<=U+V*J:=by
 have hv1:0<v1:=by
  refine Nat.pos_of_ne_zero fun e=>?_
  rw[e,Nat.zero_mul,Nat.zero_add]at ev;have:K*(v0+1)<=K*B:=Nat.mul_le_mul_left _ (by omega);rw[Nat.mul_succ]at this;omega
 have hK:0<K:=by omega
 have ht:u2<=v1:=by
  refine Nat.not_lt.1 fun hc=>?_
  have h1:J*K*((v1+1)*B*B)<=J*K*((u2*B+u1)*B+u0):=by
   refine Nat.mul_le_mul_left _ ?_;have h1:(v1+1)*B<=u2*B:=Nat.mul_le_mul_right _ hc;have h2:(v1+1)*B*B<=(u2*B+u1)*B:=Nat.mul_le_mul_right _ (by omega);omega
  have h2:V*(J*B)<=(K*((v1+1)*B))*(J*B):=by
   refine Nat.mul_le_mul_right _ ?_;have h1:K*(v1*B+v0+1)<=K*((v1+1)*B):=Nat.mul_le_mul_left _ (by rw[Nat.succ_mul];omega);rw[Nat.mul_succ]at h1;omega
  have h3:(K*((v1+1)*B))*(J*B)=J*K*((v1+1)*B*B):=zw5 _ _ _ _;omega
 refine⟨hv1,ht,fun x g1 g2 g3=>?_⟩;generalize (u2*B+u1)*B+u0=T at*;generalize hV2:v1*B+v0=V2 at*;have hV2b:B<=V2:=by
  have:1*B<=v1*B:=Nat.mul_le_mul_right _ hv1;omega
 refine qe6 (P:=J*K) (T:=T) (V2:=V2) (V0:=r'*J) (B:=B) ?_ ?_ ?_ ?_ g1 g2 g3 ?_ ?_
 ·rw[Nat.mul_comm];omega
 ·rw[Nat.succ_mul,Nat.mul_comm];omega
 ·rw[ev,Nat.add_mul];exact zo9 _ _ _ _
 ·rw[Nat.mul_comm];exact Nat.mul_lt_mul_of_pos_left hr' q0
 ·rw[Nat.mul_assoc];exact hW
 ·have h1:B*(J*K)<=V2*(J*K):=Nat.mul_le_mul_right _ hV2b;have h2:V*J=V2*(J*K)+r'*J:=by rw[ev,Nat.add_mul,zo9]
  omega
theorem zse (x a b c:Nat) (h:a+b=c):x^a*x^b=x^c:=by rw[←Nat.pow_add,h]
theorem qbi {u v:List Int} {j:Nat} (hu:LB u) (hv:LB v) (hn:2<=v.length) (hj:j+v.length<u.length) (hV:4294967296^(v.length-1)<=val v) (hW:val u<val v*4294967296^(j+1)):
 Zr (j+v.length+1) u/\0<(v[v.length-1]?.getD 0).toNat /\(u[j+v.length]?.getD 0).toNat <=(v[v.length-1]?.getD 0).toNat /\
 ∀x,x=gsN (u[j+v.length]?.getD 0).toNat (u[j+v.length-1]?.getD 0).toNat (u[j+v.length-2]?.getD 0).toNat (v[v.length-1]?.getD 0).toNat (v[v.length-2]?.getD 0).toNat ->
  x<4294967296/\val u<(x+1)*(val v*4294967296^j)/\x*(val v*4294967296^j)<=val u+val v*4294967296^j:=by
 have hz:Zr (j+v.length+1) u:=by
  refine zxs hu (Nat.lt_of_lt_of_le hW ?_);have h1:=uu hv v.length (Nat.le_refl _);rw[List.take_length]at h1;rw[←zse 4294967296 v.length (j+1) (j+v.length+1) (by omega)];exact Nat.mul_le_mul_right _ (by omega)
 obtain⟨k,hk⟩: ∃k,v.length=k+2:=⟨v.length-2,by omega⟩;rw[hk]at hz hj hV⊢;obtain⟨r,hr,eu⟩:=top3 (k:=j+k) hu (by omega) (fun i hi=>hz i (by omega));obtain⟨r',hr',ev⟩:=top2 (k:=k) hv (by omega);have b0:=hu.at (j+k+2);have b1:=hu.at (j+k+1);have b2:=hu.at (j+k);have c0:=hv.at (k+1);have c1:=hv.at k;have p1:4294967296^(k+2-1)=4294967296^k*4294967296:=Nat.pow_succ ..;have p2:4294967296^(j+k)=4294967296^j*4294967296^k:=Nat.pow_add ..;have p3:4294967296^(j+1)=4294967296^j*4294967296:=Nat.pow_succ ..;rw[p1]at hV;rw[p3]at hW;rw[p2]at hr eu;have q0:0<4294967296^j:=Nat.pow_pos (by decide);have key:=qbj q0 hr hr' eu ev hV hW (by omega);obtain⟨k1,k2,k3⟩:=key;refine⟨hz,k1,k2,fun x hx=>?_⟩;obtain⟨g1,g2,g3⟩:=zww (u[j+k+2]?.getD 0).toNat (u[j+k+1]?.getD 0).toNat (u[j+k]?.getD 0).toNat (v[k+1]?.getD 0).toNat (v[k]?.getD 0).toNat k1 (by omega) k2 (by omega) (by omega) (by omega);have hx:x=gsN (u[j+k+2]?.getD 0).toNat (u[j+k+1]?.getD 0).toNat (u[j+k]?.getD 0).toNat (v[k+1]?.getD 0).toNat (v[k]?.getD 0).toNat :=hx;rw[←hx]at g1 g2 g3;exact⟨g1,k3 x g1 g2 g3⟩
theorem dv_no {vq V U A J x:Nat} (h:vq*V+U=A) (h1: ¬U<J*(x*V)) (h2:U<(x+1)*(V*J)):(vq+J*x)*V+(U-J*(x*V))=A/\U-J*(x*V)<V*J:=by
 have e1:(vq+J*x)*V=vq*V+J*(x*V):=by rw[Nat.add_mul,Nat.mul_assoc]
 have e2:(x+1)*(V*J)=J*(x*V)+V*J:=by rw[Nat.succ_mul,←Nat.mul_assoc,Nat.mul_comm J]
 omega
theorem qfa {vq V U A J x:Nat} (h:vq*V+U=A) (h1:U<J*(x*V)) (h3:x*(V*J)<=U+V*J):1<=x/\(vq+J*(x-1))*V+(U+J*V-J*(x*V))=A/\U+J*V-J*(x*V)<V*J:=by
 cases x with
 |zero=>rw[Nat.zero_mul,Nat.mul_zero]at h1;omega
 |succ x=>
  have e1:(vq+J*x)*V=vq*V+J*(x*V):=by rw[Nat.add_mul,Nat.mul_assoc]
  have e2:(x+1)*(V*J)=J*(x*V)+V*J:=by rw[Nat.succ_mul,←Nat.mul_assoc,Nat.mul_comm J]
  have e3:J*((x+1)*V)=J*(x*V)+J*V:=by rw[Nat.succ_mul,Nat.mul_add]
  have e4:V*J=J*V:=Nat.mul_comm _ _;rw[show x+1-1=x from rfl];omega
theorem zoj {l:List Int} (h:LB l):val l<4294967296^l.length:=by
 have:=uu h l.length (Nat.le_refl _)
 rwa [List.take_length]at this
theorem tk_no {u v:List Int} {j x:Nat} (hu:LB u) (h: ¬val u<4294967296^j*(x*val v)):val (tkN u j x v)=val u-4294967296^j*(x*val v):=by
 unfold tkN;rw[if_neg h];have:=zoj hu;exact xf _ _ (by omega)
theorem qc8 {u v:List Int} {j x:Nat} (hj:j+v.length<u.length) (h:val u<4294967296^j*(x*val v)) (hx:4294967296^j*(x*val v)<=val u+4294967296^(j+v.length+1)):
 val (tkN u j x v)+4294967296^j*(x*val v)=val u+4294967296^(j+v.length+1)/\Zr (j+v.length+1) (tkN u j x v):=by
 have hp:4294967296^(j+v.length+1)<=4294967296^u.length:=Nat.pow_le_pow_right (by decide) (by omega);have e:val (tkN u j x v)=val u+4294967296^(j+v.length+1)-4294967296^j*(x*val v):=by
  unfold tkN;rw[if_pos h];refine xf _ _ ?_;generalize 4294967296^(j+v.length+1)=Q at*;generalize 4294967296^u.length=Q2 at*;omega
 refine⟨by omega,zxs (zat _ _) ?_⟩;show val (tkN u j x v)<_;rw[e];generalize 4294967296^(j+v.length+1)=Q at*;omega
theorem zq2 (u v:List Int) (j x:Nat):(tkN u j x v).length =u.length:=xm _ _
theorem zy9 (u v:List Int) (j x:Nat):LB (tkN u j x v):=zat _ _
theorem zy7 {w' w P d r Bj vt u c B q y Bi:Nat} (zay:w'+P*d=w+P*r) (hI:w+P*c=u+Bj*vt) (hs:d+y+c=r+B*q) (hP:P=Bj*Bi):
 w'+P*B*q=u+Bj*(vt+Bi*y):=by
 have e1:P*(d+y+c)=P*(r+B*q):=by rw[hs]
 grind
end Go.Proofs.YtgehdbenidimlaaGreatDoor

namespace Go.Sx
end Go.Sx
