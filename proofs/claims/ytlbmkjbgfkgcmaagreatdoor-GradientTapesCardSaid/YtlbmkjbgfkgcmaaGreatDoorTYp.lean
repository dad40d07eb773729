/- Natural numbers: plain laws of long division, told by whole numbers. -/
import Derived.Test.YtlbmkjbgfkgcmaaGreatDoorTYk
set_option linter.all false
open BitVec renaming ofInt->q1
open Int renaming fdiv_eq_ediv_of_nonneg->qA,eq_ofNat_of_zero_le->qL,toNat_natCast->qS,ofNat_tdiv->qZ,ofNat_tmod->w0,natCast_nonneg->w3,natCast_mul->w8,mul_nonneg->w9,pow_nonneg->we
open List renaming mem_of_getElem?->qD,take_length->qG,getElem?_set_ne->qN,replicate->qQ,length_cons->qT,length_set->qX,length_nil->qY
open Nat renaming mul_le_mul_right->q2,mul_assoc->q3,mul_comm->q4,div_lt_iff_lt_mul->qB,succ_mul->qC,mul_le_mul_left->qE,pow_succ->qH,mul_add->qI,pow_le_pow_right->qJ,add_mul->qK,mul_le_mul->qM,lt_of_le_of_lt->qO,lt_of_lt_of_le->qP,le_refl->qR,mul_zero->qU,mul_succ->qV,mod_lt->qW,div_mul_le_self->w1,lt_div_mul_add->w2,add_zero->w4,zero_mul->w5,mod_eq_of_lt->w6,pow_add->w7,le_trans->wi,not_lt->ws
open Option renaming getD_some->qF
open Go.IntKind renaming u64->wA,u32->wB,signed->wC,wrap->wD,bits->wE,i64->wF
namespace Go.Proofs.YtlbmkjbgfkgcmaaGreatDoor
open Go Go.Sx
theorem qfa{W D T V2 P V0 x B:Nat}(hW1:T*P<=W)(hW2:W<(T+1)*P)(hD:D=V2*P+V0)(hV0:V0<P)(hx:x<B)(hxT:x*V2<=T)
 (hmax:∀q,q<B->q*V2<=T->q<=x) (hWD:W<D*B) (hBP:B*P<=D):W<(x+1)*D/\x*D<=W+D:=by
 have hB:0<B:=O;have hD0:0<D:=by
  have:0<P:=O;have:=Nat.mul_pos hB this;omega
 constructor
 .have hq:W/D<B:=by rw[qB hD0,q4];exact hWD
  have h1:W/D*D<=W:=w1 W D;have h2:W/D*V2*P<=W/D*D:=by rw[q3];exact qE _ O
  have h3:W/D*V2<T+1:=Nat.lt_of_mul_lt_mul_right (qO (wi h2 h1) hW2);have h4:=hmax _ hq O;have h5:W<(W/D+1)*D:=by
   have:=w2 (a:=W) hD0;rw[qC];omega
  exact qP h5 (q2 _ O)
 .have h1:x*D=x*V2*P+x*V0:=by rw[hD,qI,q3]
  have h2:x*V2*P<=T*P:=q2 _ hxT;have h3:x*V0<=B*P:=qM O O;omega
def Zr(k:Nat)(l:List Int):Prop:=∀i,k<=i->l[i]?.getD 0=0
theorem zdo(l:List Int)(k:Nat)(hk:k<=l.length):val l=val (l.take k)+4294967296^k*val (l.drop k):=by
 conv=>lhs;rw[<-List.take_append_drop k l]
 rw[zc6,List.length_take,Nat.min_eq_left hk]
theorem zuy{k:Nat}{l:List Int}(h:LB l)(hz:Zr k l):val l<4294967296^k:=by
 by_cases hk:k<=l.length
 .have hd:∀m:List Int,(∀i:Nat,m[i]?.getD 0=0)->val m=0:=by
   intro m
   induction m with
   |nil=>intro _;rfl
   |cons x m ih=>
    intro h;have h0:=h 0;simp only[List.getElem?_cons_zero,qF]at h0;rw[qg,ih fun i=>by have:=h (i+1);simpa using this,h0];rfl
  have h1:=hd (l.drop k) fun i=>by rw[List.getElem?_drop];exact hz _ O
  rw[zdo l k hk,h1];exact kc h k hk
 .have:=kc h l.length (qR _);rw[qG]at this;exact qP this (qJ OA O)
theorem zx3{k:Nat}{l:List Int}(h:LB l)(hv:val l<4294967296^k):Zr k l:=by
 intro i hi;by_cases hl:i<l.length
 .have h1:=zdo l i O;rw[List.drop_eq_getElem_cons hl,qg]at h1;have h2:=h l[i] (List.getElem_mem hl);have h3:4294967296^k<=4294967296^i:=qJ OA hi;rw[List.getElem?_eq_getElem hl,qF];by_cases h4:l[i].toNat +4294967296*val (l.drop (i+1))=0
  .omega
  .have:4294967296^i*1<=4294967296^i*(l[i].toNat +4294967296*val (l.drop (i+1))):=qE _ O;omega
 .rw[List.getElem?_eq_none O];rfl
theorem alg3(r P B a b c:Nat):r+P*a+P*B*b+P*B*B*c=r+P*((c*B+b)*B+a):=by grind
theorem top3{l:List Int}{k:Nat}(h:LB l)(hk:k+3<=l.length)(hz:Zr (k+3) l):
 ∃r,r<4294967296^k/\val l=r+4294967296^k*(((l[k+2]?.getD 0).toNat *4294967296+(l[k+1]?.getD 0).toNat)*4294967296+(l[k]?.getD 0).toNat):=by
 refine⟨val (l.take k),kc h k O,?_⟩;have h3:=jd l (n:=k+2) O;have h2:=jd l (n:=k+1) O;have h1:=jd l (n:=k) O;have e:val l=val (l.take (k+3)):=by
  have h0:=zdo l (k+3) hk;have hv:=zuy h hz;generalize 4294967296^(k+3)=Q at h0 hv;generalize val (l.drop (k+3))=d at h0
  cases d with
  |zero=>rw[qU,w4]at h0;exact h0
  |succ d=>
   rw[qV]at h0;omega
 rw[e,show k+3=k+2+1 from rfl,h3,show k+2=k+1+1 from rfl,h2,h1,qH 4294967296 (k+1),qH 4294967296 k];exact alg3 _ _ _ _ _ _
theorem top2{l:List Int}{k:Nat}(h:LB l)(hk:k+2=l.length):
 ∃r,r<4294967296^k/\val l=r+4294967296^k*((l[k+1]?.getD 0).toNat *4294967296+(l[k]?.getD 0).toNat):=by
 refine⟨val (l.take k),kc h k O,?_⟩;have h2:=jd l (n:=k+1) O;have h1:=jd l (n:=k) O;rw[hk,qG]at h2;rw[h2,h1,qH];generalize 4294967296^k=P;rw[qI];have e1:P*4294967296*(l[k+1]?.getD 0).toNat =P*((l[k+1]?.getD 0).toNat *4294967296):=by rw[q3,q4 4294967296]
 rw[e1];omega
set_option maxRecDepth 100000
set_option maxHeartbeats 8000000
def dgF(vu v w:Nat):Nat->Nat->Nat->Nat
 |0,q,_=>q
 |f+1,q,rest=>if rest<4294967296/\rest*4294967296+vu<q*w then dgF vu v w f (q-1) (rest+v)else q
def dgN(vu v w q rest:Nat):Nat:=dgF vu v w q q rest
theorem zud(vu v w q rest:Nat):dgN vu v w q rest=if rest<4294967296/\rest*4294967296+vu<q*w then dgN vu v w (q-1) (rest+v)else q:=by
 unfold dgN
 cases q with
 |zero=>rw[Z7 O];rfl
 |succ q=>rfl
theorem zw0{b c:Int}(hb:0<=b/\b<4294967296)(hc:0<=c/\c<4294967296):
 wA.wrap (q1 64 (wA.wrap (b*4294967296))|||q1 64 (wA.wrap c)).toNat =b*4294967296+c:=by
 obtain⟨x,rfl⟩:=qL hb.1;obtain⟨y,rfl⟩:=qL hc.1;have e2:((x:Nat):Int)*4294967296=((x*2^32:Nat):Int):=OC;rw[wU (x:=(y:Int)) O,e2,wU (x:=((x*2^32:Nat):Int)) O,zsz x 32 y O O O,wU O];omega
theorem zoy{a b:Int}(ha:0<=a/\a<4294967296)(hb:0<=b/\b<4294967296):0<=a*b/\a*b<=4294967295*4294967295:=
 ⟨w9 ha.1 hb.1,Int.mul_le_mul O O hb.1 O⟩
theorem y279(q rest vu v w:Nat)(hq:q<4294967296)(hr:rest<8589934592)(ht:vu<4294967296)(hv:v<4294967296)(hw:w<4294967296):
 Fn 311 [] [.int .u64 q,.int .u64 rest,.int .u32 vu,.int .u32 v,.int .u32 w] (.int .u64 (dgN vu v w q rest)) []:=by
 refine fY4 Tryz.func311 rfl ?_;refine⟨Int×Int,fun x=>(0<=x.1/\x.1<4294967296/\0<=x.2/\x.2<8589934592)/\dgN vu v w x.1.toNat x.2.toNat=dgN vu v w q rest,fun x=> [(0,.int .u64 x.1),(1,.int .u64 x.2)],fun _=> [],fun x=>x.1.toNat,((q:Int),(rest:Int)),?_,?_,fun x hx=>?_⟩
 .exact⟨⟨OD,OD,OD,OD⟩,rfl⟩
 .exact KZ0
 refine gYe ?_;obtain⟨a,b⟩:=x;obtain⟨⟨h0,h1,h2,h3⟩,h⟩:=hx;simp only at h0 h1 h2 h3 h;have hif:=zud vu v w a.toNat b.toNat;have hcast:((a.toNat*w:Nat):Int)=a*(w:Int):=by rw[w8,show((a.toNat:Nat):Int)=a by omega]
 refine brI (fun h4=>?_) (fun h4=>?_)
 .have h4:b<4294967296:=Z0 h4;have hm:=zoy (a:=a) (b:=(w:Int)) O O;conv=>whnf
  refine⟨OA,?_⟩;conv=>whnf
  refine brI (fun h5=>?_) (fun h5=>?_)
  .have h5:=Z0 h5;have h5:wA.wrap (q1 64 (wA.wrap (b*4294967296))|||q1 64 (wA.wrap (vu:Int))).toNat <wA.wrap (a*wA.wrap (w:Int)):=h5;rw[zw0 O O,wU (x:=(w:Int)) O,wU O,<-hcast]at h5;have ha:a≠0:=fun e=>by subst e;rw[Int.zero_mul]at hcast;omega
   rw[Z6 (by constructor<;>omega)]at hif;conv=>whnf
   refine⟨(a-1,b+(v:Int)),⟨⟨OD,OD,OD,OD⟩,?_⟩,by show(a-1).toNat <a.toNat;omega,?_⟩
   .show dgN vu v w (a-1).toNat (b+(v:Int)).toNat =_;rw[<-h,hif,show(a-1).toNat =a.toNat-1 by omega,show(b+(v:Int)).toNat =b.toNat+v by omega]
   ((conv=>whnf);refine And.intro ?_ ?_;repeat' first|refine lc ?_ ?_|refine lh1 ?_ ?_|refine bc0 ?_|exact KXZ|refine lg0 ?_|refine lt0 ?_)
   .exact ai0 (by rw[wU OD])
   .exact ai0 (by rw[wU (x:=(v:Int)) O,wU OD])
  .have h5:=Z3 h5;have h5:¬wA.wrap (q1 64 (wA.wrap (b*4294967296))|||q1 64 (wA.wrap (vu:Int))).toNat <wA.wrap (a*wA.wrap (w:Int)):=h5;rw[zw0 O O,wU (x:=(w:Int)) O,wU O,<-hcast]at h5;rw[Z7 O]at hif;conv=>whnf
   exact⟨ai0 OD,lh0⟩
 .have h4:¬b<4294967296:=Z3 h4;rw[Z7 O]at hif;conv=>whnf
  exact⟨ai0 OD,lh0⟩
theorem qbu{a v w B r t q:Nat}(h:a*w<=r*B+t)(hN:a*v+r=q):a*(v*B+w)<=q*B+t:=by
 subst hN;have e1:a*(v*B+w)=a*v*B+a*w:=by rw[qI,q3]
 have e2:(a*v+r)*B=a*v*B+r*B:=qK _ _ _;omega
theorem qbt{a v w B r t q:Nat}(h:r*B+t<a*w)(hN:a*v+r=q):q*B+t<a*(v*B+w):=by
 subst hN;have e1:a*(v*B+w)=a*v*B+a*w:=by rw[qI,q3]
 have e2:(a*v+r)*B=a*v*B+r*B:=qK _ _ _;omega
theorem zpr(vu v w N:Nat)(hw:w<4294967296):∀q rest,q<4294967296->q*v+rest=N->
 dgN vu v w q rest<=q/\dgN vu v w q rest*(v*4294967296+w)<=N*4294967296+vu/\∀z,z<=q->z*(v*4294967296+w)<=N*4294967296+vu->z<=dgN vu v w q rest:=by
 intro q
 induction q with
 |zero=>
  intro rest _ hN;rw[zud,Z7 O];refine⟨qR _,by rw[w5];exact Nat.zero_le _,fun z hz _=>hz⟩
 |succ q ih=>
  intro rest hq hN;rw[zud];split
  .rename_i hc;rw[show q+1-1=q from rfl];obtain⟨h1,h2,h3⟩:=ih (rest+v) O (by rw[<-hN,qC];omega);refine⟨O,h2,fun z hz hzT=>?_⟩;have hne:z≠q+1:=fun e=>by
    subst e;have:=qbt hc.2 hN;omega
   exact h3 z O hzT
  .rename_i hc;refine⟨qR _,qbu ?_ hN,fun z hz _=>hz⟩;by_cases hr:rest<4294967296
   .exact ws.1 fun h=>hc ⟨hr,h⟩
   .have:(q+1)*w<=4294967295*4294967295:=qM O O;omega
def gsN(top next vu v w:Nat):Nat:=if v<=top then dgN vu v w 4294967295 ((top-v)*4294967296+next+v)else dgN vu v w ((top*4294967296+next)/v) ((top*4294967296+next) % v)
theorem zw2(top next vu v w:Nat)(hv:0<v)(hv2:v<4294967296)(ht:top<=v)(hn:next<4294967296)(h3:vu<4294967296)(hw:w<4294967296):
 gsN top next vu v w<4294967296/\gsN top next vu v w*(v*4294967296+w)<=(top*4294967296+next)*4294967296+vu/\∀z,z<4294967296->z*(v*4294967296+w)<=(top*4294967296+next)*4294967296+vu->z<=gsN top next vu v w:=by
 unfold gsN;split
 .obtain⟨h1,h2,h3⟩:=zpr vu v w (top*4294967296+next) hw 4294967295 ((top-v)*4294967296+next+v) O O;exact⟨O,h2,fun z hz=>h3 z O⟩
 .have hq:(top*4294967296+next)/v<4294967296:=by rw[qB hv];omega
  obtain⟨h1,h2,h4⟩:=zpr vu v w (top*4294967296+next) hw _ ((top*4294967296+next) % v) hq (by rw[q4];exact Nat.div_add_mod _ _);refine⟨O,h2,fun z hz hzT=>h4 z ?_ hzT⟩;rw[Nat.le_div_iff_mul_le hv];have e:z*(v*4294967296+w)=z*v*4294967296+z*w:=by rw[qI,q3]
  omega
theorem qc7{Q R:Int}(q rest vu v w:Nat)(hq:q<4294967296)(hr:rest<8589934592)(ht:vu<4294967296)(hv:v<4294967296)(hw:w<4294967296)(hQ:Q=q)(hR:R=rest):
 Fn 311 [] [.int .u64 Q,.int .u64 R,.int .u32 vu,.int .u32 v,.int .u32 w] (.int .u64 (dgN vu v w q rest)) []:=by
 subst hQ hR;exact y279 q rest vu v w hq hr ht hv hw
theorem wUn{n:Nat}(h:n<=18446744073709551615):wA.wrap (n:Int)=n:=wU ⟨w3 n,O⟩
theorem zzo{n:Nat}(h:n<4294967296):wB.wrap (n:Int)=n:=zp7 ⟨w3 n,O⟩
theorem y259(top next vu v w:Nat)(hv:0<v)(hv2:v<4294967296)(ht:top<=v)(hn:next<4294967296)(h3:vu<4294967296)(hw:w<4294967296):
 Fn 303 [] [.int .u32 top,.int .u32 next,.int .u32 vu,.int .u32 v,.int .u32 w] (.int .u64 (gsN top next vu v w)) []:=by
 refine fY4 Tryz.func303 rfl ?_;refine brI (fun h4=>?_) (fun h4=>?_)
 .have h4:(v:Int)<=top:=Z0 h4;conv=>whnf
  refine⟨OA,?_⟩;conv=>whnf
  have e:wA.wrap (wA.wrap (wA.wrap (wA.wrap (wB.wrap ((top:Int)-v))*4294967296)+wA.wrap (next:Int))+wA.wrap (v:Int))=(((top-v)*4294967296+next+v:Nat):Int):=by
   rw[zp7 O,wU (x:=(top:Int)-v) O,wU (x:=(next:Int)) O,wU (x:=(v:Int)) O,wU (x:=((top:Int)-v)*4294967296) O,wU (x:=((top:Int)-v)*4294967296+next) O,wU O];omega
  refine gYn (qc7 4294967295 ((top-v)*4294967296+next+v) vu v w O O h3 hv2 hw rfl e) ?_;exact⟨ai0 (by unfold gsN;rw[Z6 O]),lh0⟩
 .have h4:¬(v:Int)<=top:=Z3 h4;have hd:(top*4294967296+next)/v<4294967296:=by rw[qB hv];omega
  have hmd:=qW (top*4294967296+next) hv;conv=>whnf
  refine⟨OA,?_⟩;conv=>whnf
  have e:=zw0 (b:=(top:Int)) (c:=(next:Int)) O O;have e:wA.wrap (q1 64 (wA.wrap (wA.wrap (top:Int)*4294967296))|||q1 64 (wA.wrap (next:Int))).toNat =((top*4294967296+next:Nat):Int):=by
   rw[wU (x:=(top:Int)) O,e];omega
  have ev:wA.wrap (v:Int)=v:=wU O;have e1:wA.wrap ((wA.wrap (q1 64 (wA.wrap (wA.wrap (top:Int)*4294967296))|||q1 64 (wA.wrap (next:Int))).toNat).tdiv (wA.wrap (v:Int)))=(((top*4294967296+next)/v:Nat):Int):=by
   rw[e,ev,<-qZ,wUn O]
  have e2:(wA.wrap (q1 64 (wA.wrap (wA.wrap (top:Int)*4294967296))|||q1 64 (wA.wrap (next:Int))).toNat).tmod (wA.wrap (v:Int))=(((top*4294967296+next) % v:Nat):Int):=by
   rw[e,ev,<-w0]
  refine⟨by rw[ev];omega,?_⟩;conv=>whnf
  refine⟨by rw[ev];omega,?_⟩;conv=>whnf
  refine gYn (qc7 ((top*4294967296+next)/v) ((top*4294967296+next) % v) vu v w hd O h3 hv2 hw e1 e2) ?_;refine gYd ?_;exact⟨ai0 (by unfold gsN;rw[Z7 O]),lh0⟩
theorem y278(hi lo y:Nat)(hh:hi<y)(hl:lo<4294967296)(hy:y<4294967296):Fn 310 [] [.int .u32 hi,.int .u32 lo,.int .u32 y] (.tup [.int .u32 ((hi*4294967296+lo)/y:Nat),.int .u32 ((hi*4294967296+lo) % y:Nat)]) []:=by
 have ey:wA.wrap (y:Int)=y:=wUn O;have e:=zw0 (b:=(hi:Int)) (c:=(lo:Int)) O O;have e:wA.wrap (q1 64 (wA.wrap (wA.wrap (hi:Int)*4294967296))|||q1 64 (wA.wrap (lo:Int))).toNat =((hi*4294967296+lo:Nat):Int):=by
  rw[wUn (n:=hi) O,e];omega
 have hd:(hi*4294967296+lo)/y<4294967296:=by rw[qB O];omega
 have hm:=qW (hi*4294967296+lo) (O:0<y);have e1:wB.wrap (wA.wrap ((wA.wrap (q1 64 (wA.wrap (wA.wrap (hi:Int)*4294967296))|||q1 64 (wA.wrap (lo:Int))).toNat).tdiv (wA.wrap (y:Int))))=(((hi*4294967296+lo)/y:Nat):Int):=by
  rw[e,ey,<-qZ,wUn O,zzo hd]
 have e2:wB.wrap ((wA.wrap (q1 64 (wA.wrap (wA.wrap (hi:Int)*4294967296))|||q1 64 (wA.wrap (lo:Int))).toNat).tmod (wA.wrap (y:Int)))=(((hi*4294967296+lo) % y:Nat):Int):=by
  rw[e,ey,<-w0,zzo O]
 refine fY4 Tryz.func310 rfl ?_;refine brI (fun h4=>?_) (fun h4=>?_)
 rotate_left
 .have h4:((y:Int) != 0)=false:=h4;rw[bne_eq_false_iff_eq]at h4;omega
 conv=>whnf
 refine brI (fun h5=>?_) (fun h5=>?_)
 .have h5:(y:Int)<=hi:=Z0 h5;omega
 conv=>whnf
 refine⟨OA,?_⟩;conv=>whnf
 refine⟨by rw[ey];omega,?_⟩;conv=>whnf
 refine⟨by rw[ey];omega,?_⟩;conv=>whnf
 refine gYd ?_;exact⟨lt0 (lc (ai0 e1) (lc (ai0 e2) ln0)),lh0⟩
theorem y278i{H L Y:Int}(hi lo y:Nat)(hh:hi<y)(hl:lo<4294967296)(hy:y<4294967296)(e1:H=hi)(e2:L=lo)(e3:Y=y):Fn 310 [] [.int .u32 H,.int .u32 L,.int .u32 Y] (.tup [.int .u32 ((hi*4294967296+lo)/y:Nat),.int .u32 ((hi*4294967296+lo) % y:Nat)]) []:=by
 subst e1 e2 e3;exact y278 hi lo y hh hl hy
theorem zr1{vo d B P q r rest a t:Nat}(h:rest*B+a=q*d+r):(vo+P*q)*d+P*r+t=vo*d+P*B*rest+(t+P*a):=by
 have e1:P*(rest*B+a)=P*(q*d+r):=by rw[h]
 grind
theorem y256(l:List Int)(d:Nat)(hb:LB l)(hl:l.length<=100000)(hd:0<d)(hd2:d<4294967296):Fn 301 [] [.sl .u32 l,.int .u32 d] (.tup [.sl .u32 (zdk l.length (val l/d)),.int .u32 (val l % d:Nat)]) []:=by
 refine fY4 Tryz.func301 rfl ?_;refine⟨⟨O,O,O⟩,?_⟩;conv=>whnf
 have hw:wF.wrap ((l.length:Int)-1)=(l.length:Int)-1:=wI O;rw[hw];refine⟨Int×List Int×Nat,fun x=>(-1<=x.1/\x.1<l.length/\x.2.2<d)/\(LB x.2.1/\x.2.1.length=l.length)/\(∀j:Nat,(j:Int)<=x.1->x.2.1[j]?.getD 0=0)/\val x.2.1*d+4294967296^(x.1+1).toNat *x.2.2+val (l.take (x.1+1).toNat)=val l,fun x=> [(8,.int .i64 x.1),(7,.int .u32 x.2.2)],fun x=> [(11,.buf 101 .u32 x.2.1)],fun x=>(x.1+1).toNat,((l.length:Int)-1,qQ l.length 0,0),?_,?_,fun x hx=>?_⟩
 .refine⟨⟨OD,OD,hd⟩,⟨fun x hx=>by rw[List.eq_of_mem_replicate hx];omega,OC⟩,fun j _=>by simp only[List.getElem?_replicate];split<;>rfl,?_⟩;simp only;rw[zad,show((l.length:Int)-1+1).toNat =l.length by omega,qG];simp
 .exact KZ0
 refine gYe ?_;obtain⟨i,out,rest⟩:=x;obtain⟨⟨h1,h2,h3⟩,⟨h4,h5⟩,h6,h7⟩:=hx;simp only at h1 h2 h3 h4 h5 h6 h7;refine brI (fun h8=>?_) (fun h8=>?_)
 .have h8:0<=i:=Z0 h8;obtain⟨j,rfl⟩:=qL h8;have hj:j<l.length:=O;conv=>whnf
  refine⟨⟨O,O⟩,fun(x:Int)hx=>?_⟩;have hx:l[j]? =some x:=hx;have hxb:=hb x (qD hx);have ta:=jd l hj;rw[hx,qF]at ta;rw[show((j:Int)+1).toNat =j+1 by omega]at h7;have hm:=qW (rest*4294967296+x.toNat) hd;have hq:(rest*4294967296+x.toNat)/d<4294967296:=by rw[qB hd];omega
  have hqr:rest*4294967296+x.toNat=(rest*4294967296+x.toNat)/d*d+(rest*4294967296+x.toNat) % d:=(Nat.div_add_mod' _ _).symm;conv=>whnf
  refine gZn (y278i rest x.toNat d h3 O hd2 rfl O rfl) ?_;generalize (rest*4294967296+x.toNat)/d=q at hq hqr;generalize (rest*4294967296+x.toNat) % d=r at hm hqr;conv=>whnf
  refine⟨⟨O,OD⟩,?_⟩;conv=>whnf
  refine⟨OD,?_⟩;conv=>whnf
  have hs:=kb out j (q:Int) O;rw[h6 j O,Int.toNat_zero,qU,w4,qS]at hs;refine⟨((j:Int)-1,out.set j (q:Int),r),⟨⟨OD,OD,hm⟩,⟨h4.set O,by simp only[qX];exact h5⟩,fun k hk=>by simp only at hk⊢;rw[qN O];exact h6 k O,?_⟩,by show((j:Int)-1+1).toNat <((j:Int)+1).toNat;omega,?_⟩
  .show val (out.set j (q:Int))*d+4294967296^((j:Int)-1+1).toNat *r+val (l.take ((j:Int)-1+1).toNat)=val l;rw[show((j:Int)-1+1).toNat =j by omega,hs,<-h7,ta,qH];exact zr1 hqr
  exact KZ0
 .have h8:¬0<=i:=Z3 h8;rw[show(i+1).toNat =0 by omega,Nat.pow_zero,Nat.one_mul,List.take_zero]at h7;have h7:val out*d+rest=val l:=by rw[<-h7];rfl
  have e1:val l/d=val out:=by
   rw[<-h7,q4,Nat.mul_add_div hd,Nat.div_eq_of_lt h3];rfl
  have e2:val l % d=rest:=by
   rw[<-h7,q4,Nat.mul_add_mod,w6 h3]
  have hp:=za3 h4;rw[h5]at hp;rw[e1,e2,hp];conv=>whnf
  exact⟨lr rfl,lh0⟩
theorem y257(x:Nat)(hx:x<4294967296):Fn 302 [] [.int .u32 x] (.int .i64 (32-(bl x:Int))) []:=by
 have h113:=y113 x hx;rw[zb0 O]at h113;have hb:bl x<=32:=vr.2 hx;refine fY4 Tryz.func302 rfl ?_;refine gYn h113 ?_;exact⟨ai0 (by rw[wI O]),lh0⟩
theorem qdn{w' w P d r Bj x vt u c b m B bor q Bi y:Nat}(xo:w'+P*d=w+P*r)(hI:w+Bj*(x*vt)=u+P*(c+b))(hr:r+m+b=d+B*bor)(hs:x*y+c=m+B*q)(hP:P=Bj*Bi):
 w'+Bj*(x*(vt+Bi*y))=u+P*B*(q+bor):=by
 have e1:P*(x*y+c)=P*(m+B*q):=by rw[hs]
 have e2:P*(r+m+b)=P*(d+B*bor):=by rw[hr]
 grind
theorem qdm{w' w P d r Bj x vt u c b B bor:Nat}(xo:w'+P*d=w+P*r)(hI:w+Bj*(x*vt)=u+P*(c+b))(hr:r+c+b=d+B*bor):
 w'+Bj*(x*vt)=u+P*B*bor:=by
 have e2:P*(r+c+b)=P*(d+B*bor):=by rw[hr]
 grind
theorem zxt(s:Nat)(hs:s<18446744073709551616):wA.wrap (q1 64 (s:Int)&&& q1 64 4294967295).toNat =((s % 4294967296:Nat):Int):=by
 have e1:(q1 64 (s:Int)).toNat =s:=by rw[BitVec.ofInt_natCast,BitVec.toNat_ofNat];exact w6 hs
 have e2:(q1 64 4294967295).toNat =2^32-1:=OA;rw[BitVec.toNat_and,e1,e2,Nat.and_two_pow_sub_one_eq_mod];exact wUn (by have:=qW s (OA:0<2^32);omega)
theorem zn9(d m b:Nat)(hd:d<4294967296)(hm:m<4294967296)(hb:b<=1):
 ∃r bor:Nat,r<4294967296/\bor<=1/\r+m+b=d+4294967296*bor/\wB.wrap (wA.wrap (wA.wrap ((d:Int)-(m:Int))-(b:Int)))=(r:Int)/\(wA.wrap (wA.wrap ((d:Int)-(m:Int))-(b:Int))).fdiv 9223372036854775808=(bor:Int):=by
 have e:wA.wrap (wA.wrap ((d:Int)-(m:Int))-(b:Int))=if d<m+b then(d:Int)-m-b+18446744073709551616 else(d:Int)-m-b:=by
  simp[wD,wC,wE];split<;>omega
 by_cases h:d<m+b
 .refine⟨d+4294967296-m-b,1,O,O,O,?_,?_⟩
  .rw[e,Z6 h];simp[wD,wC,wE];omega
  .rw[e,Z6 h,qA _ OA];omega
 .refine⟨d-m-b,0,O,O,O,?_,?_⟩
  .rw[e,Z7 h];simp[wD,wC,wE];omega
  .rw[e,Z7 h,qA _ OA];omega
def T4w:Tab:= {T4 with nb:=(265,1)::T4.nb,of:=304::T4.of,wn:= [116]}
theorem qe5:TabOK Tryz.prog T4w:=zfd Z Z
abbrev bU(u:List Int):Hp:= [(1000001,.buf 101 .u32 u)]
noncomputable def qb3:Code:=Tryz.f304.body.getD .skip
def tkN(u:List Int)(j x:Nat)(v:List Int):List Int:=
 zdk u.length (if val u<4294967296^j*(x*val v)then val u+4294967296^(j+v.length+1)-4294967296^j*(x*val v)else val u-4294967296^j*(x*val v))
theorem y260(u v:List Int)(j x:Nat)(hu:LB u)(hv:LB v)(hj:j+v.length<u.length)(hul:u.length<=200000)(hx:x<4294967296)(hz:Zr (j+v.length+1) u):
 Fn 304 (bU u) [.ow 1000001 1 j (v.length+1),.sl .u32 v,.int .u64 x] (.bool (decide (val u<4294967296^j*(x*val v)))) (bU (tkN u j x v)):=by
 refine zcp rfl (zei (code:=qb3) qe5 Tryz.func304 rfl rfl [1000001] ?_);conv=>whnf
 refine zb9 qe5 hmx [] ?_;conv=>whnf
 refine⟨Nat×List Int×Nat×Nat,fun s=>(s.1<=v.length/\s.2.2.1<4294967296/\s.2.2.2<=1)/\(LB s.2.1/\s.2.1.length=u.length)/\(∀k,k<j\/j+s.1<=k->s.2.1[k]? =u[k]?)/\val s.2.1+4294967296^j*(x*val (v.take s.1))=val u+4294967296^(j+s.1)*(s.2.2.1+s.2.2.2),fun s=> [(16,.int .i64 s.1),(7,.int .u64 s.2.2.1),(8,.int .u64 s.2.2.2)],fun s=>bU s.2.1,fun s=>v.length-s.1,(0,u,0,0),?_,?_,fun s hs=>?_⟩
 .exact⟨⟨OC,OC,OC⟩,⟨hu,rfl⟩,fun _ _=>rfl,by simp[val]⟩
 .exact KZ0
 refine gYe ?_;obtain⟨i,w,c,b⟩:=s;obtain⟨⟨h1,h2,h3⟩,⟨h4,h5⟩,h6,h7⟩:=hs;simp only at h1 h2 h3 h4 h5 h6 h7;refine brI (fun h8=>?_) (fun h8=>?_)
 .have hi:i<v.length:=by simp only[Z4]at h8;omega
  conv=>whnf
  refine⟨⟨O,OD⟩,fun(y:Int)hy=>?_⟩;have hy:v[i]? =some y:=by simpa using hy
  have hyb:=hv y (qD hy);have tv:=jd v hi;rw[hy,qF]at tv;conv=>whnf
  refine⟨OA,?_⟩;conv=>whnf
  refine⟨⟨O,OD⟩,?_⟩;conv=>whnf
  refine⟨OD,fun(d:Int)hd=>?_⟩;have hd:w[j+i]? =some d:=by simpa using hd
  have hdb:=h4 d (qD hd);have hxy:=zoy (a:=(x:Int)) (b:=y) O O;have es:wA.wrap (wA.wrap ((x:Int)*wA.wrap y)+(c:Int))=((x*y.toNat+c:Nat):Int):=by
   have e0:((x*y.toNat:Nat):Int)=(x:Int)*y:=by rw[w8,show((y.toNat:Nat):Int)=y by omega]
   rw[wU (x:=y) O,wU (x:=(x:Int)*y) O,wU O,Int.natCast_add,e0]
  have hsb:x*y.toNat+c<18446744073709551616:=by
   have:x*y.toNat<=4294967295*4294967295:=qM O O;omega
  have hmd:=Nat.mod_add_div (x*y.toNat+c) 4294967296;have hmlt:=qW (x*y.toNat+c) (OA:0<4294967296);obtain⟨r,bor,hr1,hb1,hrb,er,eb⟩:=zn9 d.toNat ((x*y.toNat+c) % 4294967296) b O hmlt h3;have em:=zxt (x*y.toNat+c) hsb;have edd:wA.wrap d=((d.toNat:Nat):Int):=by rw[wU O];omega
  have er:wB.wrap (wA.wrap (wA.wrap (wA.wrap d-wA.wrap (q1 64 (wA.wrap (wA.wrap ((x:Int)*wA.wrap y)+(c:Int)))&&& q1 64 4294967295).toNat)-(b:Int)))=(r:Int):=by rw[es,em,edd,er]
  have eb:(wA.wrap (wA.wrap (wA.wrap d-wA.wrap (q1 64 (wA.wrap (wA.wrap ((x:Int)*wA.wrap y)+(c:Int)))&&& q1 64 4294967295).toNat)-(b:Int))).fdiv 9223372036854775808=(bor:Int):=by rw[es,em,edd,eb]
  have ec:(wA.wrap (wA.wrap ((x:Int)*wA.wrap y)+(c:Int))).fdiv 4294967296=(((x*y.toNat+c)/4294967296:Nat):Int):=by
   rw[es,qA _ OA];rfl
  have hs:=kb w (j+i) (r:Int) O;rw[hd,qF,qS]at hs;have hq:(x*y.toNat+c)/4294967296<4294967296:=O;have key:=qdn (y:=y.toNat) (Bi:=4294967296^i) hs h7 hrb hmd.symm (w7 _ _ _);generalize (x*y.toNat+c)/4294967296=q at ec hq key;conv=>whnf
  refine⟨OA,?_⟩;conv=>whnf
  refine⟨⟨O,OD⟩,?_⟩;conv=>whnf
  refine⟨OD,?_⟩;conv=>whnf
  refine⟨(i+1,w.set (j+i) (r:Int),q,bor),⟨⟨OD,OD,hb1⟩,⟨h4.set O,by simp only[qX];exact h5⟩,fun k hk=>by simp only at hk⊢;rw[qN O];exact h6 k O,?_⟩,by show v.length-(i+1)<v.length-i;omega,?_⟩
  .show val (w.set (j+i) (r:Int))+4294967296^j*(x*val (v.take (i+1)))=val u+4294967296^(j+(i+1))*(q+bor);rw[tv,<-Nat.add_assoc j i 1,qH];exact key
  ((conv=>whnf);refine And.intro ?_ ?_;repeat' first|refine lc ?_ ?_|refine lh1 ?_ ?_|refine bc0 ?_|exact KXZ|refine lg0 ?_|refine lt0 ?_)
  .exact ai0 ec
  .exact ai0 eb
  .exact ai0 (by rw[wI OD];simp only;omega)
  .exact bb0 (congrArg (fun z=>w.set (j+i) z) er)
 .have hi:i=v.length:=by simp only[Z5]at h8;omega
  subst hi;rw[qG]at h7;conv=>whnf
  refine⟨⟨O,O⟩,?_⟩;conv=>whnf
  refine⟨OD,fun(d:Int)hd=>?_⟩;have hd:w[j+v.length]? =some d:=by simpa using hd
  have hdb:=h4 d (qD hd);obtain⟨r,bor,hr1,hb1,hrb,er,eb⟩:=zn9 d.toNat c b O h2 h3;have edd:wA.wrap d=((d.toNat:Nat):Int):=by rw[wU O];omega
  have er:wB.wrap (wA.wrap (wA.wrap (wA.wrap d-(c:Int))-(b:Int)))=(r:Int):=by rw[edd,er]
  have eb:(wA.wrap (wA.wrap (wA.wrap d-(c:Int))-(b:Int))).fdiv 9223372036854775808=(bor:Int):=by rw[edd,eb]
  have hs:=kb w (j+v.length) (r:Int) O;rw[hd,qF,qS]at hs;have key:=qdm hs h7 hrb;have hzw:Zr (j+v.length+1) (w.set (j+v.length) (r:Int)):=fun k hk=>by
   rw[qN O,h6 k O];exact hz k hk
  have hLB:LB (w.set (j+v.length) (r:Int)):=h4.set O;have hlt:=zuy hLB hzw;have hp:=za3 hLB;rw[qX,h5]at hp;rw[<-qH]at key;have hres:decide (val u<4294967296^j*(x*val v))=((bor:Int)==1)/\tkN u j x v=w.set (j+v.length) (r:Int):=by
   unfold tkN;rw[<-hp];generalize val (w.set (j+v.length) (r:Int))=W at key hlt;generalize 4294967296^(j+v.length+1)=Q at key hlt;generalize 4294967296^j*(x*val v)=D at key;rcases(by omega:bor=0\/bor=1)with e|e
   .subst e;rw[qU,w4]at key;rw[Z7 O,Z9 O];exact⟨rfl,congrArg (zdk u.length) O⟩
   .subst e;rw[Nat.mul_one]at key;rw[Z6 O,Z8 O];exact⟨rfl,congrArg (zdk u.length) O⟩
  rw[hres.1,hres.2];conv=>whnf
  refine⟨⟨O,O⟩,?_⟩;conv=>whnf
  refine⟨OD,?_⟩;conv=>whnf
  refine⟨OA,?_⟩;conv=>whnf
  refine⟨ab0 ?_,lh1 (bb0 ?_) lh0⟩
  .exact congrArg (fun z:Int=>z==1) eb
  .exact congrArg (fun z=>w.set (j+v.length) z) er
theorem qc8(a:List Int)(n:Nat)(hb:LB a)(ha:a.length<=100000)(hn:n<=100000):Fn 265 [] [.sl .u32 a,.int .i64 n] (.own 2000000) [(2000000,.buf 101 .u32 (zgh a n))]:=by
 have htl:=kr a;have h216:=zhv a O;have hb2:=hb.tr;unfold zgh;generalize trL a=t at htl h216 hb2;refine qr (code:=zup) hT4 hmx Tryz.func265 rfl rfl (ex:= [46]) ?_;conv=>whnf
 refine jm hT4 hmx 4 (fun _:Unit=>⟨[.sl .u32 t,.int .i64 n,.any,.any,.any,.own 20,.int .u64 0]++uo 40,[(20,.buf 101 .u32 (qQ (n/32) 0)),(38,.dead),(100038,.free),(1500038,.free),(46,.free),(100046,.free),(1500046,.free)]⟩) (fun _=>Z) ?_ (fun _=>?_)
 .have hq:wF.wrap ((n:Int).tdiv 32)=((n/32:Nat):Int):=by
   rw[show(n:Int).tdiv 32=((n/32:Nat):Int)from qZ n 32,wI O]
  conv=>whnf
  refine gYn h216 ?_;refine⟨O,?_⟩;conv=>whnf
  refine⟨O,?_⟩;conv=>whnf
  rw[hq,wI (x:=((n/32:Nat):Int)+(t.length:Int)) O,wI O];refine⟨⟨O,O,O⟩,?_⟩;conv=>whnf
  refine⟨(),?_⟩;exact KZ0
 .refine zdt 38 20 Z ?_;conv=>whnf
  refine ww hT4 hmx ?_;conv=>whnf
  refine⟨Nat×List Int×Int,fun x=>x.1<=t.length/\x.2.1.length=n/32+x.1/\(0<=x.2.2/\x.2.2<2^(n % 32))/\x.2.1++xv (n % 32) (t.drop x.1) x.2.2=qQ (n/32) 0++xv (n % 32) t 0,fun x=> [(23,.int .i64 x.1),(5,.own 38),(6,.int .u64 x.2.2)],fun x=> [(38,.buf 101 .u32 x.2.1)],fun x=>t.length-x.1,(0,qQ (n/32) 0,0),⟨OC,OC,⟨OC,by exact Int.pow_pos OA⟩,OC⟩,?_,fun x hx=>?_⟩
  .exact KZ0
  refine gYe ?_;obtain⟨i,out,c⟩:=x;obtain⟨hi1,hi2,hi3,hi4⟩:=hx;simp only at hi1 hi2 hi3 hi4;have hp31:(2:Int)^(n % 32)<=2147483648:=by
   have h1:2^(n % 32)<=2^31:=qJ OA O;have h2:(2:Int)^(n % 32)=((2^(n % 32):Nat):Int):=OC;rw[h2];omega
  refine brI (fun h1=>?_) (fun h1=>?_)
  .have hi:i<t.length:=by simp only[Z4]at h1;omega
   conv=>whnf
   refine⟨⟨O,OD⟩,fun(x:Int)hx=>?_⟩;have hx:t[i]? =some x:=by simpa using hx
   have hxb:=hb2 x (qD hx);have hst:=zms (n:=n) hxb hi3;rw[qh hx]at hi4;simp only[xv]at hi4;obtain⟨s,hs⟩:∃s,x*2^(n % 32)+c=s:=⟨_,rfl⟩;rw[hs]at hst hi4;have hs0:0<=s/\s<4294967296*2^(n % 32):=by
    have h1:0<=x*2^(n % 32):=w9 hxb.1 (by exact we OA);have h2:x*2^(n % 32)<=4294967295*2^(n % 32):=Int.mul_le_mul_of_nonneg_right O (by exact we OA);omega
   conv=>whnf
   rw[wU (x:=x) O];refine⟨O,?_⟩;conv=>whnf
   refine⟨by have h9:((n:Int).tmod 32)=((n % 32:Nat):Int):=w0 n 32;omega,?_⟩;conv=>whnf
   refine⟨by simp only[qT,qY];omega,?_⟩;conv=>whnf
   refine⟨O,?_⟩;conv=>whnf
   refine⟨(i+1,out++ [s % 4294967296],s/4294967296),⟨OD,by simp only[List.length_append,qT,qY];omega,⟨OD,OD⟩,by rw[List.append_assoc];exact hi4⟩,by show t.length-(i+1)<t.length-i;omega,?_⟩;have e1:wB.wrap s=s % 4294967296:=by simp[wD,wC,wE]
   have e2:s.fdiv 4294967296=s/4294967296:=qA _ OA
   ((conv=>whnf);refine And.intro ?_ ?_;repeat' first|refine lc ?_ ?_|refine lh1 ?_ ?_|refine bc0 ?_|exact KXZ|refine lg0 ?_|refine lt0 ?_)
   .exact ai0 ((congrArg (fun z:Int=>z.fdiv 4294967296) hst).trans e2)
   .exact ai0 (by rw[wI OD];simp only;omega)
   .exact bb0 (by
     show out++ [_]=out++ [s % 4294967296];rw[<-e1,<-hst];rfl)
   all_goals trace_state
  .have hi:¬i<t.length:=by simp only[Z5]at h1;omega
   rw[List.drop_of_length_le O]at hi4;simp only[xv]at hi4;conv=>whnf
   refine⟨by simp only[qT,qY];omega,?_⟩;conv=>whnf
   refine⟨lr rfl,lh1 (bb0 ?_) lh0⟩;rw[<-hi4];show out++ [wB.wrap c]=out++ [c]
   congr 2
   simp[wD,wC,wE];omega
theorem zxd(K J w B:Nat):(K*(w*B))*(J*B)=J*K*(w*B*B):=by grind
theorem zpo(K J V2 r:Nat):r*J+K*V2*J=V2*(J*K)+r*J:=by grind
theorem qbs{B J K U V v1 v0 u2 u1 u0 r r':Nat}(q0:0<J)(hr:r<J*K)(hr':r'<K)(eu:U=r+J*K*((u2*B+u1)*B+u0))(ev:V=r'+K*(v1*B+v0))(hV:K*B<=V)(hW:U<V*(J*B))(b2:v0<B):
 0<v1/\u2<=v1/\∀x,x<B->x*(v1*B+v0)<=(u2*B+u1)*B+u0->(∀z,z<B->z*(v1*B+v0)<=(u2*B+u1)*B+u0->z<=x)->U<(x+1)*(V*J)/\x*(V*J)<=U+V*J:=by
 have hv1:0<v1:=by
  refine Nat.pos_of_ne_zero fun e=>?_
  rw[e,w5,Nat.zero_add]at ev;have:K*(v0+1)<=K*B:=qE _ O;rw[qV]at this;omega
 have hK:0<K:=O;have ht:u2<=v1:=by
  refine ws.1 fun hc=>?_
  have h1:J*K*((v1+1)*B*B)<=J*K*((u2*B+u1)*B+u0):=by
   refine qE _ ?_;have h1:(v1+1)*B<=u2*B:=q2 _ hc;have h2:(v1+1)*B*B<=(u2*B+u1)*B:=q2 _ O;omega
  have h2:V*(J*B)<=(K*((v1+1)*B))*(J*B):=by
   refine q2 _ ?_;have h1:K*(v1*B+v0+1)<=K*((v1+1)*B):=qE _ (by rw[qC];omega);rw[qV]at h1;omega
  have h3:(K*((v1+1)*B))*(J*B)=J*K*((v1+1)*B*B):=zxd _ _ _ _;omega
 refine⟨hv1,ht,fun x g1 g2 g3=>?_⟩;generalize (u2*B+u1)*B+u0=T at*;generalize hV2:v1*B+v0=V2 at*;have hV2b:B<=V2:=by
  have:1*B<=v1*B:=q2 _ hv1;omega
 refine qfa (P:=J*K) (T:=T) (V2:=V2) (V0:=r'*J) (B:=B) ?_ ?_ ?_ ?_ g1 g2 g3 ?_ ?_
 .rw[q4];omega
 .rw[qC,q4];omega
 .rw[ev,qK];exact zpo _ _ _ _
 .rw[q4];exact Nat.mul_lt_mul_of_pos_left hr' q0
 .rw[q3];exact hW
 .have h1:B*(J*K)<=V2*(J*K):=q2 _ hV2b;have h2:V*J=V2*(J*K)+r'*J:=by rw[ev,qK,zpo]
  omega
theorem zsq(x a b c:Nat)(h:a+b=c):x^a*x^b=x^c:=by rw[<-w7,h]
theorem qbr{u v:List Int}{j:Nat}(hu:LB u)(hv:LB v)(hn:2<=v.length)(hj:j+v.length<u.length)(hV:4294967296^(v.length-1)<=val v)(hW:val u<val v*4294967296^(j+1)):
 Zr (j+v.length+1) u/\0<(v[v.length-1]?.getD 0).toNat /\(u[j+v.length]?.getD 0).toNat <=(v[v.length-1]?.getD 0).toNat /\
 ∀x,x=gsN (u[j+v.length]?.getD 0).toNat (u[j+v.length-1]?.getD 0).toNat (u[j+v.length-2]?.getD 0).toNat (v[v.length-1]?.getD 0).toNat (v[v.length-2]?.getD 0).toNat ->
  x<4294967296/\val u<(x+1)*(val v*4294967296^j)/\x*(val v*4294967296^j)<=val u+val v*4294967296^j:=by
 have hz:Zr (j+v.length+1) u:=by
  refine zx3 hu (qP hW ?_);have h1:=kc hv v.length (qR _);rw[qG]at h1;rw[<-zsq 4294967296 v.length (j+1) (j+v.length+1) O];exact q2 _ O
 obtain⟨k,hk⟩:∃k,v.length=k+2:=⟨v.length-2,O⟩;rw[hk]at hz hj hV⊢;obtain⟨r,hr,eu⟩:=top3 (k:=j+k) hu O (fun i hi=>hz i O);obtain⟨r',hr',ev⟩:=top2 (k:=k) hv O;have b0:=hu.at (j+k+2);have b1:=hu.at (j+k+1);have b2:=hu.at (j+k);have c0:=hv.at (k+1);have c1:=hv.at k;have p1:4294967296^(k+2-1)=4294967296^k*4294967296:=qH ..;have p2:4294967296^(j+k)=4294967296^j*4294967296^k:=w7 ..;have p3:4294967296^(j+1)=4294967296^j*4294967296:=qH ..;rw[p1]at hV;rw[p3]at hW;rw[p2]at hr eu;have q0:0<4294967296^j:=Nat.pow_pos OA;have key:=qbs q0 hr hr' eu ev hV hW O;obtain⟨k1,k2,k3⟩:=key;refine⟨hz,k1,k2,fun x hx=>?_⟩;obtain⟨g1,g2,g3⟩:=zw2 (u[j+k+2]?.getD 0).toNat (u[j+k+1]?.getD 0).toNat (u[j+k]?.getD 0).toNat (v[k+1]?.getD 0).toNat (v[k]?.getD 0).toNat k1 O k2 O O O;have hx:x=gsN (u[j+k+2]?.getD 0).toNat (u[j+k+1]?.getD 0).toNat (u[j+k]?.getD 0).toNat (v[k+1]?.getD 0).toNat (v[k]?.getD 0).toNat :=hx;rw[<-hx]at g1 g2 g3;exact⟨g1,k3 x g1 g2 g3⟩
theorem dv_no{vq V U A J x:Nat}(h:vq*V+U=A)(h1:¬U<J*(x*V))(h2:U<(x+1)*(V*J)):(vq+J*x)*V+(U-J*(x*V))=A/\U-J*(x*V)<V*J:=by
 have e1:(vq+J*x)*V=vq*V+J*(x*V):=by rw[qK,q3]
 have e2:(x+1)*(V*J)=J*(x*V)+V*J:=by rw[qC,<-q3,q4 J]
 omega
theorem qfi{vq V U A J x:Nat}(h:vq*V+U=A)(h1:U<J*(x*V))(h3:x*(V*J)<=U+V*J):1<=x/\(vq+J*(x-1))*V+(U+J*V-J*(x*V))=A/\U+J*V-J*(x*V)<V*J:=by
 cases x with
 |zero=>rw[w5,qU]at h1;omega
 |succ x=>
  have e1:(vq+J*x)*V=vq*V+J*(x*V):=by rw[qK,q3]
  have e2:(x+1)*(V*J)=J*(x*V)+V*J:=by rw[qC,<-q3,q4 J]
  have e3:J*((x+1)*V)=J*(x*V)+J*V:=by rw[qC,qI]
  have e4:V*J=J*V:=q4 _ _;rw[show x+1-1=x from rfl];omega
theorem zon{l:List Int}(h:LB l):val l<4294967296^l.length:=by
 have:=kc h l.length (qR _)
 rwa [qG]at this
theorem tk_no{u v:List Int}{j x:Nat}(hu:LB u)(h:¬val u<4294967296^j*(x*val v)):val (tkN u j x v)=val u-4294967296^j*(x*val v):=by
 unfold tkN;rw[Z7 h];have:=zon hu;exact yu _ _ O
theorem qdl{u v:List Int}{j x:Nat}(hj:j+v.length<u.length)(h:val u<4294967296^j*(x*val v))(hx:4294967296^j*(x*val v)<=val u+4294967296^(j+v.length+1)):
 val (tkN u j x v)+4294967296^j*(x*val v)=val u+4294967296^(j+v.length+1)/\Zr (j+v.length+1) (tkN u j x v):=by
 have hp:4294967296^(j+v.length+1)<=4294967296^u.length:=qJ OA O;have e:val (tkN u j x v)=val u+4294967296^(j+v.length+1)-4294967296^j*(x*val v):=by
  unfold tkN;rw[Z6 h];refine yu _ _ ?_;generalize 4294967296^(j+v.length+1)=Q at*;generalize 4294967296^u.length=Q2 at*;omega
 refine⟨O,zx3 (xr _ _) ?_⟩;show val (tkN u j x v)<_;rw[e];generalize 4294967296^(j+v.length+1)=Q at*;omega
theorem zrg(u v:List Int)(j x:Nat):(tkN u j x v).length =u.length:=yz _ _
theorem zzg(u v:List Int)(j x:Nat):LB (tkN u j x v):=xr _ _
theorem zzb{w' w P d r Bj vt u c B q y Bi:Nat}(xo:w'+P*d=w+P*r)(hI:w+P*c=u+Bj*vt)(hs:d+y+c=r+B*q)(hP:P=Bj*Bi):
 w'+P*B*q=u+Bj*(vt+Bi*y):=by
 have e1:P*(d+y+c)=P*(r+B*q):=by rw[hs]
 grind
end Go.Proofs.YtlbmkjbgfkgcmaaGreatDoor

namespace Go.Sx
def isq(a:Nat):Nat->Nat
 |0=>0
 |f+1=>if(f+1)*(f+1)<=a then f+1 else isq a f
def sqN(a:Nat):Nat:=isq a a
theorem zo8(a:Nat):∀f,a<(f+1)*(f+1)->isq a f*isq a f<=a/\a<(isq a f+1)*(isq a f+1)
 |0,h=>by simp only[isq];exact⟨O,h⟩
 |f+1,h=>by
  simp only[isq];split
  .exact⟨by assumption,h⟩
  .exact zo8 a f O
theorem zfr(a:Nat):sqN a*sqN a<=a/\a<(sqN a+1)*(sqN a+1):=by
 refine zo8 a a ?_;rw[qC,qV];omega
theorem qdr{x y:Nat}(h:x*x<y*y):x<y:=by
 refine Nat.not_le.1 fun hc=>?_
 have:=qM hc hc;omega
theorem zic{a x:Nat}(h1:x*x<=a)(h2:a<(x+1)*(x+1)):sqN a=x:=by
 obtain⟨h3,h4⟩:=zfr a;have a1:=qdr (qO h1 h4);have a2:=qdr (qO h3 h2);omega
theorem zs5{a x y:Nat}(hx:0<x)(hy:y=(x+a/x)/2):a<(y+1)*(y+1):=by
 have h1:a<(a/x+1)*x:=by
  have:=w2 (a:=a) hx;rw[qC];omega
 generalize a/x=q at*;have h2:x+q+1<=2*(y+1):=O;have h3:(x+q+1)*(x+q+1)<=2*(y+1)*(2*(y+1)):=qM h2 h2;have h4:4*((q+1)*x)<=(x+q+1)*(x+q+1):=by
  have e:x+q+1=x+(q+1):=O;rw[e];generalize q+1=t;rcases Nat.le_total x t with h|h
  .obtain⟨d,rfl⟩:=Nat.le.dest h;have e2:(x+(x+d))*(x+(x+d))=4*((x+d)*x)+d*d:=by
    simp only[qK,qI,q4 d x];omega
   omega
  .obtain⟨d,rfl⟩:=Nat.le.dest h;have e2:(t+d+t)*(t+d+t)=4*(t*(t+d))+d*d:=by
    simp only[qK,qI,q4 d t];omega
   omega
 have h5:2*(y+1)*(2*(y+1))=4*((y+1)*(y+1)):=by
  rw[q3,Nat.mul_left_comm (y+1),<-q3]
 omega
theorem zqk{a x y:Nat}(hx:0<x)(hy:y=(x+a/x)/2)(h:x<=y):x*x<=a:=by
 have h1:a/x*x<=a:=w1 a x;have h2:x<=a/x:=O;exact wi (q2 x h2) h1
