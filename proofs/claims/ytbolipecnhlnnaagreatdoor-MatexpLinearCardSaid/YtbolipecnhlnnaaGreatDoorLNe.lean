/- matexp.both. -/
import Derived.Test.YtbolipecnhlnnaaGreatDoorLNd
set_option linter.all false
open Bool renaming and_eq_true->q4,not_eq_true'->q7,eq_iff_iff->qA
open List renaming mem_of_getElem?->q0,getElem?_eq_getElem->q3,getElem?_zipWith->q6,any_eq_false->q8,zipWith->q9,length_map->qB,any_cons->qC,mem_map->qD
open Nat renaming zero_le->q5
namespace Go.Proofs.YtbolipecnhlnnaaGreatDoor
open Go Go.Sx
set_option maxRecDepth 100000
set_option maxHeartbeats 8000000
def qeo(a:Mx)(t:Iv)(p q:Int)(s:Nat):Option MPr:=
 let x:=zc1 q s (znr (scM a (zn t (-(s:Int))) q) (zn t (-(s:Int))) q)
 if(knM (rdM x.exp p)&&knM (rdM x.phi p))=true then some ⟨rdM x.exp p,rdM x.phi p⟩else none
def pR:Option MPr->AV
 |some x=>.tup [.agg [.sl .vs x.exp,.sl .vs x.phi],.int .i64 0]
 |none=>.tup [.agg [.sl .vs [],.sl .vs []],.int .i64 13]
theorem zkh{h h':Hp}:leA h h' (.tup [.agg [.nilsl,.nilsl],.int .i64 13]) (pR none):=lt0 (lc (lg0 (lc (li0 rfl) (lc (li0 rfl) ln0))) (lc (lr rfl) ln0))
theorem zsk{n:Nat}{m:Mx}(vm:VM n n m){h:Iv}(vh:VI h){p:Int}(hp:pcB p=true):VM n n (znr m h p).exp /\VM n n (znr m h p).phi :=by
 have hui:VI (zx (nmM m p).1):=.inl (ziu (zko (a:=m) (p:=p) vm.el).1);have hid:VM n n (idM m.length):=by rw[vm.len];exact zrl vm.n1
 have key:∀(f k:Nat)(s:MSt)(r:Iv),k+f<=2000->1<=k->VM n n s.term->VM n n s.exp->VM n n s.phi->VI r->VM n n (zad m (zx (nmM m p).1) p f k s r).1.exp /\VM n n (zad m (zx (nmM m p).1) p f k s r).1.phi /\VI (zad m (zx (nmM m p).1) p f k s r).2:=by
  intro f
  induction f with
  |zero=>exact fun k s r _ _ h1 h2 h3 h4=>⟨h2,h3,h4⟩
  |succ f ih=>
   intro k s r hk hk1 h1 h2 h3 h4;have hb:=zgd (k:=k) hk1 O hp;have hb2:=zgd (k:=k+1) O O hp;have ht:=yr (zdf h1 vm hp).2 hb hp;have hE:=(zbv h2 ht hp).2;have hF:=(zbv h3 (yr ht hb2 hp) hp).2;have hr:=jg (jg h4 hui hp) hb hp;unfold zad;split
   .exact⟨hE,hF,hr⟩
   .exact ih (k+1) _ _ O O ht hE hF hr
 obtain⟨h1,h2,h3⟩:=key 700 1 ⟨idM m.length,idM m.length,idM m.length⟩ (whI 1) O O hid hid hid (uz OA);exact⟨zv6 h1 h3 hp,yr (zv6 h2 h3 hp) vh hp⟩
theorem zvm{n:Nat}{x:MPr}(h1:VM n n x.exp)(h2:VM n n x.phi){q:Int}(hq:pcB q=true):VM n n (znh q x).exp /\VM n n (znh q x).phi :=⟨(zdf h1 h1 hq).2,(zbv h2 (zdf h1 h2 hq).2 hq).2⟩
noncomputable def qep:Code:=Tryz.f57.body.getD .skip
abbrev frB(t:Iv)(B10:Blk):Hp:= [(4,.cells (ivC t)),(6,.cells [.nilsl,.nilsl]),(10,B10),(13,.free),(14,.free)]++G0
theorem n43c{n:Nat}{a:Mx}(va:VM n n a){t:Iv}(vt:VI t)(p:Int){q:Int}(hq:pcB q=true)(s:Nat)(hs:s<=100)(hu:bI (pw 2) (zx (nmM (scM a (zn t (-(s:Int))) q) q).1)):
 SemOK Tryz.prog TM Tryz.f57.results.toList [] (pR (qeo a t p q s)) G0 (zev 4 (zev 2 qep))
  ⟨[.sl .vs a,.any,.int .i64 p,.any,.ptr 4 0,.any,.ptr 6 0,.int .i64 0,.int .i64 q,.any,.any,.any,.int .i64 s]++jr 95,frB t .free⟩:=by
 have n1:=va.n1;have vh:=zbb vt (-(s:Int));have vsc:=yr va vh hq;have c26:Fn 130 G0 [.agg (ivC t),.int .i64 (-(s:Int))] (.agg (ivC (zn t (-(s:Int))))) G0:=i191 t vt.ri _;have c84:Fn 127 G0 [.sl .vs a,.agg (ivC (zn t (-(s:Int)))),.int .i64 q] (.sl .vs (scM a (zn t (-(s:Int))) q)) G0:=n84 a va.rx _ vh.ri q;have c88:=n88 vsc vh hq hu;obtain⟨v1,v2⟩:=zsk vsc vh hq;unfold qeo;generalize znr (scM a (zn t (-(s:Int))) q) (zn t (-(s:Int))) q=X at*;generalize scM a (zn t (-(s:Int))) q=A at*;generalize zn t (-(s:Int))=h at*;obtain⟨F,hF⟩:∃F,zc1 q s X=F:=⟨_,rfl⟩;simp only[hF];have hw:IntKind.i64.wrap (0-(s:Int))= -(s:Int):=by rw[wI O];omega
 rw[<-hw]at c26;refine wx hTM hmx ?_;conv=>whnf
 refine gZc c26 ?_;conv=>whnf
 refine gZc c84 ?_;conv=>whnf
 refine gZc c88 ?_
 (refine⟨Z,Z,?_⟩;(conv=>whnf))
 refine⟨Nat×MPr,fun z=>(z.1<=s/\VM n n z.2.exp/\VM n n z.2.phi)/\zc1 q (s-z.1) z.2=F,fun z=> [(55,.int .i64 z.1)],fun z=> [(14,.cells [.sl .vs z.2.exp,.sl .vs z.2.phi])],fun z=>s-z.1,(0,X),⟨⟨q5 _,v1,v2⟩,hF⟩,?_,?_⟩
 .exact KZ0
 rintro⟨i,x⟩ ⟨⟨hi,h1,h2⟩,hx⟩;have hi:i<=s:=hi;have hx:zc1 q (s-i) x=F:=hx;have h1:VM n n x.exp:=h1;have h2:VM n n x.phi:=h2
 (refine⟨Z,?_⟩;(conv=>whnf))
 refine brI (fun c=>?_) (fun c=>?_)
 .have c:i<s:=by have:=Z0 c;omega
  obtain⟨d1,d2⟩:=zvm h1 h2 hq;have hx2:zc1 q (s-(i+1)) (znh q x)=F:=by rw[<-hx,(O:s-i=(s-(i+1))+1)];rfl
  have m1:=zdf h1 h2 hq;have e1:=n33 x.exp x.phi h1.rx h2.rx q;have e2:Fn 133 G0 [.sl .vs x.phi,.sl .vs (muM x.exp x.phi q).1,.int .i64 q] (.tup [.sl .vs (znh q x).phi,.int .i64 0]) G0:=n34 h2 m1.2 hq;have e3:Fn 132 G0 [.sl .vs x.exp,.sl .vs x.exp,.int .i64 q] (.tup [.sl .vs (znh q x).exp,.int .i64 (muM x.exp x.exp q).2]) G0:=n33 x.exp x.exp h1.rx h1.rx q;generalize znh q x=x' at*;generalize muM x.exp x.phi q=Y at*;generalize (muM x.exp x.exp q).2=y2 at*;obtain⟨Y1,Y2⟩:=Y;conv=>whnf
  refine gZc e1 ?_;conv=>whnf
  refine gZc e2 ?_;conv=>whnf
  refine gZc e3 ?_;conv=>whnf
  refine⟨(i+1,x'),⟨⟨c,d1,d2⟩,hx2⟩,by show s-(i+1)<s-i;omega,?_⟩;exact KZ0
 .have c:i=s:=by have:=Z1 c;omega
  rw[c,Nat.sub_self]at hx;have hx:x=F:=hx;subst hx;have l1:=h1.len;have l2:=h2.len;have e1:=n89 x.exp h1.ri O (fun r hr=>by rw[h1.row r hr];omega) p;have e2:=n89 x.phi h2.ri O (fun r hr=>by rw[h2.row r hr];omega) p;have r1:=zlu h1 p;have r2:=zlu h2 p;have q1:=n90 (rdM x.exp p) (by rw[r1.len];omega) fun r hr=>by rw[r1.row r hr];omega
  have q2:=n90 (rdM x.phi p) (by rw[r2.len];omega) fun r hr=>by rw[r2.row r hr];omega
  generalize rdM x.exp p=E at*;generalize rdM x.phi p=P at*
  cases hk1:knM E with
  |false=>
   rw[hk1]at q1;rw[Z5 OC];conv=>whnf
   refine gZc e1 ?_;conv=>whnf
   refine gZc e2 ?_
   (refine⟨Z,Z,?_⟩;(conv=>whnf))
   refine gZn q1 ?_;conv=>whnf
   exact⟨zkh,za1⟩
  |true=>
  rw[hk1]at q1
  cases hk2:knM P with
  |false=>
   rw[hk2]at q2;rw[Z5 OC];conv=>whnf
   refine gZc e1 ?_;conv=>whnf
   refine gZc e2 ?_
   (refine⟨Z,Z,?_⟩;(conv=>whnf))
   refine gZn q1 ?_;conv=>whnf
   refine gZn q2 ?_;conv=>whnf
   exact⟨zkh,za1⟩
  |true=>
   rw[hk2]at q2;rw[Z4 (by rfl)];conv=>whnf
   refine gZc e1 ?_;conv=>whnf
   refine gZc e2 ?_
   (refine⟨Z,Z,?_⟩;(conv=>whnf))
   refine gZn q1 ?_;conv=>whnf
   refine gZn q2 ?_;conv=>whnf
   exact⟨lr rfl,za1⟩
theorem zxx{D:Dy}(h0:0<=dv D)(h1:qh D (zcb 256)<=0):qd D<=9:=by
 have h2:=jl.1 h1;rw[uo]at h2;by_cases hn:nm D=0
 .unfold qd;rw[Z4 hn];decide
 .unfold qd;rw[Z5 hn];have h3:=ym (n:=nm D) (e:=D.e) (t:=(bl (nm D):Int)+D.e-1) O hn;have h4:vN (nm D) D.e<=pw 8:=by
   have h5:((256:Int):Rat)=pw 8:=(wq 8).symm;rw[<-h5];have:=zdc (nm D) D.e;unfold dv at h2 h0;split at h2
   .rename_i c;rw[Z4 c]at h0;grind
   .exact h2
  have:=zat.1 (Rat.le_trans h3 h4);omega
theorem zla{a:Mx}{t:Iv}{p:Int}{N:Dy}{b:Bool}(h:nmM (scM a t (min (p+40) 512)) (min (p+40) 512)=(N,b)):
 zlb a t p=if b=false\/0<qh N (zcb 256)then none else qeo a t p (min (p+40) 512) (hvS N).toNat :=by
 have e:((hvS N).toNat :Int)=hvS N:=by unfold hvS;omega
 unfold zlb qeo;simp only[h,e]
theorem n43b{n:Nat}{a:Mx}(va:VM n n a){t:Iv}(kt:KI t)(p:Int){q:Int}(hqq:q=min (p+40) 512)(hq:pcB q=true):
 SemOK Tryz.prog TM Tryz.f57.results.toList [] (pR (zlb a t p)) G0 (zev 2 qep)
  ⟨[.sl .vs a,.any,.int .i64 p,.any,.ptr 4 0,.any,.ptr 6 0,.int .i64 0,.int .i64 q]++jr 99,frB t .free⟩:=by
 have n1:=va.n1;have vsc:=yr va (.inl kt) hq;have c84:Fn 127 G0 [.sl .vs a,.agg (ivC t),.int .i64 q] (.sl .vs (scM a t q)) G0:=n84 a va.rx t kt.ri q;have c85:=n85 (scM a t q) vsc.rx q;have hnd:=zko (a:=scM a t q) (p:=q) vsc.el;obtain⟨N,b,hN⟩:∃N b,nmM (scM a t q) q=(N,b):=⟨_,_,rfl⟩;have hbot:=zla (a:=a) (t:=t) (p:=p) (N:=N) (b:=b) (by rw[<-hqq];exact hN);rw[<-hqq]at hbot;have hub:=fun hb:b=true=>u_bd va kt hq (N:=N) (by rw[hN,hb])
 rw[hN]at c85 hnd;have hN1:VD N:=hnd.1;have hN2:0<=dv N:=hnd.2;have c77:=v77 256 OA;have c86:=v81 hN1 (zjy 256 OA);have c87:=zzx hN1;generalize scM a t q=A at c84 c85
 cases b with
 |false=>
  rw[hbot,Z4 (.inl rfl)];refine wx hTM hmx ?_;conv=>whnf
  refine gZc c84 ?_;conv=>whnf
  refine gZc c85 ?_
  (refine⟨Z,Z,?_⟩;(conv=>whnf))
  exact⟨zkh,za1⟩
 |true=>
  by_cases hc:0<qh N (zcb 256)
  .rw[hbot,Z4 (.inr hc)];refine wx hTM hmx ?_;conv=>whnf
   refine gZc c84 ?_;conv=>whnf
   refine gZc c85 ?_;conv=>whnf
   refine gZc c77 ?_;conv=>whnf
   refine gZn c86 ?_
   (refine⟨Z,Z,?_⟩;(conv=>whnf))
   refine brI (fun c=>?_) (fun c=>?_)
   .conv=>whnf
    exact⟨zkh,za1⟩
   .exact absurd hc (Z1 c)
  .have htop:=zxx hN2 O;have hlow: -100000<=qd N:=by
    have:=hN1.ok;unfold qd;split<;>omega
   rw[hbot,Z5 OE];have hs0:((hvS N).toNat :Int)=hvS N:=by unfold hvS;omega
   have hub:=hub rfl;rw[<-hs0]at hub;have hs1:(hvS N).toNat <=100:=by unfold hvS;omega
   have hs2:((hvS N).toNat :Int)=max 0 (qd N+1):=hs0;generalize (hvS N).toNat =s at*;refine je hTM hmx 4 (fun _:Unit=>⟨[.sl .vs a,.any,.int .i64 p,.any,.ptr 4 0,.any,.ptr 6 0,.int .i64 0,.int .i64 q,.any,.any,.any,.int .i64 s]++jr 95,frB t .free⟩) (fun _=>Z) ?_ (fun _=>n43c va (.inl kt) p hq s hs1 hub);conv=>whnf
   refine gZc c84 ?_;conv=>whnf
   refine gZc c85 ?_;conv=>whnf
   refine gZc c77 ?_;conv=>whnf
   refine gZn c86 ?_
   (refine⟨Z,Z,?_⟩;(conv=>whnf))
   refine brI (fun c=>?_) (fun c=>?_)
   .exact absurd (Z0 c) hc
   .conv=>whnf
    refine gZn c87 ?_;conv=>whnf
    refine⟨(),?_⟩
    ((conv=>whnf);refine And.intro ?_ ?_;repeat' first|refine lc ?_ ?_|refine lh1 ?_ ?_|refine bc0 ?_|exact KXZ|refine lg0 ?_|refine lt0 ?_)
    refine ai0 ?_;rw[hs2,wI O];split<;>omega
theorem n43{n:Nat}{a:Mx}(va:VM n n a){t:Iv}(kt:KI t){p:Int}(hp:pcB p=true):Fn 57 G0 [.sl .vs a,.agg (ivC t),.int .i64 p] (pR (zlb a t p)) G0:=by
 have hpc:=vg hp;have hp2:8<=p/\p<=512:=by
  obtain⟨q,rfl,hq⟩:=yu.1 hp;omega
 have hq:pcB (min (p+40) 512)=true:=by unfold pcB;simp;omega
 obtain⟨q,hqq⟩:∃q,q=min (p+40) 512:=⟨_,rfl⟩;rw[<-hqq]at hq;refine qy (code:=qep) hTM hmx Tryz.func57 rfl rfl (ex:= []) ?_;conv=>whnf
 refine je hTM hmx 2 (fun _:Unit=>⟨[.sl .vs a,.any,.int .i64 p,.any,.ptr 4 0,.any,.ptr 6 0,.int .i64 0,.int .i64 q]++jr 99,frB t .free⟩) (fun _=>Z) ?_ (fun _=>n43b va kt p hqq hq);conv=>whnf
 refine⟨(),?_⟩
 ((conv=>whnf);refine And.intro ?_ ?_;repeat' first|refine lc ?_ ?_|refine lh1 ?_ ?_|refine bc0 ?_|exact KXZ|refine lg0 ?_|refine lt0 ?_)
 refine ai0 ?_;rw[hqq,wI O];split<;>omega
theorem kB_eq{x:Iv}(h:RI x):kB x=(viB x&& !x.all):=by
 rw[qA,q4,qb h,wu h,q7];exact⟨fun k=>⟨.inl k,k.all⟩,fun⟨v,a⟩=>(xi v).1 a⟩
theorem zvw(a:Mx){t:Iv}(ht:RI t)(p:Int):zjt a t p=(vmB a&&(decide (a.length=hdL a)&&(viB t&&(!t.all&&(decide (8<=p)&&(decide (p<=512)&& !(a.any fun r=>r.any fun x=>x.all))))))):=by
 unfold zjt;rw[kB_eq ht];have:pcB p=(decide (8<=p)&&decide (p<=512)):=by unfold pcB;rw[qA]
 rw[this];simp only[Bool.and_assoc]
theorem n42(a:Mx)(ha:RX a)(t:Iv)(ht:RI t)(p:Int):Fn 55 [] [.sl .vs a,.agg (ivC t),.int .i64 p] (.bool (zjt a t p)) []:=by
 rw[zvw a ht p];have h83:=i51 t ht
 cases h1:vmB a with
 |false=>
  refine fZM Tryz.func55 rfl rfl ?_;conv=>whnf
  refine gZn (zgl ha h1) ?_;conv=>whnf
  exact⟨lr rfl,lh0⟩
 |true=>
 obtain⟨n,k,va⟩:=(zfw ha.el).1 h1;have n1:=va.n1;have k1:=va.k1;have hal:=va.len;obtain⟨r0,hr0⟩:∃r,a[0]? =some r:=⟨_,q3 O⟩;have hr0l:=va.row r0 (q0 hr0);have hhd:=va.hd;rw[hhd];obtain⟨lo,hi,al⟩:=t;have hgt:∀(x:List Iv),a[(0:Int).toNat]? =some x->r0=x:=fun x hx=>by
  have hx:a[0]? =some x:=hx;rw[hr0]at hx;exact Option.some.inj hx
 by_cases h2:a.length=k
 .have e2:((a.length:Int) != (r0.length:Int))=false:=by simp;omega
  rw[Z6 h2];cases h3:viB ⟨lo,hi,al⟩with
  |false=>
   rw[h3]at h83;refine fZM Tryz.func55 rfl rfl ?_;conv=>whnf
   refine gZn (zgl ha h1) ?_;conv=>whnf
   refine⟨⟨O,O⟩,fun(x:List Iv)hx=>?_⟩;obtain rfl:=hgt x hx;conv=>whnf
   rw[e2];conv=>whnf
   refine gZn h83 ?_;conv=>whnf
   exact⟨lr rfl,lh0⟩
  |true=>
  rw[h3]at h83
  cases al with
  |true=>
   refine fZM Tryz.func55 rfl rfl ?_;conv=>whnf
   refine gZn (zgl ha h1) ?_;conv=>whnf
   refine⟨⟨O,O⟩,fun(x:List Iv)hx=>?_⟩;obtain rfl:=hgt x hx;conv=>whnf
   rw[e2];conv=>whnf
   refine gZn h83 ?_;conv=>whnf
   exact⟨lr rfl,lh0⟩
  |false=>
   refine fZM Tryz.func55 rfl rfl ?_;conv=>whnf
   refine gZn (zgl ha h1) ?_;conv=>whnf
   refine⟨⟨O,O⟩,fun(x:List Iv)hx=>?_⟩;obtain rfl:=hgt x hx;conv=>whnf
   rw[e2];conv=>whnf
   refine gZn h83 ?_;conv=>whnf
   refine brI (fun h4=>?_) (fun h4=>?_)
   .have h4:=Z0 h4;conv=>whnf
    exact⟨ab0 (by rw[Z7 O];rfl),lh0⟩
   have h4:=Z1 h4;rw[Z6 (O:8<=p)];conv=>whnf
   refine brI (fun h5=>?_) (fun h5=>?_)
   .have h5:=Z0 h5;conv=>whnf
    exact⟨ab0 (by rw[Z7 O];rfl),lh0⟩
   have h5:=Z1 h5;rw[Z6 (O:p<=512)];conv=>whnf
   refine⟨Nat,fun i=>i<=a.length/\(a.any fun r=>r.any fun x=>x.all)=((a.drop i).any fun r=>r.any fun x=>x.all),fun i=> [(42,.int .i64 i)],fun i=> [(10,.free)],fun i=>a.length-i,0,⟨q5 _,rfl⟩,?_,fun i hi=>?_⟩
   .exact KZ0
   obtain⟨hi,he⟩:=hi
   (refine⟨Z,?_⟩;(conv=>whnf))
   refine brI (fun c=>?_) (fun c=>?_)
   .have c:i<a.length:=by have:=Z0 c;omega
    conv=>whnf
    refine⟨⟨O,O⟩,fun(row:List Iv)hr=>?_⟩;have hr:a[i]? =some row:=by simpa using hr
    have hrl:=va.row row (q0 hr);rw[zu hr,qC]at he;conv=>whnf
    refine⟨Nat,fun j=>j<=row.length/\(row.any fun x=>x.all)=((row.drop j).any fun x=>x.all),fun j=> [(48,.int .i64 j)],fun j=> [(10,.free)],fun j=>row.length-j,0,⟨q5 _,rfl⟩,?_,fun j hj=>?_⟩
    .exact KZ0
    obtain⟨hj,hje⟩:=hj
    (refine⟨Z,?_⟩;(conv=>whnf))
    refine brI (fun c2=>?_) (fun c2=>?_)
    .have c2:j<row.length:=by have:=Z0 c2;omega
     conv=>whnf
     refine⟨⟨O,O⟩,fun(y:Iv)hy=>?_⟩;have hy:row[j]? =some y:=by simpa using hy
     rw[zu hy,qC]at hje;conv=>whnf
     refine brI (fun c3=>?_) (fun c3=>?_)
     .conv=>whnf
      exact⟨ab0 (by rw[he,hje,c3];simp),lh0⟩
     .conv=>whnf
      refine⟨j+1,⟨c2,by rw[hje,c3];rfl⟩,by show row.length-(j+1)<row.length-j;omega,?_⟩;exact KZ0
    .have c2:j=row.length:=by have:=Z1 c2;omega
     have hje:(row.any fun x=>x.all)=false:=by rw[hje,c2,List.drop_length];rfl
     conv=>whnf
     refine⟨i+1,⟨c,by rw[he,hje];rfl⟩,by show a.length-(i+1)<a.length-i;omega,?_⟩;exact KZ0
   .have c:=Z1 c;have he:(a.any fun r=>r.any fun x=>x.all)=false:=by rw[he,List.drop_of_length_le O];rfl
    conv=>whnf
    exact⟨ab0 (by rw[he];rfl),lh0⟩
 .have e2:((a.length:Int) != (r0.length:Int))=true:=by simp;omega
  rw[Z7 h2];refine fZM Tryz.func55 rfl rfl ?_;conv=>whnf
  refine gZn (zgl ha h1) ?_;conv=>whnf
  refine⟨⟨O,O⟩,fun(x:List Iv)hx=>?_⟩;obtain rfl:=hgt x hx;conv=>whnf
  rw[e2];conv=>whnf
  exact⟨lr rfl,lh0⟩
theorem zjs{a:Mx}(ha:RX a){t:Iv}(ht:RI t){p:Int}(h:zjt a t p=true):∃n,VM n n a/\KI t/\pcB p=true:=by
 unfold zjt at h;simp only[q4,Z2]at h;obtain⟨⟨⟨⟨h1,h2⟩,h3⟩,h4⟩,_⟩:=h;obtain⟨n,k,va⟩:=(zfw ha.el).1 h1;have e:n=k:=by rw[<-va.len,<-va.hd];exact h2
 subst e;exact⟨n,va,(qb ht).1 h3,h4⟩
theorem n14(a:Mx)(ha:RX a)(t:Iv)(ht:RI t)(p:Int):Fn 18 G0 [.sl .vs a,.agg (ivC t),.int .i64 p] (.tup [.sl .vs (zwp a t p).1,.int .i64 (zwp a t p).2]) G0:=by
 have h42:=n42 a ha t ht p
 cases h1:zjt a t p with
 |false=>
  have e:zwp a t p=([],1):=by unfold zwp;rw[Z5 (by rw[h1];simp)]
  rw[h1]at h42;rw[e];refine fZM Tryz.func18 rfl rfl ?_;conv=>whnf
  refine gZn h42 ?_;conv=>whnf
  exact⟨lt0 (lc (li0 rfl) (lc (lr rfl) ln0)),za1⟩
 |true=>
  obtain⟨n,va,kt,hp⟩:=zjs ha ht h1;have h43:=n43 va kt hp;have e:zwp a t p=(zlb a t p).elim ([],13) (fun x=>(x.exp,0)):=by unfold zwp;rw[Z4 h1];cases zlb a t p<;>rfl
  rw[h1]at h42;rw[e];clear e;generalize zlb a t p=R at*
  cases R with
  |none=>
   refine fZM Tryz.func18 rfl rfl ?_;conv=>whnf
   refine gZn h42 ?_;conv=>whnf
   refine gZc h43 ?_;conv=>whnf
   exact⟨lr rfl,za1⟩
  |some x=>
   refine fZM Tryz.func18 rfl rfl ?_;conv=>whnf
   refine gZn h42 ?_;conv=>whnf
   refine gZc h43 ?_;conv=>whnf
   exact⟨lr rfl,za1⟩
theorem n93(v:List Iv)(k:Nat){y:Iv}(hy:v[k]? =some y):Fn 139 [(1000003,.cells [.sl .iv v])] [.int .i64 k,.ptr 1000003 0] (.agg (ivC y)) [(1000003,.cells [.sl .iv v])]:=by
 have h2:=(List.getElem?_eq_some_iff.1 hy).1;refine fZM Tryz.func139 rfl rfl ?_;conv=>whnf
 refine⟨⟨O,O⟩,fun(z:Iv)hz=>?_⟩;obtain rfl:y=z:=by
  have hz:v[k]? =some z:=by simpa using hz
  rw[hy]at hz;exact Option.some.inj hz
 conv=>whnf
 exact⟨lr rfl,lh1 (zg rfl rfl) lh0⟩
theorem qi9{l:List Iv}(h:∀y∈l,VI y):l.any bdW=false:=by
 rw[q8];intro y hy;unfold bdW;rw[(wu (h y hy).ri).2 (h y hy)];simp
theorem n45{n k:Nat}{a:Mx}(va:VM n k a){x:List Iv}(hx:∀y∈x,VI y)(hl:x.length=k){p:Int}(hp:pcB p=true):Fn 58 G0 [.sl .vs a,.sl .iv x,.int .i64 p] (.tup [.sl .iv (apM a x p),.int .i64 0]) G0:=by
 have n1:=va.n1;have k1:=va.k1;have hal:=va.len;have c11:=nw x (fun y hy=>(hx y hy).ri) O;rw[qi9 hx]at c11;obtain⟨r0,hr0⟩:∃r,a[0]? =some r:=⟨_,q3 O⟩;have hr0l:=va.row r0 (q0 hr0);obtain⟨G,hG⟩:∃G,apM a x p=G:=⟨_,rfl⟩;have hGl:G.length=a.length:=by rw[<-hG];unfold apM;simp
 rw[hG];refine fZM Tryz.func58 rfl rfl ?_;conv=>whnf
 refine gZn (zgl va.rx va.ok) ?_;conv=>whnf
 refine gZn c11 ?_;conv=>whnf
 refine gZn (zx4 hp) ?_;conv=>whnf
 refine⟨⟨O,O⟩,fun(z:List Iv)hz=>?_⟩;obtain rfl:r0=z:=by
  have hz:a[0]? =some z:=hz;rw[hr0]at hz;exact Option.some.inj hz
 (refine⟨Z,Z,?_⟩;(conv=>whnf))
 refine brI (fun c=>?_) (fun c=>?_)
 .have c:((r0.length:Int) != (x.length:Int))=true:=c;simp at c;omega
 conv=>whnf
 refine⟨Nat,fun i=>i<=a.length,fun i=> [(33,.int .i64 i),(8,.own 43)],fun i=> [(43,.buf 28 .iv (G.take i))],fun i=>a.length-i,0,q5 _,?_,fun i hi=>?_⟩
 .exact KZ0
 (refine⟨Z,?_⟩;(conv=>whnf))
 refine brI (fun c=>?_) (fun c=>?_)
 .have c:i<a.length:=by have:=Z0 c;omega
  conv=>whnf
  refine⟨⟨O,O⟩,fun(row:List Iv)hr=>?_⟩;have hr:a[i]? =some row:=by simpa using hr
  have hrm:=q0 hr;have hrl:=va.row row hrm;have hGi:=jy (f:=fun r:List Iv=>dtM p r x) hr;have hGe:(a.map fun r=>dtM p r x)=G:=hG;rw[hGe]at hGi;have h73:=n73v x row x O O (fun y hy=>(va.el row hrm y hy).ri) (fun y hy=>(hx y hy).ri) p (fun k y hk=>n93 x k hk);generalize dtM p row x=d at*;conv=>whnf
  refine⟨[.gst JT,.cells [.sl .iv x]],_,h73.sw [(4,1000003)] rfl,?_⟩;conv=>whnf
  refine⟨OE,?_⟩;conv=>whnf
  refine⟨i+1,c,by show a.length-(i+1)<a.length-i;omega,?_⟩;exact KZ0
 .have c:=Z1 c;conv=>whnf
  exact⟨lt0 (lc (qs (by rw[List.take_of_length_le O])) (lc (lr rfl) ln0)),za1⟩
theorem qbi{n:Nat}{a:Mx}(va:VM n n a){t:Iv}(kt:KI t){p:Int}(hp:pcB p=true){y:MPr}(h:zlb a t p=some y):VM n n y.exp/\VM n n y.phi:=by
 have hp2:8<=p/\p<=512:=by
  obtain⟨q,rfl,hq⟩:=yu.1 hp;omega
 have hq:pcB (min (p+40) 512)=true:=by unfold pcB;simp;omega
 have key:∀(f:Nat)(x:MPr),VM n n x.exp->VM n n x.phi->VM n n (zc1 (min (p+40) 512) f x).exp /\VM n n (zc1 (min (p+40) 512) f x).phi :=by
  intro f
  induction f with
  |zero=>exact fun x h1 h2=>⟨h1,h2⟩
  |succ f ih=>
   intro x h1 h2;obtain⟨d1,d2⟩:=zvm h1 h2 hq;exact ih _ d1 d2
 obtain⟨N,b,hN⟩:∃N b,nmM (scM a t (min (p+40) 512)) (min (p+40) 512)=(N,b):=⟨_,_,rfl⟩;rw[zla hN]at h;split at h
 .cases h
 .unfold qeo at h;simp only at h;split at h
  .cases h
   have vh:=zbb (.inl kt:VI t) (-((hvS N).toNat :Int));obtain⟨v1,v2⟩:=zsk (yr va vh hq) vh hq;obtain⟨w1,w2⟩:=key (hvS N).toNat _ v1 v2;exact⟨zlu w1 p,zlu w2 p⟩
  .cases h
theorem qem{l:List Iv}(hl:∀x∈l,RI x)(h:bvB l=true):(1<=l.length/\l.length<=8)/\∀x∈l,KI x:=by
 unfold bvB at h;simp only[q4,Z2,q7,q8,Bool.or_eq_true,not_or,Bool.not_eq_true]at h;refine⟨h.1,fun x hx=>?_⟩;obtain⟨h1,h2⟩:=h.2 x hx;exact(xi ((wu (hl x hx)).1 (by simpa using h2))).1 h1
theorem zrx{l:List Iv}(hl:∀x∈l,RI x)(hlen:l.length<9223372036854775808){b:Bool}(h:bvB l=b):Fn 56 [] [.sl .iv l] (.bool b) []:=by rw[<-h];exact n44 l hl hlen
theorem qc9{a:Mx}(ha:RX a){t:Iv}(ht:RI t){p:Int}{b:Bool}(h:zjt a t p=b):Fn 55 [] [.sl .vs a,.agg (ivC t),.int .i64 p] (.bool b) []:=by rw[<-h];exact n42 a ha t ht p
def linR:Option MPr->List Iv->List Iv->Int->List Iv×Int
 |none,_,_,_=>([],13)
 |some y,b,x,p=>if bvB (q9 (fun u v=>yp u v p) (apM y.exp x p) (apM y.phi b p))=true then(q9 (fun u v=>yp u v p) (apM y.exp x p) (apM y.phi b p),0)else([],13)
theorem zod(a:Mx)(b x:List Iv)(t:Iv)(p:Int):zud a b x t p=if zjt a t p=false\/bvB b=false\/bvB x=false\/b.length≠a.length\/x.length≠a.length then([],1)else linR (zlb a t p) b x p:=by
 unfold zud;by_cases h:zjt a t p=false\/bvB b=false\/bvB x=false\/b.length≠a.length\/x.length≠a.length
 .rw[Z4 h,Z5];simp only[q4,Z2,not_and];rcases h with h|h|h|h|h<;>intros<;>simp_all
 .rw[Z5 h,Z4]
  .cases zlb a t p<;>rfl
  .simp only[not_or,Bool.not_eq_false,ne_eq,Decidable.not_not]at h;simp[h]
theorem qhj{h h':Hp}:leA h h' (.tup [.nilsl,.int .i64 1]) (.tup [.sl .iv [],.int .i64 1]):=lt0 (lc (li0 rfl) (lc (lr rfl) ln0))
theorem qhi{h h':Hp}:leA h h' (.tup [.nilsl,.int .i64 13]) (.tup [.sl .iv [],.int .i64 13]):=lt0 (lc (li0 rfl) (lc (lr rfl) ln0))
theorem n16(a:Mx)(ha:RX a)(b x:List Iv)(hb:∀y∈b,RI y)(hx:∀y∈x,RI y)(hbl:b.length<1000000)(hxl:x.length<1000000)(t:Iv)(ht:RI t)(p:Int):
 Fn 11 G0 [.sl .vs a,.sl .iv b,.sl .iv x,.agg (ivC t),.int .i64 p] (.tup [.sl .iv (zud a b x t p).1,.int .i64 (zud a b x t p).2]) G0:=by
 rw[zod]
 cases h1:zjt a t p with
 |false=>
  rw[Z4 (.inl rfl)];refine fZM Tryz.func11 rfl rfl ?_;conv=>whnf
  refine gZn (qc9 ha ht h1) ?_;conv=>whnf
  exact⟨qhj,za1⟩
 |true=>
 cases h2:bvB b with
 |false=>
  rw[Z4 (.inr (.inl rfl))];refine fZM Tryz.func11 rfl rfl ?_;conv=>whnf
  refine gZn (qc9 ha ht h1) ?_;conv=>whnf
  refine gZn (zrx hb O h2) ?_;conv=>whnf
  exact⟨qhj,za1⟩
 |true=>
 cases h3:bvB x with
 |false=>
  rw[Z4 (.inr (.inr (.inl rfl)))];refine fZM Tryz.func11 rfl rfl ?_;conv=>whnf
  refine gZn (qc9 ha ht h1) ?_;conv=>whnf
  refine gZn (zrx hb O h2) ?_;conv=>whnf
  refine gZn (zrx hx O h3) ?_;conv=>whnf
  exact⟨qhj,za1⟩
 |true=>
 by_cases h4:b.length≠a.length
 .rw[Z4 (.inr (.inr (.inr (.inl h4))))];have e:((b.length:Int) != (a.length:Int))=true:=OE;refine fZM Tryz.func11 rfl rfl ?_;conv=>whnf
  refine gZn (qc9 ha ht h1) ?_;conv=>whnf
  refine gZn (zrx hb O h2) ?_;conv=>whnf
  refine gZn (zrx hx O h3) ?_;conv=>whnf
  rw[e];conv=>whnf
  exact⟨qhj,za1⟩
 have e4:((b.length:Int) != (a.length:Int))=false:=OE;by_cases h5:x.length≠a.length
 .rw[Z4 (.inr (.inr (.inr (.inr h5))))];have e:((x.length:Int) != (a.length:Int))=true:=OE;refine fZM Tryz.func11 rfl rfl ?_;conv=>whnf
  refine gZn (qc9 ha ht h1) ?_;conv=>whnf
  refine gZn (zrx hb O h2) ?_;conv=>whnf
  refine gZn (zrx hx O h3) ?_;conv=>whnf
  rw[e4];conv=>whnf
  rw[e];conv=>whnf
  exact⟨qhj,za1⟩
 have e5:((x.length:Int) != (a.length:Int))=false:=OE;rw[Z5 OE];obtain⟨n,va,kt,hp⟩:=zjs ha ht h1;have n1:=va.n1;have hal:=va.len;have h43:=n43 va kt hp;obtain⟨b1,b2⟩:=qem hb h2;obtain⟨x1,x2⟩:=qem hx h3
 cases hbot:zlb a t p with
 |none=>
  rw[hbot]at h43;show Fn 11 G0 _ (.tup [.sl .iv [],.int .i64 13]) G0;refine fZM Tryz.func11 rfl rfl ?_;conv=>whnf
  refine gZn (qc9 ha ht h1) ?_;conv=>whnf
  refine gZn (zrx hb O h2) ?_;conv=>whnf
  refine gZn (zrx hx O h3) ?_;conv=>whnf
  rw[e4];conv=>whnf
  rw[e5];conv=>whnf
  refine gZc h43 ?_;conv=>whnf
  exact⟨qhi,za1⟩
 |some y=>
  rw[hbot]at h43;obtain⟨v1,v2⟩:=qbi va kt hp hbot;have c1:=n45 v1 (x:=x) (fun z hz=>.inl (x2 z hz)) O hp;have c2:=n45 v2 (x:=b) (fun z hz=>.inl (b2 z hz)) O hp;have lu:(apM y.exp x p).length =n:=by unfold apM;rw[qB];exact v1.len
  have lv:(apM y.phi b p).length =n:=by unfold apM;rw[qB];exact v2.len
  have ru:∀z∈apM y.exp x p,RI z:=fun z hz=>by
   obtain⟨r,hr,rfl⟩:=qD.1 hz;exact(zve hp (v1.el r hr) fun z hz=>.inl (x2 z hz)).ri
  have rv:∀z∈apM y.phi b p,RI z:=fun z hz=>by
   obtain⟨r,hr,rfl⟩:=qD.1 hz;exact(zve hp (v2.el r hr) fun z hz=>.inl (b2 z hz)).ri
  simp only[linR];generalize apM y.exp x p=u at*;generalize apM y.phi b p=v at*;obtain⟨G,hG⟩:∃G,q9 (fun u v=>yp u v p) u v=G:=⟨_,rfl⟩;have hGl:G.length=n:=by rw[<-hG,List.length_zipWith];omega
  have hGr:∀z∈G,RI z:=fun z hz=>by
   rw[<-hG]at hz;obtain⟨i,hi⟩:=List.getElem?_of_mem hz;rw[q6]at hi;split at hi
   .cases hi;exact znf _ _ _
   .cases hi
  have hGi:∀i(s r:Iv),u[i]? =some s->v[i]? =some r->G.take (i+1)=G.take i++ [yp s r p]:=fun i s r hs hr=>by
   rw[<-hG,List.take_add_one,q6,hs,hr];rfl
  simp only[hG];have main:∀(bb:Bool),bvB G=bb->Fn 11 G0 [.sl .vs a,.sl .iv b,.sl .iv x,.agg (ivC t),.int .i64 p] (if bb=true then .tup [.sl .iv G,.int .i64 0]else .tup [.sl .iv [],.int .i64 13]) G0:=fun bb hbb=>by
   refine fZM Tryz.func11 rfl rfl ?_;conv=>whnf
   refine gZn (qc9 ha ht h1) ?_;conv=>whnf
   refine gZn (zrx hb O h2) ?_;conv=>whnf
   refine gZn (zrx hx O h3) ?_;conv=>whnf
   rw[e4];conv=>whnf
   rw[e5];conv=>whnf
   refine gZc h43 ?_;conv=>whnf
   refine gZc c1 ?_;conv=>whnf
   refine gZc c2 ?_;conv=>whnf
   refine⟨Nat,fun i=>i<=n,fun i=> [(77,.int .i64 i),(18,.own 92)],fun i=> [(92,.buf 28 .iv (G.take i))],fun i=>n-i,0,q5 _,?_,fun i hi=>?_⟩
   .exact KZ0
   (refine⟨Z,?_⟩;(conv=>whnf))
   refine brI (fun c=>?_) (fun c=>?_)
   .have c:i<n:=by have:=Z0 c;omega
    obtain⟨s,hs⟩:∃s,u[i]? =some s:=⟨_,q3 O⟩;obtain⟨r,hr⟩:∃r,v[i]? =some r:=⟨_,q3 O⟩;have hg:=hGi i s r hs hr;conv=>whnf
    refine⟨⟨O,O⟩,fun(z:Iv)hz=>?_⟩;obtain rfl:s=z:=by
     have hz:u[i]? =some z:=by simpa using hz
     rw[hs]at hz;exact Option.some.inj hz
    conv=>whnf
    refine⟨⟨O,O⟩,fun(z:Iv)hz=>?_⟩;obtain rfl:r=z:=by
     have hz:v[i]? =some z:=by simpa using hz
     rw[hr]at hz;exact Option.some.inj hz
    conv=>whnf
    refine gZc (i82 s r (ru s (q0 hs)) (rv r (q0 hr)) p) ?_;conv=>whnf
    refine⟨OE,?_⟩
    (refine⟨Z,Z,?_⟩;(conv=>whnf))
    refine⟨i+1,c,by show n-(i+1)<n-i;omega,?_⟩;exact KZ0
   .have c:i=n:=by
     have hi:i<=n:=hi;have:=Z1 c;omega
    conv=>whnf
    rw[c,<-hGl,List.take_length];refine gZn (zrx hGr O hbb) ?_
    cases bb with
    |true=>
     conv=>whnf
     exact⟨lr rfl,za1⟩
    |false=>
     conv=>whnf
     exact⟨qhi,za1⟩
  have:=main _ rfl
  cases hbb:bvB G with
  |true=>rw[hbb]at this;exact this
  |false=>rw[hbb]at this;exact this
