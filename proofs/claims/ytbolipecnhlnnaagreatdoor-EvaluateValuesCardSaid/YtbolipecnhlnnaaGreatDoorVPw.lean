/- Plain law of EvaluateApplies; evaluate.Values. -/
import Derived.Test.YtbolipecnhlnnaaGreatDoorVXi
import Derived.Test.YtbolipecnhlnnaaGreatDoorVPv
import Derived.Test.YtbolipecnhlnnaaGreatDoorVNx
set_option linter.all false
open List renaming append_nil->q0,mem_cons->q1,mem_of_getElem?->q2,getElem?_eq_some_iff->q3,length_cons->q4,drop_of_length_le->q5,mem_append->q6,all_eq_true->q8,all_cons->q9
namespace Go.Proofs.YtbolipecnhlnnaaGreatDoor
open Go Go.Sx
set_option maxRecDepth 100000
set_option maxHeartbeats 8000000
theorem zrr{s:zg}:∀(ns:List zg)(xs:List Iv)(es:zdx),zds .str s es=true->zds .str s (xk ns xs es)=true
 | [],xs,es,h=>by cases xs<;>exact h
 | _::_,[],_,h=>h
 |n::ns,x::xs,es,h=>zrr ns xs _ (by rw[qav,h,Bool.or_true])
theorem zpm{s:zg}:∀(ns:List zg)(xs:List Iv)(es:zdx),s∈ns->ns.length<=xs.length->zds .str s (xk ns xs es)=true
 | [],_,_,h,_=>by cases h
 |n::ns,[],_,_,h=>by simp at h
 |n::ns,x::xs,es,h,hl=>by
  rcases q1.1 h with rfl|h
  .exact zrr ns xs _ (by rw[qav];simp)
  .exact zpm ns xs _ h (by simpa using hl)
theorem zwi:∀(ns:List zg)(xs:List Iv)(es:zdx),ns.Nodup->(∀s∈ns,zds .str s es=false)->ns.length<=xs.length->(xk ns xs es).length =es.length+ns.length
 | [],xs,es,_,_,_=>by cases xs<;>rfl
 |n::ns,[],_,_,_,h=>by simp at h
 |n::ns,x::xs,es,hn,he,hl=>by
  have hn:=List.nodup_cons.1 hn;have h1:=zwi ns xs (zby .str n x es) hn.2 (fun s hs=>by
   rw[qav,he s (List.mem_cons_of_mem _ hs),Bool.or_false,Z7 (by rintro rfl;exact hn.1 hs)]) (by simpa using hl)
  rw[lput,Z5 (by rw[he n List.mem_cons_self];simp)]at h1;simp only[xk,q4];omega
theorem zrw{fx:Int->Iv->Int->Iv}{p:Int}{es:zdx}{K:Int->Prop}{e:Ex}(he:VK K e):(∀y∈ue e,y.k=2->zds .str y.s es=true)->(evE fx p es e).2=true:=by
 induction he with
 |num r _=>intro _;rw[zn4]
 |var s _=>
  intro hn;rw[zkq];exact hn (zjn s) (by simp[zjn,ue,zbx]) rfl
 |un k a _ h1 _ ih=>
  intro hn;have hk:k≠1/\k≠2:=by unfold K1 at h1;omega
  rw[zd4 _ _ _ _ _ _ hk,Z4 (ih fun y hy c=>hn y (by simp only[opE,ue,zbx,q1,q0];exact .inr hy) c)]
 |pow n a _ _ _ _ ih=>
  intro hn;rw[zd4 _ _ _ _ _ _ OA,Z4 (ih fun y hy c=>hn y (by simp only[opE,ue,zbx,q1,q0];exact .inr hy) c)]
 |bin k a b _ h1 _ _ ih1 ih2=>
  intro hn;have hk:k≠1/\k≠2:=by unfold K2 at h1;omega
  rw[zn3 _ _ _ _ _ _ _ hk,Z4 (ih1 fun y hy c=>hn y (by simp only[opE,ue,zbx,q1,q0,q6];exact .inr (.inl hy)) c),
   Z4 (ih2 fun y hy c=>hn y (by simp only[opE,ue,zbx,q1,q0,q6];exact .inr (.inr hy)) c)]
theorem x18(l:List Ex)(hl:∀x∈l,Sm x)(hlen:l.length<=200)(ns:List zg)(xs:List Iv)(hx:∀x∈xs,RI x)(h1:ns.length<9223372036854775808)(h2:xs.length<9223372036854775808)(p:Int):
 Fn 36 G0 [.sl .ex l,.sl .str ns,.sl .iv xs,.int .i64 p] (.sl .iv (l.map fun x=>zjb fxA x ns xs p)) G0:=by
 have hv:∀x∈l,Fn 32 G0 [.agg (exC x),.sl .str ns,.sl .iv xs,.int .i64 p] (.agg (ivC (zjb fxA x ns xs p))) G0:=fun x hx'=>x16 x (hl x hx') ns xs hx h1 h2 p
 obtain⟨f,hf⟩:∃f:Ex->Iv,f=fun x=>zjb fxA x ns xs p:=⟨_,rfl⟩
 have hv:∀x∈l,Fn 32 G0 [.agg (exC x),.sl .str ns,.sl .iv xs,.int .i64 p] (.agg (ivC (f x))) G0:=fun x hx'=>by rw[hf];exact hv x hx'
 rw[<-hf];clear hf;obtain⟨L,hL⟩:∃L,L=l.map f:=⟨_,rfl⟩;have hLl:L.length=l.length:=by rw[hL];simp
 have hLi:∀i x,l[i]? =some x->L.take i++ [f x]=L.take (i+1):=fun i x h=>by
  rw[List.take_add_one,hL,List.getElem?_map,h];rfl
 rw[<-hL];clear hL;refine fY8 Tryz.func36 rfl ?_;refine brI (fun c=>?_) (fun _=>?_)
 .have c:=Z0 c;omega
 conv=>whnf
 refine⟨Nat,fun i=>i<=l.length,fun i=> [(17,.int .i64 i),(9,.own 28)],fun i=> [(28,.buf 28 .iv (L.take i)),(11,.free)],fun i=>l.length-i,0,OC,?_,fun i hi=>?_⟩
 .exact KZ0
 refine gYe ?_;refine brI (fun k1=>?_) (fun k1=>?_)
 .have k1:=Z0 k1;have hi:i<l.length:=O;conv=>whnf
  refine⟨⟨O,O⟩,fun(x:Ex)hx'=>?_⟩;have hx':l[i]? =some x:=by simpa using hx'
  have hvx:=hv x (q2 hx');have hs:=hLi i x hx';generalize f x=A at*;conv=>whnf
  refine gYc hvx ?_;refine⟨OE,?_⟩;conv=>whnf
  refine⟨i+1,O,by show l.length-(i+1)<l.length-i;omega,?_⟩;exact KZ0
 .have k1:=Z1 k1;conv=>whnf
  exact⟨wb (by rw[List.take_of_length_le O]),leG⟩
theorem qkj{ns:List zg}{s:zg}(h:s∈ns):∀(i:Nat),∃j:Nat,ixP (eqS s) ns i=((i+j:Nat):Int)/\ns[j]? =some s:=by
 induction ns with
 |nil=>cases h
 |cons n ns ih=>
  intro i;by_cases e:s=n
  .exact⟨0,by simp[ixP,eqS,e],by simp[e]⟩
  .have h:s∈ns:=by
    simp_all
   obtain⟨j,h1,h2⟩:=ih h (i+1);refine⟨j+1,?_,by grind⟩;have he:¬eqS s n=true:=by simpa[eqS]using e
   grind[ixP]
theorem q183{fx:Int->Iv->Int->Iv}{k:Int}(hk:Ka k)(n:Int)(x y:Iv)(hx:RI x)(hy:RI y)(p:Int):Fn 183 [] [.int .i64 k,.int .i64 n,.agg (ivC x),.agg (ivC y),.int .i64 p] (.agg (ivC (apI fx k n x y p))) []:=by
 have h3:Fn 63 [] [.agg (ivC x),.agg (ivC y),.int .i64 p] (.agg (ivC (yi x y p))) []:=by grind[zsj,r176]
 have h4:Fn 221 [] [.agg (ivC x),.agg (ivC y),.int .i64 p] (.agg (ivC (zzf x y p))) []:=by
  have:=r177 x y hx hy p;rw[zsj hx (zv7 hy)]at this;exact this
 have h5:Fn 218 [] [.agg (ivC x),.agg (ivC y),.int .i64 p] (.agg (ivC (zax x y p))) []:=by grind[qak,r178]
 have h6:Fn 216 [] [.agg (ivC x),.agg (ivC y),.int .i64 p] (.agg (ivC (xr x y p))) []:=by grind[qbb,r179]
 have h7:=r180 x hx;have h8:=q277 x hx n p;have h13:=q278 x hx p;clear hx hy;rcases hk with rfl|rfl|rfl|rfl|rfl|rfl|rfl
 .have e:apI fx 3 n x y p=yi x y p:=rfl;rw[e];generalize yi x y p=R at*;refine fY9 Tryz.func183 rfl ?_;refine gYn h3 ?_;exact⟨lr rfl,lh0⟩
 .have e:apI fx 4 n x y p=zzf x y p:=rfl;rw[e];generalize zzf x y p=R at*;refine fY9 Tryz.func183 rfl ?_;refine gYn h4 ?_;exact⟨lr rfl,lh0⟩
 .have e:apI fx 5 n x y p=zax x y p:=rfl;rw[e];generalize zax x y p=R at*;refine fY9 Tryz.func183 rfl ?_;refine gYn h5 ?_;exact⟨lr rfl,lh0⟩
 .have e:apI fx 6 n x y p=xr x y p:=rfl;rw[e];generalize xr x y p=R at*;refine fY9 Tryz.func183 rfl ?_;refine gYn h6 ?_;exact⟨lr rfl,lh0⟩
 .have e:apI fx 7 n x y p=zd1 x:=rfl;rw[e];generalize zd1 x=R at*;refine fY9 Tryz.func183 rfl ?_;refine gYn h7 ?_;exact⟨lr rfl,lh0⟩
 .have e:apI fx 8 n x y p=zje x n p:=rfl;rw[e];generalize zje x n p=R at*;refine fY9 Tryz.func183 rfl ?_;refine gYn h8 ?_;exact⟨lr rfl,lh0⟩
 .have e:apI fx 13 n x y p=zbw x p:=rfl;rw[e];generalize zbw x p=R at*;refine fY9 Tryz.func183 rfl ?_;refine gYn h13 ?_;exact⟨lr rfl,lh0⟩
theorem zx9{fx:Int->Iv->Int->Iv}{k:Int}(hk:k=7\/k=8\/k=13)(n:Int)(x y z:Iv)(p:Int):apI fx k n x y p=apI fx k n x z p:=by
 rcases hk with rfl|rfl|rfl<;>rfl
theorem qjn(p:Int)(ns:List zg)(xs:List Iv)(k n:Int)(hk:k≠1/\k≠2)(a:Ex)(A C:Iv)(ha:Fn 106 [] [.agg (exC a),.sl .str ns,.sl .iv xs,.int .i64 p] (.agg (ivC A)) [])
 (hc:Fn 183 [] [.int .i64 k,.int .i64 n,.agg (ivC A),.agg (ivC A),.int .i64 p] (.agg (ivC C)) []):
 Fn 106 [] [.agg (exC (opE k n [a])),.sl .str ns,.sl .iv xs,.int .i64 p] (.agg (ivC C)) []:=by
 have hk1:(k==1)=false:=by grind
 have hk2:(k==2)=false:=by grind
 refine fY9 Tryz.func106 rfl ?_;refine brI (fun h1=>?_) (fun h1=>?_)
 .have h1:(k==1)=true:=h1
  simp_all
 conv=>whnf
 refine brI (fun h1=>?_) (fun h1=>?_)
 .have h1:(k==2)=true:=h1
  simp_all
 conv=>whnf
 refine ix0 ?_;conv=>whnf
 refine gYn ha ?_;refine gYn hc ?_;exact⟨lr rfl,lh0⟩
theorem q106b(p:Int)(ns:List zg)(xs:List Iv)(k n:Int)(hk:k≠1/\k≠2)(a b:Ex)(A B C:Iv)(ha:Fn 106 [] [.agg (exC a),.sl .str ns,.sl .iv xs,.int .i64 p] (.agg (ivC A)) [])
 (hb:Fn 106 [] [.agg (exC b),.sl .str ns,.sl .iv xs,.int .i64 p] (.agg (ivC B)) [])
 (hc:Fn 183 [] [.int .i64 k,.int .i64 n,.agg (ivC A),.agg (ivC B),.int .i64 p] (.agg (ivC C)) []):
 Fn 106 [] [.agg (exC (opE k n [a,b])),.sl .str ns,.sl .iv xs,.int .i64 p] (.agg (ivC C)) []:=by
 have hk1:(k==1)=false:=by grind
 have hk2:(k==2)=false:=by grind
 refine fY9 Tryz.func106 rfl ?_;refine brI (fun h1=>?_) (fun h1=>?_)
 .have h1:(k==1)=true:=h1
  simp_all
 conv=>whnf
 refine brI (fun h1=>?_) (fun h1=>?_)
 .have h1:(k==2)=true:=h1
  simp_all
 conv=>whnf
 refine ix0 ?_;conv=>whnf
 refine gYn ha ?_;refine ix1 ?_;conv=>whnf
 refine gYn hb ?_;refine gYn hc ?_;exact⟨lr rfl,lh0⟩
theorem q106n(p:Int)(hp:pcB p=true)(ns:List zg)(xs:List Iv)(r:Rt):Fn 106 [] [.agg (exC (zge r)),.sl .str ns,.sl .iv xs,.int .i64 p] (.agg (ivC (zkr r p))) []:=by
 have h:=q169 r.n r.d hp;obtain⟨n,d⟩:=r;generalize zkr ⟨n,d⟩ p=R at*;refine fY9 Tryz.func106 rfl ?_;refine gYn h ?_;exact⟨lr rfl,lh0⟩
theorem q106v(p:Int)(ns:List zg)(xs:List Iv)(hx:∀x∈xs,RI x)(hn:ns.length<9223372036854775808)(hxl:xs.length<9223372036854775808)(s:zg){i:Nat}{v:Iv}(h1:ixP (eqS s) ns 0=(i:Int))(h2:xs[i]? =some v):Fn 106 [] [.agg (exC (zjn s)),.sl .str ns,.sl .iv xs,.int .i64 p] (.agg (ivC (okI v))) []:=by
 have h39:=y39 ns s hn;rw[h1]at h39;have hv:=hx v (q2 h2);have h108:=r108 v hv;have h61:=r61;have hi:i<xs.length:=(q3.1 h2).1;have hok:okI v=if viB v=true then v else wI0:=rfl
 generalize okI v=Oq at*;generalize viB v=V at*;refine fY9 Tryz.func106 rfl ?_;refine gYn h39 ?_;refine⟨⟨O,O⟩,fun w hw=>?_⟩;have hw:xs[i]? =some w:=by grind
 rw[h2]at hw;cases hw
 conv=>whnf
 refine cbI [] V h108 (fun c=>?_) (fun c=>?_)
 .rw[Z4 c]at hok;subst hok;conv=>whnf
  exact⟨lr rfl,lh0⟩
 .rw[Z5 (by rw[c];decide)]at hok;subst hok;conv=>whnf
  refine gYn h61 ?_;exact⟨lr rfl,lh0⟩
theorem q106{fx:Int->Iv->Int->Iv}{p:Int}(hp:pcB p=true){ns:List zg}{xs:List Iv}(hx:∀x∈xs,RI x)(hE:enB ns xs=true){e:Ex}(he:VK Ka e)(hk:∀y∈ue e,y.k=2->y.s∈ns):
 Fn 106 [] [.agg (exC e),.sl .str ns,.sl .iv xs,.int .i64 p] (.agg (ivC (evE fx p (xk ns xs []) e).1)) []/\RI (evE fx p (xk ns xs []) e).1:=by
 obtain⟨e1,e2,e3⟩:ns.length=xs.length/\ns.length<=200/\(xk ns xs []).length =xs.length:=Z0 hE;have hok:∀e:Ex,VK Ka e->(∀y∈ue e,y.k=2->y.s∈ns)->(evE fx p (xk ns xs []) e).2=true:=fun e he hk=>zrw he fun y hy h2=>zpm ns xs [] (hk y hy h2) O
 induction he with
 |num r hr=>
  rw[zn4];exact⟨q106n p hp ns xs r,(qdv r hp).ri⟩
 |var s hs=>
  rw[zkq];have hm:s∈ns:=hk (zjn s) (by simp[zjn,ue]) rfl;obtain⟨j,hj1,hj2⟩:=qkj hm 0;rw[Nat.zero_add]at hj1;have hjl:j<ns.length:=(q3.1 hj2).1;have hv:=List.getElem?_eq_getElem (l:=xs) (i:=j) O;rw[qc5 ns xs [] j hj2 hv (by simp_all)];exact⟨q106v p ns xs hx O O s hj1 hv,(zv2 (hx _ (q2 hv))).ri⟩
 |un k a hk0 h1 hva ih=>
  have hne:k≠1/\k≠2:=by grind[K1]
  have hka:∀y∈ue a,y.k=2->y.s∈ns:=fun y hy=>hk y (by simp[opE,ue,zbx,hy])
  obtain⟨ih1,ih2⟩:=ih hka;have h78:k=7\/k=8\/k=13:=by grind[Ka,K1]
  rw[zd4 fx p _ k 0 a hne,Z4 (hok a hva hka)];refine⟨qjn p ns xs k 0 hne a _ _ ih1 ?_,(qb2 (fx:=fx) hk0 0 zI p ih2).ri⟩;rw[zx9 (fx:=fx) h78 0 _ zI (evE fx p (xk ns xs []) a).1 p]
  simp_all[q183]
 |pow n a hk0 h1 h2 hva ih=>
  have hka:∀y∈ue a,y.k=2->y.s∈ns:=fun y hy=>hk y (by simp[opE,ue,zbx,hy])
  obtain⟨ih1,ih2⟩:=ih hka;rw[zd4 fx p _ 8 n a OA,Z4 (hok a hva hka)];refine⟨qjn p ns xs 8 n OA a _ _ ih1 ?_,(qb2 (fx:=fx) hk0 n zI p ih2).ri⟩;rw[zx9 (fx:=fx) (.inr (.inl rfl)) n _ zI (evE fx p (xk ns xs []) a).1 p]
  simp_all[q183]
 |bin k a b hk0 h1 hva hvb iha ihb=>
  have hne:k≠1/\k≠2:=by grind[K2]
  have hka:∀y∈ue a,y.k=2->y.s∈ns:=fun y hy=>hk y (by simp[opE,ue,zbx,hy])
  have hkb:∀y∈ue b,y.k=2->y.s∈ns:=fun y hy=>hk y (by simp[opE,ue,zbx,hy])
  obtain⟨a1,a2⟩:=iha hka;obtain⟨b1,b2⟩:=ihb hkb;rw[zn3 fx p _ k 0 a b hne,Z4 (hok a hva hka),Z4 (hok b hvb hkb)];exact⟨q106b p ns xs k 0 hne a b _ _ _ a1 b1 (q183 (fx:=fx) hk0 0 _ _ a2 b2 p),(qb2 (fx:=fx) hk0 0 _ p a2).ri⟩
theorem znt{s:zg}:∀(ns:List zg)(xs:List Iv)(es:zdx),zds .str s (xk ns xs es)=true->s∈ns\/zds .str s es=true
 | [],xs,es,h=>by cases xs<;>exact .inr h
 | _::_,[],es,h=>.inr h
 |n::ns,x::xs,es,h=>by
  simp only[xk]at h;rcases znt ns xs _ h with h|h
  .simp_all
  grind[qav]
theorem zj2:∀(ns:List zg)(xs:List Iv)(es:zdx),ns.length=xs.length->(xk ns xs es).length =es.length+ns.length->ns.Nodup/\∀n∈ns,zds .str n es=false
 | [],_,es,_,_=>OC
 |n::ns,[],es,h,_=>by simp at h
 |n::ns,r::rs,es,h,hl=>by
  have h:ns.length=rs.length:=by simpa using h
  simp only[xk,q4]at hl;have h1:=zme ns rs (zby .str n r es);have h4:=lput n r es;have h3:zds .str n es=false:=by
   grind
  rw[h3]at h4;have h4:(zby .str n r es).length =es.length+1:=h4;obtain⟨h5,h6⟩:=zj2 ns rs (zby .str n r es) h O;grind[qav]
theorem zpr{ns:List zg}{xs:List Iv}:enB ns xs=true<->qh1 ns=true/\ns.length=xs.length:=by
 unfold enB qh1;rw[decide_eq_true_iff,decide_eq_true_iff];constructor
 .grind[zj2]
 .rintro⟨⟨h1,h2⟩,h3⟩;refine⟨h3,h2,?_⟩;rw[zwi ns xs [] h1 (fun _ _=>rfl) O];simp;omega
theorem qk4{fx:Int->Iv->Int->Iv}{p:Int}{es:zdx}{K:Int->Prop}{e:Ex}(he:VK K e):(evE fx p es e).2=true->∀y∈ue e,y.k=2->zds .str y.s es=true:=by
 induction he with
 |num r hr=>
  simp_all[zge,ue,zbx,absurd,Ex.k]
 |var s hs=>
  intro h y hy h2;rw[zkq]at h;simp[zjn,ue,zbx]at hy;subst hy;exact h
 |un k a hk0 h1 hva ih=>
  intro h y hy h2;have hne:k≠1/\k≠2:=by grind[K1]
  rw[zd4 fx p _ k 0 a hne]at h;have ha:(evE fx p es a).2=true:=by
   grind
  simp only[opE,ue,zbx,q0,q1]at hy;rcases hy with rfl|hy
  .exact absurd h2 hne.2
  simp_all
 |pow n a hk0 h1 h2 hva ih=>
  intro h y hy h2;rw[zd4 fx p _ 8 n a OA]at h;have ha:(evE fx p es a).2=true:=by
   grind
  simp only[opE,ue,zbx,q0,q1]at hy;grind[Ex.k]
 |bin k a b hk0 h1 hva hvb iha ihb=>
  intro h y hy h2;have hne:k≠1/\k≠2:=by grind[K2]
  rw[zn3 fx p _ k 0 a b hne]at h;have ha:(evE fx p es a).2=true:=by
   grind
  rw[Z4 ha]at h;have hb:(evE fx p es b).2=true:=by
   grind
  simp only[opE,ue,zbx,q0,q1,q6]at hy;rcases hy with rfl|hy|hy
  .exact absurd h2 hne.2
  .simp_all
  simp_all
theorem q39{fx:Int->Iv->Int->Iv}(e:Ex)(he:Sm e)(hA:okT e=true->VK Ka e)(ns:List zg)(xs:List Iv)(hx:∀x∈xs,RI x)(h1:ns.length<9223372036854775808)(h2:xs.length<9223372036854775808)(p:Int):
 Fn 39 [] [.agg (exC e),.sl .str ns,.sl .iv xs,.int .i64 p] (.agg (ivC (zjb fx e ns xs p))) []:=by
 have c18:=y18 ns h1;have c19:=y19 e ns he h1;have c60:=r60 p;have c61:=r61;have hR:zjb fx e ns xs p=if(enB ns xs=true/\okT e=true/\pcB p=true)/\(evE fx p (xk ns xs []) e).2=true then(evE fx p (xk ns xs []) e).1 else wI0:=rfl
 have hno:¬enB ns xs=true\/knB e ns=false\/pcB p=false->zjb fx e ns xs p=wI0:=fun h=>by
  rw[hR,Z5];rintro⟨⟨a,b,c⟩,d⟩;rcases h with h|h|h
  .exact h a
  .unfold knB at h;rw[b,Bool.true_and]at h;refine Z1 h fun y hy hk=>?_
   exact(znt ns xs [] (qk4 (hA b) d y hy hk)).resolve_right (by simp[zds])
  simp_all
 have c106:enB ns xs=true->knB e ns=true->pcB p=true->Fn 106 [] [.agg (exC e),.sl .str ns,.sl .iv xs,.int .i64 p] (.agg (ivC (zjb fx e ns xs p))) []:=fun a b c=>by
  unfold knB at b;rw[Bool.and_eq_true,decide_eq_true_iff]at b;obtain⟨e1,e2,e3⟩:ns.length=xs.length/\ns.length<=200/\(xk ns xs []).length =xs.length:=Z0 a;have hv:=zrw (fx:=fx) (p:=p) (hA b.1) fun y hy h2=>zpm ns xs [] (b.2 y hy h2) O
  simp_all[Z4,q106]
 generalize zjb fx e ns xs p=R at*;clear hR;by_cases k1:qh1 ns=true
 rotate_left
 .rw[hno (.inl fun c=>k1 (zpr.1 c).1)];rw[show qh1 ns=false by grind]at c18;refine fY9 Tryz.func39 rfl ?_;refine gYn c18 ?_;refine gYn c61 ?_;exact⟨lr rfl,lh0⟩
 rw[k1]at c18;by_cases k2:ns.length=xs.length
 rotate_left
 .rw[hno (.inl fun c=>k2 (zpr.1 c).2)];refine fY9 Tryz.func39 rfl ?_;refine gYn c18 ?_;refine brI (fun _=>?_) (fun c=>?_)
  .conv=>whnf
   refine gYn c61 ?_;exact⟨lr rfl,lh0⟩
  grind
 have hb:((ns.length:Int) != (xs.length:Int))=false:=by rw[k2];simp
 have hE:=zpr.2 ⟨k1,k2⟩
 cases k3:knB e ns with
 |false=>
  rw[hno (.inr (.inl k3))];rw[k3]at c19;refine fY9 Tryz.func39 rfl ?_;refine gYn c18 ?_;refine brI (fun c=>?_) (fun _=>?_)
  .simp_all
  conv=>whnf
  refine gYn c19 ?_;refine gYn c61 ?_;exact⟨lr rfl,lh0⟩
 |true=>
  rw[k3]at c19
  cases k4:pcB p with
  |false=>
   rw[hno (.inr (.inr k4))];rw[k4]at c60;refine fY9 Tryz.func39 rfl ?_;refine gYn c18 ?_;refine brI (fun c=>?_) (fun _=>?_)
   .simp_all
   conv=>whnf
   refine gYn c19 ?_;refine gYn c60 ?_;refine gYn c61 ?_;exact⟨lr rfl,lh0⟩
  |true=>
   rw[k4]at c60;have c106:=c106 hE k3 k4;refine fY9 Tryz.func39 rfl ?_;refine gYn c18 ?_;refine brI (fun c=>?_) (fun _=>?_)
   .simp_all
   conv=>whnf
   refine gYn c19 ?_;refine gYn c60 ?_;refine gYn c106 ?_;exact⟨lr rfl,lh0⟩
def TS:Tab:= {T9 with of:= [],nb:= [(110,1),(170,1),(187,1)]}
theorem hTS:TabOK Tryz.prog TS:=zhv Z Z
theorem fYS{f:Nat}{fn:Func}{c:Code}(a:Tryz.prog.funcs[f]?=some fn)(b:fn.body=some c){H H':Hp}{A:List AV}{r:AV}{X:Prop}(k:X)(d:(fn.name == "runtime.NumGoroutine")=false:=by first|rfl)(e:(fnC TS [] c fn.ntmps H A H' fun σ=>za3 TS (CN Tryz.prog) c true σ (fun σ=>zjk TS fn.results.toList [] r H' σ) (fun _ _=>False) (fun σ=>zjk TS fn.results.toList [] r H' σ))=X:=by conv=>lhs;whnf):zmk Tryz.prog f H A r H':=fnT hTS hmx a b d (e.mpr k)
theorem ps292:Fn 292 [] [.int .u64 1] (.int .i64 1) []:=by
 refine fYS Tryz.func292 rfl ?_;refine⟨⟨OB,OB⟩,fun c hc=>?_⟩;have hc:some (1:UInt8)=some c:=hc;cases hc
 conv=>whnf
 exact⟨lr rfl,lh0⟩
theorem ps191:Fn 191 [] [.int .u64 1] (.int .i64 1) []:=by
 refine fYS Tryz.func191 rfl ?_;refine gYn ps292 ?_;exact⟨lr rfl,lh0⟩
theorem ps282(s:zg):Fn 282 [] [.sl .str [s],.int .i64 0,.int .i64 1] (.tup []) []:=by
 refine fYS Tryz.func282 rfl ?_;refine⟨Unit,fun _=>True,fun _=> [(6,.int .i64 1)],fun _=> [],fun _=>0,(),trivial,?_,fun _ _=>?_⟩
 .exact KZ0
 refine gYe ?_;exact⟨lr rfl,lh0⟩
theorem ps190(s:zg):Fn 190 [] [.sl .str [s],.int .i64 0,.int .i64 1,.int .i64 1] (.tup []) []:=by
 refine fYS Tryz.func190 rfl ?_;refine⟨Unit,fun _=>True,fun _=> [(1,.int .i64 0),(2,.int .i64 1),(3,.int .i64 1),(8,.bool true),(9,.bool true)],fun _=> [],fun _=>0,(),trivial,?_,fun _ _=>?_⟩
 .exact KZ0
 refine gYe ?_;refine gYn (ps282 s) ?_;exact⟨lr rfl,lh0⟩
theorem ps111(s:zg):Fn 111 [] [.sl .str [s]] (.tup []) []:=by
 refine fYS Tryz.func111 rfl ?_;refine gYn ps191 ?_;refine gYn (ps190 s) ?_;exact⟨lr rfl,lh0⟩
theorem ps112(s:zg):Fn 112 [] [.sl .str [s]] (.sl .str [s]) []:=by
 refine fYS Tryz.func112 rfl ?_;exact⟨lr rfl,lh0⟩
noncomputable def bodyS42:Code:=Tryz.f42.body.getD .skip
theorem ps42{e:Ex}(he:Sm e){s:zg}(hn:zj6 (zmn e)= [s]):Fn 42 [] [.agg (exC e)] (.sl .str [s]) []:=by
 refine jk (code:=bodyS42) hTS hmx Tryz.func42 rfl rfl (ex:= []) ?_;conv=>whnf
 refine ym hTS hmx 2 (fun _:Unit=>⟨[.any,.ptr 1 0,.any,.ptr 3 0]++zhn 16,[(1,.cells (exC e)),(3,.cells [.nilsl]),(6,.free)]⟩) (fun _=>Z) ?_ (fun _=>?_)
 .conv=>whnf
  refine⟨(),?_⟩;exact KZ0
 refine qey 15 Z ?_;show SemOK Tryz.prog TS Tryz.f42.results.toList [] (.sl .str [s]) [] (zps 2 bodyS42) ⟨[.any,.ptr 1 0,.any,.ptr 3 0]++zhn 16,[(1,.cells (exC e)),(3,.cells [.nilsl]),(6,.free),(15,.free)]⟩;refine zsy hTS hmx ⟨[.any,.ptr 1 0,.any,.ptr 3 0,.any,.any,.fn 188 [.ptr 6 0]]++zhn 13,[(1,.cells (exC e)),(3,.cells [.own 15]),(6,.cells (exC e)),(15,.buf 9 .str [])]⟩ Z ?_ (g:=188) (caps:= [.ptr 6 0]) rfl
  (i0:=3) (k0:=15) (bi:=1000003) (ob:=1400000) (e:=9) (k:=.str) (X:=List Ex) (Y:=Ex) (xs:=fun s=>zj6 s) (args:=fun y=> [.agg (exC y)]) (next:=fun s y=>s++ [y]) (x₀:= []) (xE:=zmn e) (r:=.tup []) (ib:= [.cells (exC e)]) rfl rfl rfl Z (fun _=>rfl) (fun s=>s.length<1000) ?_ ?_ ?_
 .conv=>whnf
  refine⟨[],[.cells (exC e)],.fn 188 [.ptr 2000000 0],f71 e,?_⟩;conv=>whnf
  ((conv=>whnf);refine And.intro ?_ ?_;repeat' first|refine lc ?_ ?_|refine lh1 ?_ ?_|refine bc0 ?_|exact KXY|refine lg0 ?_|refine lt0 ?_)
  .exact trivial
  .exact zwn rfl rfl
 .intro l J h;exact(f126 l J (fun s y hs=>h s y hs) e he).sw [(6,1000001)] rfl
 .intro x y hx;by_cases hy:y.k=2
  .refine⟨1500015,OA,?_⟩;conv=>whnf
   refine brI (fun _=>?_) (fun h=>absurd hy (by simpa using h));conv=>whnf
   refine⟨?_,?_⟩
   .have:=zlr x;simp only[q4,List.length_nil];omega
   conv=>whnf
   refine⟨?_⟩;refine lh1 (bc0 (lc (lr rfl) ln0)) (lh1 (bb0 ?_) lh0);rw[zq5];simp[zj6,hy]
  .refine⟨1400000,OA,?_⟩;conv=>whnf
   refine brI (fun h=>absurd (by simpa using h) hy) (fun _=>?_);conv=>whnf
   refine⟨?_⟩;refine lh1 (bc0 (lc (lr rfl) ln0)) (lh1 (bb0 ?_) lh0);rw[zq5];simp[zj6,hy]
 .refine xn hTS hmx ?_;rw[hn];conv=>whnf
  refine gYn (ps111 s) ?_;refine gYn (ps112 s) ?_;exact⟨lr rfl,lh0⟩
def exFL(L:List zg)(e:Ex)(ns:List zg)(rs:List Rt):Rt×Int:=
 if(ns.length=rs.length/\ns.length<=200)/\(zn5 ns rs []).length =rs.length/\qe6 e=true/\rs.all rOk=true/\L.all (zy2 (zn5 ns rs []))=true then
  (if(xcE (zn5 ns rs []) e).2=0 then xcE (zn5 ns rs []) e else(⟨0,0⟩,(xcE (zn5 ns rs []) e).2))else(⟨0,0⟩,1)
theorem ps91{e:Ex}{L:List zg}(h91:Fn 42 [] [.agg (exC e)] (.sl .str L) [])(hnl:L.length<=1000)(ns:List zg)(rs:List Rt)(h102:zft (zn5 ns rs []) e)(he:Sm e)(h1:ns.length<9223372036854775808)(h2:rs.length<9223372036854775808):
 Fn 91 [] [.agg (exC e),.sl .str ns,.sl .rat rs] (rto (exFL L e ns rs)) []:=by
 obtain⟨A,hA⟩:∃A,exFL L e ns rs=A:=⟨_,rfl⟩;rw[hA];refine fYS Tryz.func91 rfl ?_;by_cases h:ns.length=rs.length/\ns.length<=200
 rotate_left
 .have hA:A=(⟨0,0⟩,1):=by rw[<-hA,exFL,Z5 fun hh=>h hh.1]
  subst hA;refine⟨[],[.dead],.tup [.any,.bool false],qge ns rs h h1 h2,?_⟩;conv=>whnf
  exact⟨lr rfl,lh0⟩
 have h100:=f100 ns rs h;obtain⟨es,hes⟩:∃es,es=zn5 ns rs []:=⟨_,rfl⟩;rw[<-hes]at h100;unfold exFL at hA;rw[<-hes]at hA;cases hd:decide (es.length=rs.length)with
 |false=>
  rw[hd]at h100;have hA:A=(⟨0,0⟩,1):=by rw[<-hA,Z5 fun hh=>by simp at hd;exact hd hh.2.1]
  subst hA;refine⟨[],[.map .str .rat es],.tup [.mp 2000000,.bool false],h100,?_⟩;conv=>whnf
  exact⟨lr rfl,lh0⟩
 |true=>
  rw[hd]at h100;have hd:es.length=rs.length:=by simpa using hd
  refine⟨[],[.map .str .rat es],.tup [.mp 2000000,.bool true],h100,?_⟩;conv=>whnf
  refine cbI [] (qe6 e) (f101 e he) (fun h3=>?_) (fun h3=>?_)
  rotate_left
  .have hA:A=(⟨0,0⟩,1):=by rw[<-hA,Z5 fun hh=>by rw[h3]at hh;cases hh.2.2.1]
   subst hA;conv=>whnf
   exact⟨lr rfl,lh0⟩
  conv=>whnf
  refine⟨Nat,fun i=>i<=rs.length/\(rs.drop i).all rOk=rs.all rOk,fun i=> [(34,.int .i64 i)],fun _=> [],fun i=>rs.length-i,0,⟨OC,rfl⟩,?_,fun i hi=>?_⟩
  .exact KZ0
  refine gYe ?_;obtain⟨hi1,hi2⟩:=hi;refine brI (fun h4=>?_) (fun h4=>?_)
  .conv=>whnf
   have h4:i<rs.length:=by simp only[Z2]at h4;omega
   refine⟨⟨O,O⟩,fun r hr=>?_⟩;have hr:rs[i]? =some r:=by simpa using hr
   rw[qe hr]at hi2;simp only[q9]at hi2;conv=>whnf
   refine cbI [] (rOk r) (f54 r.n r.d) (fun h5=>?_) (fun h5=>?_)
   .conv=>whnf
    rw[h5]at hi2;refine⟨i+1,⟨O,by simpa using hi2⟩,by show rs.length-(i+1)<rs.length-i;omega,?_⟩;exact KZ0
   .conv=>whnf
    rw[h5]at hi2;have hA:A=(⟨0,0⟩,1):=by rw[<-hA,Z5 fun hh=>by rw[<-hi2]at hh;simp at hh]
    subst hA;exact⟨lr rfl,lh0⟩
  have h4:¬i<rs.length:=by simp only[Z3]at h4;omega
  have hok:rs.all rOk=true:=by rw[<-hi2,q5 O];rfl
  clear hi1 hi2 h4;conv=>whnf
  generalize L=nm at h91 hA hnl;refine gYn h91 ?_;refine⟨Nat,fun i=>i<=nm.length/\(nm.drop i).all (zy2 es)=nm.all (zy2 es),fun i=> [(46,.int .i64 i)],fun _=> [],fun i=>nm.length-i,0,⟨OC,rfl⟩,?_,fun i hi=>?_⟩
  .exact KZ0
  refine gYe ?_;obtain⟨hi1,hi2⟩:=hi;refine brI (fun h4=>?_) (fun h4=>?_)
  .conv=>whnf
   have h4:i<nm.length:=by simp only[Z2]at h4;omega
   refine⟨⟨O,O⟩,fun n hn=>?_⟩;have hn:nm[i]? =some n:=by simpa using hn
   rw[qe hn]at hi2;simp only[q9]at hi2;conv=>whnf
   refine brI (fun h5=>?_) (fun h5=>?_)
   .conv=>whnf
    have h5:zy2 es n=false:=by simpa[zy2]using h5
    rw[h5]at hi2;have hA:A=(⟨0,0⟩,1):=by rw[<-hA,Z5 fun hh=>by rw[<-hi2]at hh;simp at hh]
    subst hA;exact⟨lr rfl,lh0⟩
   .conv=>whnf
    have h5:zy2 es n=true:=by simpa[zy2]using h5
    rw[h5]at hi2;refine⟨i+1,⟨O,by simpa using hi2⟩,by show nm.length-(i+1)<nm.length-i;omega,?_⟩;exact KZ0
  have h4:¬i<nm.length:=by simp only[Z3]at h4;omega
  have hnm:nm.all (zy2 es)=true:=by rw[<-hi2,q5 O];rfl
  clear hi1 hi2 h4;rw[<-hes]at h102;unfold zft at h102;rw[Z4 ⟨h,hd,h3,hok,hnm⟩]at hA;generalize xcE es e=B at h102 hA;obtain⟨r,f⟩:=B;conv=>whnf
  refine⟨[.map .str .rat es],rto (r,f),h102.sw [(21,1000001)] rfl,?_⟩;conv=>whnf
  refine brI (fun h5=>?_) (fun h5=>?_)
  .conv=>whnf
   have h5:f≠0:=by simpa using h5
   rw[Z5 h5]at hA;subst hA;exact⟨lr rfl,lh0⟩
  .conv=>whnf
   have h5:f=0:=by simpa using h5
   rw[Z4 h5]at hA;subst hA;exact⟨lt0 (lc (lr rfl) (lc (ai0 h5.symm) ln0)),lh0⟩
theorem psB:Fn 91 [] [.agg (exC eB),.sl .str [[120]],.sl .rat [⟨1,1⟩]] (rto (⟨0,0⟩,10)) []:=by
 have he:Sm eB:=by simp[eB,opE,zge,zjn,Sm,SmL]
 have h:=ps91 (ps42 he (s:= [120]) OB) OA [[120]] [⟨1,1⟩] (qky _ _ _ (qa8 _ _) (qk0 _ _ _ (qa6 _ _) (qa8 _ _))) he OA OA;rw[show exFL [[120]] eB [[120]] [⟨1,1⟩]=(⟨0,0⟩,10) by decide+kernel]at h;exact h
theorem pvRI:∀x∈ [i01],RI x:=fun x hx=>by
 obtain rfl:=List.mem_singleton.1 hx;exact⟨LB0,LB1,OA,OA⟩
theorem pvE1:zjb fxA eA [[120]] [i01] 24=im1:=OB
theorem pv32:Fn 32 G0 [.agg (exC eA),.sl .str [[120]],.sl .iv [i01],.int .i64 24] (.agg (ivC im1)) G0:=by
 have h:=x16 eA (by simp[eA,xE,opE,zjn,Sm,SmL]) [[120]] [i01] pvRI OA OA 24;rw[pvE1]at h;exact h
theorem pv168{x y:Iv}(hx:RI x)(hy:RI y)(kx:kB x=true)(ky:kB y=true):Fn 168 [] [.agg (ivC x),.agg (ivC y)] (.agg (ivC ⟨zpa x.lo y.lo,zlt x.hi y.hi,false⟩)) []:=by
 have h1:=zyx x hx;have h2:=zyx y hy;rw[kx]at h1;rw[ky]at h2;have a:=(zp hx).1 kx;have b:=(zp hy).1 ky;have h3:=r162 a.lo b.lo;have h4:=qhx a.hi b.hi;generalize zpa x.lo y.lo=L at*;generalize zlt x.hi y.hi=M at*;refine fY9 Tryz.func168 rfl ?_;refine gYn h1 ?_;refine gYn h2 ?_;refine gYn h3 ?_;refine gYn h4 ?_;refine gYd ?_;exact⟨lr rfl,lh0⟩
theorem pv90{a:Int}{R:Iv}(hk:kB (zkr ⟨a,1⟩ 24)=true)(hR:(⟨zpa (zkr ⟨a,1⟩ 24).lo (zkr ⟨1,1⟩ 24).lo,zlt (zkr ⟨a,1⟩ 24).hi (zkr ⟨1,1⟩ 24).hi,false⟩:Iv)=R):Fn 90 [] [.int .i64 a,.int .i64 1] (.agg (ivC R)) []:=by
 have p:pcB 24=true:=OA;have h1:=q169 a 1 p;have h2:=q169 1 1 p;have h3:=pv168 (qdv ⟨a,1⟩ p).ri (qdv ⟨1,1⟩ p).ri hk OB;rw[hR]at h3;generalize zkr ⟨a,1⟩ 24=A at*;generalize zkr ⟨1,1⟩ 24=B at*;refine fY9 Tryz.func90 rfl ?_;refine gYn h1 ?_;refine gYn h2 ?_;refine gYn h3 ?_;exact⟨lr rfl,lh0⟩
theorem pv92:Fn 92 [] [.agg (ivC im1),.agg (ivC im1)] (.bool true) []:=by
 have c1:=x103 dm OA;have c2:=x103 d1 OA;refine fY9 Tryz.func92 rfl ?_;refine gYn c1 ?_;refine gYn c2 ?_;exact⟨lr rfl,lh0⟩
theorem pv30:Fn 30 G0 [] (.bool true) G0:=by
 have h5:=psB;refine fY9 Tryz.func30 rfl ?_;refine gYn (y7 [120]) ?_;refine gYn (y9 5 [xE,xE]) ?_;refine gYn (y9 4 [opE 5 0 [xE,xE],xE]) ?_;refine gYn (pv90 (a:=0) (R:=i01) OB OB) ?_;refine gYc pv32 ?_;refine gYd ?_;refine gYn (y11 1) ?_;refine gYn (y11 1) ?_;refine gYn (y9 4 [xE,zge ⟨1,1⟩]) ?_;refine gYn (y9 6 [zge ⟨1,1⟩,opE 4 0 [xE,zge ⟨1,1⟩]]) ?_;refine gYn h5 ?_;refine gYd ?_;refine gYn (pv90 (a:= -1) (R:=im1) OB OB) ?_;refine gYn pv92 ?_;refine gYd ?_;exact⟨lr rfl,leG⟩
theorem qmc:KI unI:=by
 refine⟨rfl,zp1,jl 1 OA,xg.2 ?_⟩;show dv (wl (-1))<=dv (wl 1);rw[kq,kq];decide
theorem cj_VI{x:Iv}(k:KI x)(cos:Bool){p:Nat}(hp:8<=p/\p<=512):VI (ciJ x cos p):=by
 have e1:dv (wl 1)=1:=kq 1;have em:dv (wl (-1))= -1:=kq (-1);have ku:=qmc;unfold ciJ;split
 .exact .inl ku
 .rename_i h2;have hH:CI (zf3 (ptI x.lo cos p) (ptI x.hi cos p)):=zp2 (zol k.lo cos p hp) (zol k.hi cos p hp);have main:KI (ciM x cos p).1/\dv (ciM x cos p).1.lo <=1/\ -1<=dv (ciM x cos p).1.hi :=by
   have hu:KI unI/\dv unI.lo<=1/\ -1<=dv unI.hi:=⟨ku,by show dv (wl (-1))<=1;rw[em];decide,by show-1<=dv (wl 1);rw[e1];decide⟩;unfold ciM at h2⊢;generalize zf3 (ptI x.lo cos p) (ptI x.hi cos p)=H at*;unfold meI at h2⊢;split
   .rename_i c;rw[Z4 c]at h2;exact absurd rfl h2
   .rename_i c1;rw[Z5 c1]at h2;split
    .exact hu
    .rename_i c2;rw[Z5 c2]at h2;rw[Z5 (show ¬unI.all=true from fun c=>by cases c)]at h2⊢;split
     .rename_i c3;rw[Z4 c3]at h2;exact absurd rfl h2
     .rename_i c3;have vH:VI H:=(zd6 hH.ri).1 (by
       cases hb:viB H with
       |true=>rfl
       |false=>exact absurd (.inl hb) c1)
      have kH:=(qij vH).1 (by simpa using c2);have hle:=xg.1 (O:qo (uq H.lo unI.lo) (yr H.hi unI.hi)<=0);have m:=(xc H.lo unI.lo).2.1;have l:dv (yr H.hi unI.hi)<=dv unI.hi:=by
       unfold yr;split
       .rename_i c;exact xg.1 c
       .exact Rat.le_refl
      have m:dv (wl (-1))<=dv (uq H.lo unI.lo):=m;have l:dv (yr H.hi unI.hi)<=dv (wl 1):=l;rw[em]at m;rw[e1]at l;exact⟨⟨rfl,zbs kH.lo ku.lo,zcv kH.hi ku.hi,xg.2 hle⟩,Rat.le_trans hle l,Rat.le_trans m hle⟩
  split
  .exact .inl main.1
  .obtain⟨km,m1,m2⟩:=main;have hle:=km.dle;refine .inl ⟨km.all,qbs (jl (-1) OA) km.lo,qbs (jl 1 OA) km.hi,xg.2 ?_⟩;have gen:∀c d:Bool,dv (if c=true then wl (-1)else(ciM x cos p).1.lo)<=dv (if d=true then wl 1 else(ciM x cos p).1.hi):=by
    intro c d;cases c<;>cases d
    .exact hle
    .show dv (ciM x cos p).1.lo <=dv (wl 1);rw[e1];exact m1
    .show dv (wl (-1))<=dv (ciM x cos p).1.hi;rw[em];exact m2
    .show dv (wl (-1))<=dv (wl 1);rw[em,e1];decide
   exact gen _ _
theorem qlo{x:Iv}(vx:VI x)(cos:Bool)(p:Int):VI (ciI x cos p):=by
 have ku:=qmc;unfold ciI;split
 .rename_i c;split
  .exact .inl ku
  .split
   .exact .inl ku
   .exact cj_VI ((zp vx.ri).1 c.2) cos (qk c.1)
 .exact .inr rfl
theorem zx8{k:Int}(hk:Kt k){n p:Int}{x y:Iv}(hx:VI x)(hy:VI y)(hp:pcB p=true):VI (apI fxA k n x y p):=by
 unfold Kt at hk;obtain rfl|rfl|rfl|rfl|rfl|rfl|rfl|rfl|rfl|rfl|rfl:k=3\/k=4\/k=5\/k=6\/k=7\/k=8\/k=9\/k=10\/k=11\/k=12\/k=13:=O
 .exact zfs hx hy hp
 .exact qiy hx hy hp
 .exact znd hx hy hp
 .exact zcp hx hy hp
 .exact qcs hx
 .exact qju hx hp
 .exact(qk2 hx (zni hx) p).1
 .exact qj8 hx p
 .exact qlo hx false p
 .exact qlo hx true p
 .exact qeo hx hp
theorem qk5{p:Int}(hp:pcB p=true){es:zdx}(hes:REs es){e:Ex}(he:VK Kt e):VI (evE fxA p es e).1:=by
 induction he with
 |num r hr=>rw[zn4];exact(zxf r hp).1
 |var s hs=>rw[zkq];exact zv2 (zo4 hes)
 |un k a hk h1 _ ih=>
  rw[zd4 fxA p es k 0 a (by unfold K1 at h1;omega)];split
  .exact zx8 hk ih qib hp
  .exact ih
 |pow n a hk h1 h2 _ ih=>
  rw[zd4 fxA p es 8 n a OA];split
  .exact zx8 hk ih qib hp
  .exact ih
 |bin k a b hk h1 _ _ ih1 ih2=>
  rw[zn3 fxA p es k 0 a b (by unfold K2 at h1;omega)];split
  .split
   .exact zx8 hk ih1 ih2 hp
   .exact ih2
  .exact ih1
def TV:Tab:= {T9 with gl:=36::T9.gl}
theorem hTV:TabOK Tryz.prog TV:=zhv Z Z
theorem fYV{f:Nat}{fn:Func}{c:Code}(a:Tryz.prog.funcs[f]?=some fn)(b:fn.body=some c){H H':Hp}{A:List AV}{r:AV}{X:Prop}(k:X)(d:(fn.name == "runtime.NumGoroutine")=false:=by first|rfl)(e:(fnC TV [] c fn.ntmps H A H' fun σ=>za3 TV (CN Tryz.prog) c true σ (fun σ=>zjk TV fn.results.toList [] r H' σ) (fun _ _=>False) (fun σ=>zjk TV fn.results.toList [] r H' σ))=X:=by conv=>lhs;whnf):zmk Tryz.prog f H A r H':=fnT hTV hmx a b d (e.mpr k)
theorem qik(e:Ex)(ns:List zg)(xs:List Iv)(hx:∀x∈xs,RI x)(p:Int):viB (zjb fxA e ns xs p)=true:=by
 have hr:=zyn e ns xs hx p;refine(zd6 hr).2 ?_;unfold zjb;split
 .rename_i c;exact qk5 c.1.2.2 (zhl ns xs [] hx fun q hq=>by cases hq) (qhf (zh9 c.1.2.1))
 .exact .inr rfl
theorem vx0{P:Iv->Prop}{a:Iv}{l:List Iv}(h:P a):((0:Int)<=0/\(0:Int)<((a::l).length :Int))/\∀x,(a::l)[(0:Int).toNat]? =some x->P x:=
 ⟨⟨O,by simp_all⟩,fun x hx=>(show a=x by grind)▸h⟩
theorem vx1{P:Iv->Prop}{a b:Iv}{l:List Iv}(h:P b):((0:Int)<=1/\(1:Int)<((a::b::l).length :Int))/\∀x,(a::b::l)[(1:Int).toNat]? =some x->P x:=
 ⟨⟨O,by grind⟩,fun x hx=>(show b=x by grind)▸h⟩
theorem vx2{P:Iv->Prop}{a b c:Iv}{l:List Iv}(h:P c):((0:Int)<=2/\(2:Int)<((a::b::c::l).length :Int))/\∀x,(a::b::c::l)[(2:Int).toNat]? =some x->P x:=
 ⟨⟨O,by grind⟩,fun x hx=>(show c=x by grind)▸h⟩
theorem qhe:VK Ka (zge ⟨1,1⟩):=.num _ OB
theorem qdp:Sm (zge ⟨1,1⟩):=⟨OA,OA,trivial⟩
theorem q7(e:Ex)(ns:List zg)(xs:List Iv)(p:Int)(he:Sm e)(h1:ns.length<9223372036854775808)(h2:xs.length<9223372036854775808)(hx:∀x∈xs,LB x.lo.m/\LB x.hi.m):
 Fn 7 G0 [.agg (exC e),.sl .str ns,.sl .iv xs,.int .i64 p] (.bool true) G0:=by
 have hg:=x10 ns xs p h1 h2;by_cases g1:grB ns xs p=true
 .rw[g1]at hg;refine fYV Tryz.func7 rfl ?_;refine gYc pv30 ?_;refine gYn hg ?_;exact⟨lr rfl,leG⟩
 have g1:grB ns xs p=false:=by grind
 rw[g1]at hg;have l1:=qf6 g1;have rx:∀x∈xs,RI x:=fun x hxx=>⟨(hx x hxx).1,(hx x hxx).2,by grind,by grind⟩
 have c16:=x16 e he ns xs rx h1 h2 p;have c32:=z32 e he;have hvi:=qik e ns xs rx p;have hri:=zyn e ns xs rx p;by_cases hna:okT e=true/\zya (ue e)=false
 .have h12:=x12 e (by grind[qef]);rw[hna.2]at h12;rw[hna.1]at c32;have c35:=i51 _ hri;rw[hvi]at c35;generalize zjb fxA e ns xs p=V at*;refine fYV Tryz.func7 rfl ?_;refine gYc pv30 ?_;refine gYn hg ?_;refine gYc c16 ?_;refine gYn c32 ?_;refine gYn h12 ?_;refine gYn c35 ?_;exact⟨lr rfl,leG⟩
 have hK:okT e=true->∀y∈ue e,alg y.k:=fun h y hy=>by
  simp_all[zya,ue,absurd,Z0,q8]
 have hVK:okT e=true->VK Ka e:=fun h=>zoh (zh9 h) (hK h)
 have hal:okT e=true->Fn 34 [] [.agg (exC e)] (.bool true) []:=fun h=>by
  grind[x12,qef,zya,ue,q8,Z6]
 have c36:=x18 [e,zge ⟨1,1⟩,e] (fun x hx=>by
  grind[qdp]) OC ns xs rx h1 h2 p
 have c36:Fn 36 G0 [.sl .ex [e,zge ⟨1,1⟩,e],.sl .str ns,.sl .iv xs,.int .i64 p] (.sl .iv [zjb fxA e ns xs p,zjb fxA (zge ⟨1,1⟩) ns xs p,zjb fxA e ns xs p]) G0:=c36;have c39:=q39 (fx:=fxA) e he hVK ns xs rx h1 h2 p;have c39o:=q39 (fx:=fxA) (zge ⟨1,1⟩) qdp (fun _=>qhe) ns xs rx h1 h2 p;have hro:=zyn (zge ⟨1,1⟩) ns xs rx p;have c37:=y11 1;generalize zjb fxA e ns xs p=V at*;generalize zjb fxA (zge ⟨1,1⟩) ns xs p=V1 at*;have s1:=x20 V hri.l1 hri.l2;have s2:=x20 V1 hro.l1 hro.l2;clear hK hVK hna hvi hri hro;generalize okT e=B at c32 hal;obtain⟨k,⟨qn,qd⟩,s,m,l⟩:=e
 cases B with
 |false=>
  refine fYV Tryz.func7 rfl ?_;refine gYc pv30 ?_;refine gYn hg ?_;refine gYc c16 ?_;refine gYn c32 ?_;refine gYn c37 ?_;refine gYc c36 ?_;refine gYd ?_;refine gYn c39 ?_;refine gYn s1 ?_;refine vx0 ?_;conv=>whnf
  refine gYn s1 ?_;refine vx2 ?_;conv=>whnf
  refine gYn s1 ?_;refine vx1 ?_;conv=>whnf
  refine gYn c37 ?_;refine gYn c39o ?_;refine gYn s2 ?_;refine gYd ?_;exact⟨lr rfl,leG⟩
 |true=>
  have h12:=hal rfl;refine fYV Tryz.func7 rfl ?_;refine gYc pv30 ?_;refine gYn hg ?_;refine gYc c16 ?_;refine gYn c32 ?_;refine gYn h12 ?_;refine gYn c37 ?_;refine gYc c36 ?_;refine gYd ?_;refine gYn c39 ?_;refine gYn s1 ?_;refine vx0 ?_;conv=>whnf
  refine gYn s1 ?_;refine vx2 ?_;conv=>whnf
  refine gYn s1 ?_;refine vx1 ?_;conv=>whnf
  refine gYn c37 ?_;refine gYn c39o ?_;refine gYn s2 ?_;refine gYd ?_;exact⟨lr rfl,leG⟩
