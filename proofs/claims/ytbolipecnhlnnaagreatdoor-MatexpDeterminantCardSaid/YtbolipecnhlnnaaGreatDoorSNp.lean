/- linear.Det. -/
import Derived.Test.YtbolipecnhlnnaaGreatDoorSNx
import Derived.Test.YtbolipecnhlnnaaGreatDoorSNl
set_option linter.unusedVariables false
set_option linter.unusedSimpArgs false
open And renaming intro->q3
open BitVec renaming ofInt->q2
open Int renaming toNat_natCast->q1
open List renaming mem_of_getElem?->q0,mem_or_eq_of_mem_set->q4,length_replicate->q5
open Go.IntKind renaming i64->q6
namespace Go.Proofs.YtbolipecnhlnnaaGreatDoor
open Go Go.Sx
set_option maxRecDepth 100000
set_option maxHeartbeats 8000000
def TD:Tab:= {TM with gl:=24::TM.gl}
theorem hTD:TabOK Tryz.prog TD:=zgi (by kernel_rfl) (by kernel_rfl)
theorem d80 (p:Int) (hp:pcB p=true):Fn 80 [] [.int .i64 p] (.bool true) []:=by
 have hp8:8<=p/\p<=512:=by unfold pcB at hp;simpa using hp
 refine fnT hTD hmx Tryz.func80 rfl rfl (ex:= []) ?_;conv=>whnf
 refine brI (fun c=>?_) (fun c=>absurd (Z1 c) (by omega));conv=>whnf
 exact⟨ab0 (Z6 hp8.2),lh0⟩
theorem d81 {n:Nat} {a:Mx} (va:VM n n a):Fn 81 [] [.sl .vs a] (.bool true) []:=by
 have c:=zfg va.rx va.ok;have hal:=va.len;have n1:=va.n1;refine fnT hTD hmx Tryz.func81 rfl rfl (ex:= []) ?_;conv=>whnf
 refine gZn c ?_;conv=>whnf
 refine⟨⟨by omega,by omega⟩,fun(r:List Iv) hr=>?_⟩;have hr:a[0]? =some r:=hr;have hrl:=va.row r (q0 hr);conv=>whnf
 exact⟨ab0 (by simp;omega),lh0⟩
theorem qe4: ∀s:Fin 8,∀n:Fin 4,1<=s.val->s.val<2^n.val->1<=zq8 s.val n.val/\zq8 s.val n.val<=n.val:=by decide+kernel
theorem ztc (a:Mx) (p:Int) (n:Nat): ∀s,(mnL a p n s).length =2^n
 |0=>by simp[mnL]
 |s+1=>by simp only[mnL];rw[List.length_set,ztc a p n s]
theorem sh_n: ∀n:Fin 4,q6.wrap (1*2^min (((n.val:Nat):Int)).toNat q6.bits)=((2^n.val:Nat):Int):=by decide+kernel
theorem sh_w {n:Nat} (h:n<=3):q6.wrap (1*2^min ((n:Int)).toNat q6.bits)=((2^n:Nat):Int):=sh_n ⟨n,by omega⟩
theorem p8 {n:Nat} (h:n<=3):1<=2^n/\2^n<=8:=⟨Nat.one_le_two_pow,Nat.pow_le_pow_right (show 0<2 by decide) h⟩
theorem bit_n: ∀s:Fin 8,∀c:Fin 3,q6.wrap ((q2 q6.bits (Int.fdiv ((s.val:Nat):Int) (2^min (((c.val:Nat):Int)).toNat q6.bits))&&& q2 q6.bits 1).toNat :Int)=if zq4 s.val c.val=true then 1 else 0:=by decide+kernel
theorem qhm {s c:Nat} (hs:s<8) (hc:c<3):q6.wrap ((q2 q6.bits (Int.fdiv ((s:Nat):Int) (2^min (((c:Nat):Int)).toNat q6.bits))&&& q2 q6.bits 1).toNat :Int)=if zq4 s c=true then 1 else 0:=bit_n ⟨s,hs⟩ ⟨c,hc⟩
theorem an_n: ∀s:Fin 8,∀c:Fin 3,zq4 s.val c.val=true->2^c.val<=s.val/\q6.wrap ((q2 q6.bits ((s.val:Nat):Int)&&& ~~~q2 q6.bits (q6.wrap (1*2^min (((c.val:Nat):Int)).toNat q6.bits))).toNat :Int)=((s.val-2^c.val:Nat):Int):=by decide+kernel
theorem an_w {s c:Nat} (hs:s<8) (hc:c<3) (h:zq4 s c=true):2^c<=s/\q6.wrap ((q2 q6.bits ((s:Nat):Int)&&& ~~~q2 q6.bits (q6.wrap (1*2^min (((c:Nat):Int)).toNat q6.bits))).toNat :Int)=((s-2^c:Nat):Int):=an_n ⟨s,hs⟩ ⟨c,hc⟩ h
theorem zun (a:Mx) (p:Int) (M:List Iv) (s r:Nat): ∀c,RI (dtS a p M s r c).2
 |0=>(zbc qb).ri
 |c+1=>by
  cases h:zq4 s c with
  |false=>simp only[dtS];rw[Z5 (by rw[h];simp)];exact zun a p M s r c
  |true=>simp only[dtS];rw[Z4 h];exact zjc _ _ _
theorem zzd (a:Mx) (p:Int) (n:Nat): ∀s,∀y∈mnL a p n s,RI y
 |0,y,h=>by
  simp only[mnL]at h;rcases q4 h with h|rfl
  .rw[(List.mem_replicate.1 h).2];exact(zbc qb).ri
  .exact(xq (n:=1) (by decide)).ri
 |s+1,y,h=>by
  simp only[mnL]at h;rcases q4 h with h|rfl
  .exact zzd a p n s y h
  .exact zun _ _ _ _ _ _
theorem qe3 (s c:Nat):zq8 s (c+1)=zq8 s c+(if zq4 s c=true then 1 else 0):=rfl
theorem zy5 (s:Nat): ∀c,zq8 s c<=c
 |0=>Nat.le_refl _
 |c+1=>by have:=zy5 s c;rw[qe3];split<;>omega
theorem qgz {a:Mx} {p:Int} {M:List Iv} {s r c:Nat} (h:zq4 s c=false):dtS a p M s r (c+1)=dtS a p M s r c:=by simp only[dtS];rw[Z5 (by rw[h];simp)]
theorem qgy {a:Mx} {p:Int} {M:List Iv} {s r c:Nat} (h:zq4 s c=true):dtS a p M s r (c+1)=((dtS a p M s r c).1+1,ka (dtS a p M s r c).2 (sgI (r-1+(dtS a p M s r c).1) (wu (atM a (r-1) c) (M[s-2^c]?.getD zI) p)) p):=by simp only[dtS];rw[Z4 h]
theorem zzu {a:Mx} {p:Int} {M:List Iv} {s r:Nat}: ∀c,(dtS a p M s r c).1<=c
 |0=>Nat.le_refl _
 |c+1=>by
  have:=zzu (a:=a) (p:=p) (M:=M) (s:=s) (r:=r) c
  cases h:zq4 s c with
  |false=>rw[qgz h];omega
  |true=>rw[qgy h];show _+1<=_;omega
theorem R_nlm {ρ:Env} {v:Value} (h:R ρ (.agg [.bool false,.nilsl,.int .i64 0]) v):R ρ (.agg (dyC d0)) v:=by
 obtain⟨vs,hv,h⟩:=h;refine⟨vs,hv,?_⟩
 match vs.toList,h with
 | [a,b,c],⟨h1,h2,h3,_⟩=>exact⟨h1,zz5 h2,h3,trivial⟩
theorem d82z:Fn 82 [] [.agg [.bool false,.nilsl,.int .i64 0]] (.agg (ivC (zd d0))) []:=by
 have c:=qca qb;exact⟨c.1,fun w M pt ow S vs hc hk hv=>c.2 w M pt ow S vs hc hk (match vs,hv with
  | _::_,⟨h1,h2⟩=>⟨R_nlm h1,h2⟩)⟩
theorem n24d {n:Nat} {a:Mx} (va:VM n n a) (hn:n<=3) {p:Int} (hp:pcB p=true):Fn 24 G0 [.sl .vs a,.int .i64 p] (.tup [.agg (ivC (zrd a p n)),.int .i64 0]) G0:=by
 have c80:=d80 p hp;have c81:=d81 va;have hal:=va.len;have n1:=va.n1;have h8:=p8 hn;have c83:=v77 1 (by decide);have c82:Fn 82 [] [.agg (dyC (za6 1))] (.agg (ivC (whI 1))) []:=qca (zb7 1 (by decide));have c82z:=d82z;refine fnT hTD hmx Tryz.func24 rfl rfl (ex:= []) ?_;conv=>whnf
 refine gZn c80 ?_;conv=>whnf
 refine gZn c81 ?_;conv=>whnf
 rw[hal];refine⟨by omega,?_⟩;conv=>whnf
 rw[sh_w hn];refine⟨⟨by omega,by omega,by omega⟩,?_⟩;conv=>whnf
 refine gZc c83 ?_;conv=>whnf
 refine gZn c82 ?_;conv=>whnf
 refine⟨⟨by omega,by rw[q5,q1];omega⟩,?_⟩;conv=>whnf
 refine⟨by rw[q5,q1];show 0<2^n;omega,?_⟩;conv=>whnf
 refine⟨Nat,fun s=>s+1<=2^n,fun s=> [(8,.int .i64 ((s+1:Nat):Int)),(32,.any)],fun s=> [(28,.buf 28 .iv (mnL a p n s)),(10,.free),(14,.free)],fun s=>2^n-s,0,by show 0+1<=2^n;omega,?_,fun s hs=>?_⟩
 ·((conv=>whnf);refine q3 ?_ ?_;repeat' first|refine lc ?_ ?_|exact la0|exact lr rfl|exact ln0|refine lh1 ?_ ?_|exact lh0|exact bf0|exact bd0|refine bc0 ?_|exact bm0 rfl|exact bb0 rfl|exact bg0 rfl|exact li0 rfl|refine lg0 ?_|refine lt0 ?_|fail)
  all_goals first|exact ai0 rfl|(refine bb0 ?_;rw[q1];rfl)
 have hs:s+1<=2^n:=hs;have hml:=ztc a p n s
 (refine⟨by kernel_rfl,?_⟩;(conv=>whnf))
 refine⟨by omega,?_⟩;conv=>whnf
 rw[sh_w hn];refine brI (fun c=>?_) (fun c=>?_)
 .have c:s+1<2^n:=by have:=Z0 c;omega
  conv=>whnf
  refine gZn c82z ?_;conv=>whnf
  refine⟨Nat,fun j=>j<=n,fun j=> [(42,.int .i64 j),(9,.int .i64 ((zq8 (s+1) j:Nat):Int))],fun j=> [],fun j=>n-j,0,Nat.zero_le _,?_,fun j hj=>?_⟩
  ·((conv=>whnf);refine q3 ?_ ?_;repeat' first|refine lc ?_ ?_|exact la0|exact lr rfl|exact ln0|refine lh1 ?_ ?_|exact lh0|exact bf0|exact bd0|refine bc0 ?_|exact bm0 rfl|exact bb0 rfl|exact bg0 rfl|exact li0 rfl|refine lg0 ?_|refine lt0 ?_|fail)
  have hj:j<=n:=hj
  (refine⟨by kernel_rfl,?_⟩;(conv=>whnf))
  refine brI (fun c2=>?_) (fun c2=>?_)
  .have c2:j<n:=by have:=Z0 c2;omega
   have hb:=qhm (s:=s+1) (c:=j) (by omega) (by omega);have hps:=qe3 (s+1) j;have hpl:=zy5 (s+1) j;conv=>whnf
   refine⟨by omega,?_⟩;conv=>whnf
   refine⟨j+1,c2,by show n-(j+1)<n-j;omega,?_⟩;rw[hb]
   ((conv=>whnf);refine q3 ?_ ?_;repeat' first|refine lc ?_ ?_|exact la0|exact lr rfl|exact ln0|refine lh1 ?_ ?_|exact lh0|exact bf0|exact bd0|refine bc0 ?_|exact bm0 rfl|exact bb0 rfl|exact bg0 rfl|exact li0 rfl|refine lg0 ?_|refine lt0 ?_|fail)
   .exact ai0 (by
     rw[hps];by_cases q:zq4 (s+1) j=true
     .rw[Z4 q,Z4 q,wI (by omega)];omega
     .rw[Z5 q,Z5 q,wI (by omega)];omega)
   .exact ai0 (by rw[wI (by omega)];omega)
  .have c2:j=n:=by have:=Z1 c2;omega
   subst c2;obtain⟨r1,r2⟩:=qe4 ⟨s+1,by omega⟩ ⟨j,by omega⟩ (by show 1<=s+1;omega) c;have r1:1<=zq8 (s+1) j:=r1;have r2:zq8 (s+1) j<=j:=r2;have hM:=zgv a p j s rfl;obtain⟨r,hr⟩: ∃r,zq8 (s+1) j=r:=⟨_,rfl⟩;obtain⟨M,hMe⟩: ∃M,mnL a p j s=M:=⟨_,rfl⟩;rw[hr]at r1 r2 hM⊢;rw[hMe]at hM hml⊢;have rdt:=zun a p M (s+1) r;have rM:=zzd a p j s;rw[hMe]at rM;conv=>whnf
   refine⟨Nat,fun i=>i<=j,fun i=> [(53,.int .i64 i),(11,.int .i64 (((dtS a p M (s+1) r i).1:Nat):Int))],fun i=> [(10,.cells (ivC (dtS a p M (s+1) r i).2)),(14,.free)],fun i=>j-i,0,Nat.zero_le _,?_,fun i hi=>?_⟩
   ·((conv=>whnf);refine q3 ?_ ?_;repeat' first|refine lc ?_ ?_|exact la0|exact lr rfl|exact ln0|refine lh1 ?_ ?_|exact lh0|exact bf0|exact bd0|refine bc0 ?_|exact bm0 rfl|exact bb0 rfl|exact bg0 rfl|exact li0 rfl|refine lg0 ?_|refine lt0 ?_|fail)
   have hi:i<=j:=hi
   (refine⟨by kernel_rfl,?_⟩;(conv=>whnf))
   refine brI (fun c3=>?_) (fun c3=>?_)
   .have c3:i<j:=by have:=Z0 c3;omega
    have hb:=qhm (s:=s+1) (c:=i) (by omega) (by omega);have hdl:=zzu (a:=a) (p:=p) (M:=M) (s:=s+1) (r:=r) i;conv=>whnf
    refine⟨by omega,?_⟩;conv=>whnf
    rw[hb]
    cases hbit:zq4 (s+1) i with
    |false=>
     have hd:=qgz (a:=a) (p:=p) (M:=M) (r:=r) hbit;rw[Z5 (by simp)];conv=>whnf
     refine⟨i+1,c3,by show j-(i+1)<j-i;omega,?_⟩
     ((conv=>whnf);refine q3 ?_ ?_;repeat' first|refine lc ?_ ?_|exact la0|exact lr rfl|exact ln0|refine lh1 ?_ ?_|exact lh0|exact bf0|exact bd0|refine bc0 ?_|exact bm0 rfl|exact bb0 rfl|exact bg0 rfl|exact li0 rfl|refine lg0 ?_|refine lt0 ?_|fail)
     all_goals first|exact ai0 (by rw[wI (by omega)];omega)|(rw[hd];exact lr rfl)
    |true=>
     have hd:=qgy (a:=a) (p:=p) (M:=M) (r:=r) hbit;have hw:q6.wrap ((r:Int)-1)=((r-1:Nat):Int):=by rw[wI (by omega)];omega
     rw[Z4 rfl];conv=>whnf
     rw[hw];refine⟨⟨by omega,by omega⟩,fun(row:List Iv) hrow=>?_⟩;have hrow:a[r-1]? =some row:=by simpa using hrow
     have hrl:=va.row row (q0 hrow);conv=>whnf
     refine⟨⟨by omega,by omega⟩,fun(x:Iv) hx=>?_⟩;have hx:row[i]? =some x:=by simpa using hx
     conv=>whnf
     refine⟨by omega,?_⟩;conv=>whnf
     obtain⟨an1,an2⟩:=an_w (s:=s+1) (c:=i) (by omega) (by omega) hbit;have hlt:s+1-2^i<M.length:=Nat.lt_of_le_of_lt (Nat.sub_le _ _) (by rw[hml];exact c);rw[an2];refine⟨⟨Int.natCast_nonneg _,Int.ofNat_lt.2 hlt⟩,?_⟩;conv=>whnf
     refine⟨by rw[q1];exact hlt,fun(y:Iv) hy=>?_⟩;have hy:M[s+1-2^i]? =some y:=by
      have hy:M[(((s+1-2^i:Nat)):Int).toNat]? =some y:=hy
      rwa [q1]at hy
     have c21:Fn 21 G0 [.agg (ivC x),.agg (ivC y),.int .i64 p] (.agg (ivC (wu x y p))) G0:=i84 x y (va.ri row (q0 hrow) x (q0 hx)) (rM y (q0 hy)) p;have hxy:wu (atM a (r-1) i) (M[s+1-2^i]?.getD zI) p=wu x y p:=by rw[zez hrow hx,hy];rfl
     rw[hxy]at hd;have rX:RI (wu x y p):=zjb _ _ _;generalize wu x y p=X at*;have c26:Fn 26 [] [.agg (ivC X)] (.agg (ivC (zbe X))) []:=i86 X rX;have rI:=rdt i;have c23: ∀Y,RI Y->Fn 23 G0 [.agg (ivC (dtS a p M (s+1) r i).2),.agg (ivC Y),.int .i64 p] (.agg (ivC (ka (dtS a p M (s+1) r i).2 Y p))) G0:=fun Y hY=>i82 _ Y rI hY p
     have rN:RI (zbe X):=(zz8 rX).ri;generalize hdi:dtS a p M (s+1) r i=D at*;have hw2:q6.wrap (((r-1:Nat):Int)+(D.1:Int))=((r-1+D.1:Nat):Int):=by rw[wI (by omega)];omega
     have hw3:(((r-1+D.1:Nat):Int)).tmod 2=(((r-1+D.1) % 2:Nat):Int):=by
      rw[Int.tmod_eq_emod_of_nonneg (by omega)];omega
     conv=>whnf
     refine gZc c21 ?_
     (refine⟨by kernel_rfl,by kernel_rfl,?_⟩;(conv=>whnf))
     refine⟨by decide,?_⟩;conv=>whnf
     rw[hw,hw2,hw3];by_cases hodd:(r-1+D.1) % 2=1
     .have hsg:sgI (r-1+D.1) X=zbe X:=by unfold sgI;rw[Z4 hodd]
      have hd:dtS a p M (s+1) r (i+1)=(D.1+1,ka D.2 (sgI (r-1+D.1) X) p):=hd;rw[hsg]at hd;have c23n:=c23 _ rN;generalize zbe X=N at*;refine brI (fun h=>?_) (fun h=>absurd (beq_eq_false_iff_ne.1 h) (by omega));conv=>whnf
      refine gZn c26 ?_;conv=>whnf
      refine gZc c23n ?_;conv=>whnf
      refine⟨i+1,c3,by show j-(i+1)<j-i;omega,?_⟩
      ((conv=>whnf);refine q3 ?_ ?_;repeat' first|refine lc ?_ ?_|exact la0|exact lr rfl|exact ln0|refine lh1 ?_ ?_|exact lh0|exact bf0|exact bd0|refine bc0 ?_|exact bm0 rfl|exact bb0 rfl|exact bg0 rfl|exact li0 rfl|refine lg0 ?_|refine lt0 ?_|fail)
      all_goals first|exact ai0 (by rw[wI (by omega)];omega)|(rw[hd];exact lr rfl)|(rw[hd];exact ai0 (by rw[wI (by omega)];omega))
     .have hsg:sgI (r-1+D.1) X=X:=by unfold sgI;rw[Z5 hodd]
      have hd:dtS a p M (s+1) r (i+1)=(D.1+1,ka D.2 (sgI (r-1+D.1) X) p):=hd;rw[hsg]at hd;have c23n:=c23 _ rX;refine brI (fun h=>absurd (eq_of_beq h) (by omega)) (fun h=>?_);conv=>whnf
      refine gZc c23n ?_;conv=>whnf
      refine⟨i+1,c3,by show j-(i+1)<j-i;omega,?_⟩
      ((conv=>whnf);refine q3 ?_ ?_;repeat' first|refine lc ?_ ?_|exact la0|exact lr rfl|exact ln0|refine lh1 ?_ ?_|exact lh0|exact bf0|exact bd0|refine bc0 ?_|exact bm0 rfl|exact bb0 rfl|exact bg0 rfl|exact li0 rfl|refine lg0 ?_|refine lt0 ?_|fail)
      all_goals first|exact ai0 (by rw[wI (by omega)];omega)|(rw[hd];exact lr rfl)|(rw[hd];exact ai0 (by rw[wI (by omega)];omega))
   .have c3:i=j:=by have:=Z1 c3;omega
    subst c3;conv=>whnf
    refine⟨⟨by omega,by omega⟩,?_⟩;conv=>whnf
    refine⟨by rw[q1];omega,?_⟩;conv=>whnf
    refine⟨s+1,c,by show 2^i-(s+1)<2^i-s;omega,?_⟩
    ((conv=>whnf);refine q3 ?_ ?_;repeat' first|refine lc ?_ ?_|exact la0|exact lr rfl|exact ln0|refine lh1 ?_ ?_|exact lh0|exact bf0|exact bd0|refine bc0 ?_|exact bm0 rfl|exact bb0 rfl|exact bg0 rfl|exact li0 rfl|refine lg0 ?_|refine lt0 ?_|fail)
    all_goals first|exact ai0 (by rw[wI (by omega)];omega)|(refine bb0 ?_;rw[hM,q1])
 .have c:s+1=2^n:=by have:=Z1 c;omega
  conv=>whnf
  refine⟨by omega,?_⟩;conv=>whnf
  rw[sh_w hn];have hw:q6.wrap (((2^n:Nat):Int)-1)=((2^n-1:Nat):Int):=by rw[wI (by omega)];omega
  rw[hw];refine⟨⟨by omega,by rw[hml];omega⟩,?_⟩;conv=>whnf
  refine⟨by rw[q1,hml];omega,fun(y:Iv) hy=>?_⟩;have hy:(mnL a p n s)[2^n-1]? =some y:=by
   have hy:(mnL a p n s)[(((2^n-1:Nat)):Int).toNat]? =some y:=hy
   rwa [q1]at hy
  have hdet:zrd a p n=y:=by
   unfold zrd;rw[show 2^n-1=s by omega]at hy⊢;rw[hy];rfl
  rw[hdet];conv=>whnf
  exact⟨lr rfl,zax⟩
theorem d5 (a:Mx) (ha:RX a) (t:Iv) (ht:RI t) {P:Int} (hP:0<=P/\P<=255):
 Fn 5 G0 [.sl .vs a,.agg (ivC t),.int .u8 P] (.bool true) G0:=by
 cases e1:zm6 a t []with
 |false=>
  have c1:=n18n ha ht e1;refine fnT hTD hmx Tryz.func5 rfl rfl (ex:= []) ?_;conv=>whnf
  refine gZc n8 ?_;conv=>whnf
  refine gZn c1 ?_;conv=>whnf
  refine gZc n8 ?_;conv=>whnf
  exact⟨lr rfl,zax⟩
 |true=>
 obtain⟨sm,_⟩:=sm_ok e1;obtain⟨n,va,kt,_⟩:=zi6 ha ht sm.cas;have hel:=zz0 ha ht sm.cas;have hn:n<=3:=by rw[<-va.len];exact sm.n3
 obtain⟨k,rfl⟩: ∃k,n=k+1:=⟨n-1,by have:=va.n1;omega⟩;have hk:k<=2:=by omega
 have hp:pcB (24+P % 41)=true:=by unfold pcB;simp;omega
 have c10:=n18n ha ht e1;have c12:=n19 P hP;have hal:=va.len;have c16:=n23z a (by omega) (fun r hr=>by rw[va.row r hr];omega);have hcr:=lo_cr va;generalize 24+P % 41=p at*;have gt:=znq kt;have lt:=zw9 sm.lt;have KT:=zbc kt.lo;obtain⟨w,hw⟩:=qep hk va sm kt hel hcr kt.lo ⟨gt.2.1,gt.2.2.1⟩ lt.2.2.1 hp;have hin:=qg9 hcr;have hM:=qcs hk hin kt.lo hp hw;obtain⟨z,hz⟩:=n54 hM;obtain⟨v1,v2⟩:=zu2 hcr.v KT hp hw;obtain⟨vt,it⟩:=qal hin k (Nat.le_refl _);have c17:=n31 t.lo;have c18:=n14 (loM a) hcr.v.rx (zd t.lo) KT.ri p;rw[(qgn hcr KT hp).1,hw]at c18;have c18:Fn 18 G0 [.sl .vs (loM a),.agg (ivC (zd t.lo)),.int .i64 p] (.tup [.sl .vs w.exp,.int .i64 0]) G0:=c18;have c19:Fn 19 [] [.int .i64 0] (.agg (ivC (trI (loM a) 0))) []:=n24 0 (by decide);have c24:=n24d v1 hn hp;have c21:Fn 21 G0 [.agg (ivC (trI (loM a) (k+1))),.agg (ivC (zd t.lo)),.int .i64 200] (.agg (ivC (wu (trI (loM a) (k+1)) (zd t.lo) 200))) G0:=i84 _ _ vt.ri KT.ri 200;have c20:Fn 20 G0 [.agg (ivC (wu (trI (loM a) (k+1)) (zd t.lo) 200)),.int .i64 p] (.agg (ivC (zxx (wu (trI (loM a) (k+1)) (zd t.lo) 200) p))) G0:=x33 _ (zjb _ _ _) p;have rtr: ∀i,RI (trI (loM a) i):=fun i=>by
  cases i with
  |zero=>exact(xq (n:=0) (by decide)).ri
  |succ i=>exact zjc _ _ _
 have vcr:=hcr.v;have c23: ∀(i:Nat) (r:List Iv) (y:Iv),(loM a)[i]? =some r->r[i]? =some y->Fn 23 G0 [.agg (ivC (trI (loM a) i)),.agg (ivC y),.int .i64 200] (.agg (ivC (trI (loM a) (i+1)))) G0:=fun i r y hr hy=>by
  have e:trI (loM a) (i+1)=ka (trI (loM a) i) y 200:=by
   show ka (trI (loM a) i) (atM (loM a) i i) 200=_;rw[zez hr hy]
  rw[e];exact i82 _ _ (rtr i) (vcr.ri r (q0 hr) y (q0 hy)) 200
 have hml:(loM a).length =k+1:=vcr.len;have hmr: ∀(i:Nat) (r:List Iv),(loM a)[i]? =some r->r.length=k+1:=fun i r hr=>vcr.row r (q0 hr)
 generalize zxx (wu (trI (loM a) (k+1)) (zd t.lo) 200) p=u at*;generalize wu (trI (loM a) (k+1)) (zd t.lo) 200=v at*;generalize zrd w.exp p (k+1)=d at*;generalize zd t.lo=S at*;generalize loM a=m at*;clear hM vt it v1 v2 hin gt lt KT hcr rtr vcr hel sm hw;obtain⟨X,Y⟩:=w;simp only at*;refine fnT hTD hmx Tryz.func5 rfl rfl (ex:= []) ?_;conv=>whnf
 refine gZc n8 ?_;conv=>whnf
 refine gZn c10 ?_;conv=>whnf
 refine gZn c12 ?_;conv=>whnf
 refine gZn c16 ?_;conv=>whnf
 refine gZn c17 ?_
 (refine⟨by kernel_rfl,by kernel_rfl,?_⟩;(conv=>whnf))
 refine gZc c18 ?_;conv=>whnf
 refine gZn c19 ?_;conv=>whnf
 refine⟨Nat,fun i=>i<=m.length,fun i=> [(46,.int .i64 i)],fun i=> [(12,.cells (ivC (trI m i)))],fun i=>m.length-i,0,Nat.zero_le _,?_,fun i hi=>?_⟩
 ·((conv=>whnf);refine q3 ?_ ?_;repeat' first|refine lc ?_ ?_|exact la0|exact lr rfl|exact ln0|refine lh1 ?_ ?_|exact lh0|exact bf0|exact bd0|refine bc0 ?_|exact bm0 rfl|exact bb0 rfl|exact bg0 rfl|exact li0 rfl|refine lg0 ?_|refine lt0 ?_|fail)
 (refine⟨by kernel_rfl,?_⟩;(conv=>whnf))
 refine brI (fun c=>?_) (fun c=>?_)
 .have c:i<m.length:=by have:=Z0 c;omega
  conv=>whnf
  refine⟨⟨by omega,by omega⟩,fun(r:List Iv) hr=>?_⟩;have hr:m[i]? =some r:=by simpa using hr
  have hrl:=hmr i r hr;conv=>whnf
  refine⟨⟨by omega,by omega⟩,fun(y:Iv) hy=>?_⟩;have hy:r[i]? =some y:=by simpa using hy
  conv=>whnf
  refine gZc (c23 i r y hr hy) ?_
  (refine⟨by kernel_rfl,by kernel_rfl,?_⟩;(conv=>whnf))
  refine⟨i+1,c,by show m.length-(i+1)<m.length-i;omega,?_⟩
  ((conv=>whnf);refine q3 ?_ ?_;repeat' first|refine lc ?_ ?_|exact la0|exact lr rfl|exact ln0|refine lh1 ?_ ?_|exact lh0|exact bf0|exact bd0|refine bc0 ?_|exact bm0 rfl|exact bb0 rfl|exact bg0 rfl|exact li0 rfl|refine lg0 ?_|refine lt0 ?_|fail)
  exact ai0 (by rw[wI (by omega)];omega)
 .have c:i=k+1:=by
   have hi:i<=m.length:=hi;have:=Z1 c;omega
  subst c;conv=>whnf
  refine gZc c24 ?_;conv=>whnf
  refine gZc c21 ?_;conv=>whnf
  refine gZc c20 ?_;conv=>whnf
  refine gZn hz ?_
  (refine⟨by kernel_rfl,by kernel_rfl,?_⟩;(conv=>whnf))
  exact⟨lr rfl,zax⟩
