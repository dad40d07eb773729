/- Plain law of EvaluateReplaces: a tree in which a variable is replaced has the value of the tree in the environment in which the variable has the value of what replaces it. -/
import Derived.Test.YthbgbmdmimejiaaGreatDoorMXi
import Derived.Test.YthbgbmdmimejiaaGreatDoorMNx
import Derived.Test.YthbgbmdmimejiaaGreatDoorMPd
import Derived.Test.YthbgbmdmimejiaaGreatDoorMUm
set_option linter.all false
open Bool renaming and_eq_true->q8
open List renaming append_nil->q3,mem_cons->q4,mem_append->q6
open Rat renaming le_trans->q5,le_refl->q7
namespace Go.Proofs.YthbgbmdmimejiaaGreatDoor
open Go Go.Sx
set_option maxRecDepth 100000
set_option maxHeartbeats 4000000
theorem qmd:KI unI:=by
 refine⟨rfl,zl5,jo 1 OA,yn.2 ?_⟩;show dv (wx (-1))<=dv (wx 1);rw[je,je];decide
theorem cj_VI{x:Iv}(k:KI x)(cos:Bool){p:Nat}(hp:8<=p/\p<=512):VI (ciJ x cos p):=by
 have e1:dv (wx 1)=1:=je 1;have em:dv (wx (-1))= -1:=je (-1);have ku:=qmd;unfold ciJ;split
 .exact .inl ku
 .rename_i h2;have hH:CI (zct (ptI x.lo cos p) (ptI x.hi cos p)):=zpp (zoa k.lo cos p hp) (zoa k.hi cos p hp);have main:KI (ciM x cos p).1/\dv (ciM x cos p).1.lo <=1/\ -1<=dv (ciM x cos p).1.hi :=by
   have hu:KI unI/\dv unI.lo<=1/\ -1<=dv unI.hi:=⟨ku,by show dv (wx (-1))<=1;rw[em];decide,by show-1<=dv (wx 1);rw[e1];decide⟩;unfold ciM at h2⊢;generalize zct (ptI x.lo cos p) (ptI x.hi cos p)=H at*;unfold meI at h2⊢;split
   .rename_i c;rw[Z4 c]at h2;exact absurd rfl h2
   .rename_i c1;rw[Z5 c1]at h2;split
    .exact hu
    .rename_i c2;rw[Z5 c2]at h2;rw[Z5 (show ¬unI.all=true from fun c=>by cases c)]at h2⊢;split
     .rename_i c3;rw[Z4 c3]at h2;exact absurd rfl h2
     .rename_i c3;have vH:VI H:=(zcf hH.ri).1 (by
       cases hb:viB H with
       |true=>rfl
       |false=>exact absurd (.inl hb) c1)
      have kH:=(qbw vH).1 (by simpa using c2);have hle:=yn.1 (O:qu (yi H.lo unI.lo) (yk H.hi unI.hi)<=0);have m:=(xi H.lo unI.lo).2.1;have l:dv (yk H.hi unI.hi)<=dv unI.hi:=by
       unfold yk;split
       .rename_i c;exact yn.1 c
       .exact q7
      have m:dv (wx (-1))<=dv (yi H.lo unI.lo):=m;have l:dv (yk H.hi unI.hi)<=dv (wx 1):=l;rw[em]at m;rw[e1]at l;exact⟨⟨rfl,zi0 kH.lo ku.lo,zi1 kH.hi ku.hi,yn.2 hle⟩,q5 hle l,q5 m hle⟩
  split
  .exact .inl main.1
  .obtain⟨km,m1,m2⟩:=main;have hle:=km.dle;refine .inl ⟨km.all,qbg (jo (-1) OA) km.lo,qbg (jo 1 OA) km.hi,yn.2 ?_⟩;have gen:∀c d:Bool,dv (if c=true then wx (-1)else(ciM x cos p).1.lo)<=dv (if d=true then wx 1 else(ciM x cos p).1.hi):=by
    intro c d;cases c<;>cases d
    .exact hle
    .show dv (ciM x cos p).1.lo <=dv (wx 1);rw[e1];exact m1
    .show dv (wx (-1))<=dv (ciM x cos p).1.hi;rw[em];exact m2
    .show dv (wx (-1))<=dv (wx 1);rw[em,e1];decide
   exact gen _ _
theorem qlv{x:Iv}(vx:VI x)(cos:Bool)(p:Int):VI (ciI x cos p):=by
 have ku:=qmd;unfold ciI;split
 .rename_i c;split
  .exact .inl ku
  .split
   .exact .inl ku
   .exact cj_VI ((zq vx.ri).1 c.2) cos (qe c.1)
 .exact .inr rfl
theorem zyf{k:Int}(hk:Kt k){n p:Int}{x y:Iv}(hx:VI x)(hy:VI y)(hp:pcB p=true):VI (apI fxA k n x y p):=by
 unfold Kt at hk;obtain rfl|rfl|rfl|rfl|rfl|rfl|rfl|rfl|rfl|rfl|rfl:k=3\/k=4\/k=5\/k=6\/k=7\/k=8\/k=9\/k=10\/k=11\/k=12\/k=13:=O
 .exact zfb hx hy hp
 .exact qit hx hy hp
 .exact zm4 hx hy hp
 .exact zcz hx hy hp
 .exact zv8 hx
 .exact qjp hx hp
 .exact(zxd hx (zjd hx) p).1
 .exact qct hx p
 .exact qlv hx false p
 .exact qlv hx true p
 .exact zug hx hp
theorem za2{p:Int}(hp:pcB p=true){es:zdm}(hes:REs es){e:Ex}(he:VK Kt e):VI (evE fxA p es e).1:=by
 induction he with
 |num r hr=>rw[zkd];exact(zir r hp).1
 |var s hs=>rw[zns];exact qck (zo0 hes)
 |un k a hk h1 _ ih=>
  rw[zdw fxA p es k 0 a (by unfold K1 at h1;omega)];split
  .exact zyf hk ih qh2 hp
  .exact ih
 |pow n a hk h1 h2 _ ih=>
  rw[zdw fxA p es 8 n a OA];split
  .exact zyf hk ih qh2 hp
  .exact ih
 |bin k a b hk h1 _ _ ih1 ih2=>
  rw[znt fxA p es k 0 a b (by unfold K2 at h1;omega)];split
  .split
   .exact zyf hk ih1 ih2 hp
   .exact ih2
  .exact ih1
theorem qcs{x:Iv}(vx:VI x){d:Dy}(v:VD d)(hd:inI (dv d) x)(p:Int):lI (lS d) (zo4 x p):=by
 have vl:=qct vx p
 revert vl
 unfold zo4;split
 .rename_i hc;obtain⟨hf,h0⟩:=hc;unfold ftB at hf;rw[q8]at hf;have k:=(zq vx.ri).1 hf.1;have hp:8<=p/\p<=512:=by
   obtain⟨q,hq,hq2⟩:=kq.1 hf.2;omega
  have h0:=(kg x.lo).2.1.1 h0;obtain⟨d1,d2⟩:dv x.lo<=dv d/\dv d<=dv x.hi:=by
   rcases hd with h|h
   .rw[k.all]at h;cases h
   .exact h
  obtain⟨v1,l1⟩:=qah k.lo h0 hp;obtain⟨v2,l2⟩:=qah k.hi (by have:=k.dle;grind) hp;unfold edI;split
  .exact fun _=>zft 0 fun n _=>zi5 _
  .rename_i hn;have a1:(lnI x.lo p).all =false:=by simpa using fun c=>hn (.inl c)
   have a2:(lnI x.hi p).all =false:=by simpa using fun c=>hn (.inr c)
   intro vl;have hle:dv (lnI x.lo p).lo <=dv (lnI x.hi p).hi :=by
    rcases vl with vl|vl
    .exact vl.dle
    .have:false=true:=congrArg Iv.all vl;cases this
   refine zh6 hle fun e he=>?_
   obtain⟨N1,h1⟩:=zd3 l1 a1 he;obtain⟨N2,h2⟩:=zd3 l2 a2 he;refine⟨N1+N2,fun n hn=>?_⟩;have g1:=(h1 n O).1;have g2:=(h2 n O).2;have g3:=zo9 k.lo h0 v d1 n;have g4:=zo9 v (by grind) k.hi d2 n;constructor
   .show dv (lnI x.lo p).lo -e<=_;grind
   .show _<=dv (lnI x.hi p).hi +e;grind
 .exact fun _=>zft 0 fun n _=>zi5 _
def sF(k:Int)(d:Dy):Nat->Rat:=if k=9 then eS (dv d)else if k=10 then lS d else fS (decide (k=12)) (dv d)
theorem qk9{k:Int}(hk:k=9\/k=10\/k=11\/k=12){x:Iv}(vx:VI x){d:Dy}(v:VD d)(hd:inI (dv d) x){p:Int}(hp:8<=p/\p<=64):lI (sF k d) (fxA k x p):=by
 have tr:∀cos,lI (fS cos (dv d)) (ciI x cos p):=fun cos=>by
  rcases vx with kx|rfl
  .rcases hd with h|h
   .rw[kx.all]at h;cases h
   .exact qgs kx h.1 h.2 cos hp
  .have:ciI wI0 cos p=wI0:=by unfold ciI;rw[Z5 fun c=>by have:=c.2;simp[kB,wI0]at this]
   rw[this];exact zft 0 fun n _=>zi5 _
 rcases hk with rfl|rfl|rfl|rfl
 .exact(zxd vx hd p).2
 .exact qcs vx v hd p
 .exact tr false
 .exact tr true
theorem zgi{x y:Iv}(kx:KI x)(vy:VI y){q:Rat}(hx:inI q x)(hy:inI q y):∃d,VD d/\inI (dv d) x/\inI (dv d) y:=by
 have hx:dv x.lo<=q/\q<=dv x.hi:=by
  rcases hx with h|h
  .rw[kx.all]at h;cases h
  .exact h
 rcases vy with ky|rfl
 .have hy:dv y.lo<=q/\q<=dv y.hi:=by
   rcases hy with h|h
   .rw[ky.all]at h;cases h
   .exact h
  obtain⟨m1,m2,m3⟩:=xi x.lo y.lo;refine⟨yi x.lo y.lo,?_,.inr ⟨m1,?_⟩,.inr ⟨m2,?_⟩⟩
  .rcases m3 with h|h<;>rw[h]
   .exact kx.lo
   .exact ky.lo
  .rcases m3 with h|h<;>rw[h]<;>grind
  .rcases m3 with h|h<;>rw[h]<;>grind
 .exact⟨x.lo,kx.lo,.inr ⟨q7,kx.dle⟩,zi5 _⟩
theorem qkc{s:Nat->Rat}{x y:Iv}(kx:KI x)(vy:VI y)(hx:lI s x)(hy:lI s y):∃q,inI q x/\inI q y:=by
 rcases vy with ky|rfl
 .have a:=zfu hx hy kx.all ky.all;have b:=zfu hy hx ky.all kx.all;rcases Rat.le_total (a:=dv x.lo) (b:=dv y.lo)with c|c
  .exact⟨dv y.lo,.inr ⟨c,b⟩,.inr ⟨q7,ky.dle⟩⟩
  .exact⟨dv x.lo,.inr ⟨q7,kx.dle⟩,.inr ⟨c,a⟩⟩
 .exact⟨dv x.lo,.inr ⟨q7,kx.dle⟩,zi5 _⟩
theorem zr0{c:Rat}{x:Iv}(vx:VI x)(h:lI (fun _=>c) x):inI c x:=by
 rcases vx with k|rfl
 .refine .inr ⟨znb fun e he=>?_,znb fun e he=>?_⟩
  .obtain⟨N,hN⟩:=zd3 h k.all he;have:=(hN N (Nat.le_refl _)).1;grind
  .obtain⟨N,hN⟩:=zd3 h k.all he;exact(hN N (Nat.le_refl _)).2
 .exact zi5 _
inductive Wt(p:Int)(es:zdm):Rat->Ex->Prop
 |num (q:Rat) (s:Ex) (r:Rt):s=xq r->rOk r=true->q=rv r->Wt p es q s
 |neg (q:Rat) (s z:Ex):s=opE 7 0 [z]->VT z->Wt p es (-q) z->Wt p es q s
 |oth (q:Rat) (s:Ex):s.k≠1->s.k≠7->inI q (evE fxA p es s).1->Wt p es q s
theorem zqh{r s:Rt}(h:xq r=xq s):r=s:=by injection h
theorem zn7{p:Int}{es:zdm}{q:Rat}{r:Rt}(h:Wt p es q (xq r)):q=rv r:=by
 cases h with
 |num _ _ r' e ho hq=>rw[hq,zqh e]
 |neg _ _ z e _ _=>exact absurd (congrArg Ex.k e) (by simp[xq,opE,Ex.k])
 |oth _ _ h1 _ _=>exact absurd rfl h1
theorem ql8{p:Int}{es:zdm}{q:Rat}{z:Ex}(h:Wt p es q (opE 7 0 [z])):Wt p es (-q) z:=by
 cases h with
 |num _ _ r' e ho hq=>exact absurd (congrArg Ex.k e) (by simp[xq,opE,Ex.k])
 |neg _ _ z' e _ w=>
  have:z=z':=by simpa[opE]using e
  rw[this];exact w
 |oth _ _ _ h7 _=>exact absurd rfl h7
theorem qks{p:Int}{es:zdm}{k n:Int}{a:Ex}(hk:k≠1/\k≠2):(evE fxA p es (opE k n [a])).2=true<->(evE fxA p es a).2=true:=by
 rw[zdw fxA p es k n a hk];constructor
 .intro h;by_cases c:(evE fxA p es a).2=true
  .exact c
  .rw[Z5 c]at h;cases h
 .intro h;rw[Z4 h]
theorem zma{p:Int}{es:zdm}{k n:Int}{a:Ex}(hk:k≠1/\k≠2)(ha:(evE fxA p es a).2=true):(evE fxA p es (opE k n [a])).1=apI fxA k n (evE fxA p es a).1 zI p:=by
 rw[zdw fxA p es k n a hk,Z4 ha]
section
variable {p:Int} (hpc:pcB p=true) (hp:8<=p/\p<=64) {es:zdm} (hes:REs es)
include hpc hes in
theorem zyj{q:Rat}{s:Ex}(w:Wt p es q s):(evE fxA p es s).2=true->inI q (evE fxA p es s).1:=by
 induction w with
 |num q s r e ho hq=>
  intro _;rw[e,zkd,hq];exact(zir r hpc).2 ho
 |neg q s z e vz w ih=>
  intro ks;rw[e]at ks⊢;have kz:=(qks OA).1 ks;rw[zma OA kz];have:=zv7 (za2 hpc hes (zhf vz)) (ih kz);rw[show- -q=q by grind]at this;exact this
 |oth q s _ _ h=>exact fun _=>h
theorem fold7{s:Ex}(vs:VT s){r:Rt}(hf:jy 7 0 [s]=some r):∃t,s=xq t/\rOk r=true/\rv r= -(rv t):=by
 unfold jy at hf;split at hf
 .rename_i hall;have hka:s.k=1:=by simpa using hall
  obtain⟨t,ht,rfl⟩:=zkm vs hka;rw[show q0 [xq t]=t from rfl]at hf;have hf:okN (qcb ⟨0,1⟩ t)=some r:=by simpa using hf
  obtain⟨h1,h2⟩:=zc6 hf;obtain⟨h3,h4⟩:=zf1 (zp5 ok01' ht) h1;rw[h2]at h3 h4;rw[rv01]at h4;exact⟨t,rfl,h3,by rw[h4];grind⟩
 .cases hf
theorem qdk{q:Rat}{s:Ex}(vs:VT s)(w:Wt p es q s):Wt p es (-q) (op1 7 0 s):=by
 unfold op1;cases hf:jy 7 0 [s]with
 |some r=>
  obtain⟨t,rfl,h1,h2⟩:=fold7 vs hf;exact .num _ _ r rfl h1 (by rw[h2,zn7 w])
 |none=>
  show Wt p es (-q) (yd 7 0 s);unfold yd;rw[Z4 rfl];split
  .rename_i h7
   cases vs with
   |num r hr=>simp[xq,Ex.k]at h7
   |var s hs=>simp[zcg,Ex.k]at h7
   |pow n a _ _ _=>simp[opE,Ex.k]at h7
   |bin k a b h1 _ _=>simp[opE,Ex.k]at h7;unfold K2 at h1;omega
   |un k z h1 hz=>
    have h7:k=7:=by simpa[opE,Ex.k]using h7
    subst h7;exact ql8 w
  .exact .neg _ _ s rfl vs (by rw[show- -q=q by grind];exact w)
theorem zjy{q:Rat}{s:Ex}{n:Int}(vs:VT s)(w:Wt p es q s)(h:isB s n=true):q=(n:Rat):=by
 simp only[isB,q8,beq_iff_eq]at h;obtain⟨r,_,rfl⟩:=zkm vs h.1;rw[zn7 w];obtain⟨n',d'⟩:=r;have h1:n'=n:=h.2.1;have h2:d'=1:=h.2.2;subst h1;subst h2;exact zqe n'
theorem zsd{n:Int}(h: -1073741824<=n/\n<=1073741824):Wt p es (n:Rat) (ud n):=.num _ _ ⟨n,1⟩ rfl (zbr h) (zqe n).symm
include hpc in
theorem qjn{n:Int}(hn:0<=n/\n<=16)(hes:REs es){s:Ex}(vs:VT s)(ks:(evE fxA p es s).2=true){q:Rat}(w:Wt p es q s):Wt p es (q^n.toNat) (op1 8 n s):=by
 unfold op1;cases hf:jy 8 n [s]with
 |some r=>
  show Wt p es _ (xq r);have hf0:=hf;unfold jy at hf;split at hf
  .rename_i hall;have hka:s.k=1:=by simpa using hall
   obtain⟨t,ht,rfl⟩:=zkm vs hka;rw[show q0 [xq t]=t from rfl]at hf;have hf:zsy t n.toNat ⟨1,1⟩=some r:=by simpa using hf
   have h1:=zqp ht n.toNat ⟨1,1⟩ r (zbr O) hf;rw[zqe]at h1;refine .num _ _ r rfl ?_ (by rw[h1,zn7 w];show _=(1:Rat)*_;grind);have v:=zb6 (k:=8) (n:=n) (.inr ⟨rfl,hn.1,hn.2⟩) (VT.num t ht);unfold op1 at v;rw[hf0]at v;obtain⟨r',h2,h3⟩:=zkm v rfl;rw[zqh h3];exact h2
  .cases hf
 |none=>
  show Wt p es _ (yd 8 n s);unfold yd;rw[Z5 OA,Z4 rfl];split
  .rename_i h0;subst h0;have:=zsd (p:=p) (es:=es) (n:=1) OA;rw[show q^(0:Int).toNat =((1:Int):Rat) by show q^0=_;rw[Rat.pow_zero];rfl];exact this
  .split
   .rename_i h1;subst h1;rw[show q^(1:Int).toNat =q by show q^1=q;grind];exact w
   .refine .oth _ _ (by simp[opE,Ex.k]) (by simp[opE,Ex.k]) ?_;rw[zma OA ks,<-zos];exact zvn (za2 hpc hes (zhf vs)) hpc hn (zyj hpc hes w ks)
end
theorem qko{d:Dy}(v:VD d)(e1:dv d=1)(n:Nat):lS d n=0:=by
 obtain⟨p1,p2⟩:=zh2 v (by rw[e1];decide);have ht:zf d=1:=by
  rw[e1,show(1:Rat)=pw ((0:Nat):Int) by rw[wa];rfl]at p1 p2;have a:=za7.1 p1;have b:¬pw (zf d)<=pw ((0:Nat):Int):=Rat.not_le.2 p2;have b:¬zf d<=((0:Nat):Int):=fun c=>b (za7.2 c)
  omega
 have ez:zQ d= -(1/3):=by
  unfold zQ;rw[e1,ht,qex];decide+kernel
 unfold lS;rw[ez,ht,zn6];have:((1:Int):Rat)=1:=rfl;rw[this];grind
theorem qgc(n:Nat):eS 0 n=1:=by
 induction n with
 |zero=>rfl
 |succ n ih=>
  have e:eS 0 (n+1)=eS 0 n+rQ 0 (n+1):=rfl;have e2:rQ 0 (n+1)=rQ 0 n*0*(1/((n+1:Nat):Rat)):=rfl;rw[e,ih,e2];grind
theorem fold9{k:Int}(hk:9<=k)(s:Ex):jy k 0 [s]=none:=by
 unfold jy;split
 .rw[Z5 O,Z5 O,Z5 O,Z5 O,Z5 O,Z5 O]
 .rfl
theorem qiv{x:Iv}(vx:VI x){p:Int}(hp:pcB p=true)(h1:inI 1 x):inI 1 (xw x p):=by
 by_cases h:KI x/\0<dv x.lo
 .have h1:dv x.lo<=1/\1<=dv x.hi:=by
   rcases h1 with c|c
   .rw[h.1.all]at c;cases c
   .exact c
  have hh:0<dv x.hi:=by grind
  obtain⟨n1,n2⟩:=yc h.2;obtain⟨n3,n4⟩:=yc hh;have l:=(xf n1 (qe hp) n2).1;have u:=(xf n3 (qe hp) n4).2;rw[zks h.1 h.2 hp]
  cases ha:(ve (kp x.lo p.toNat false) (kp x.hi p.toNat true)).all with
  |true=>exact .inl ha
  |false=>
   obtain⟨e1,e2⟩:=kj.1 ha;rw[uj ha];have hl:=(l.1 e1).1;have hu:=(u.1 e2).1;refine .inr ⟨?_,?_⟩
   .rcases hl with hl|hl
    .show dv (kp x.lo p.toNat false).1<=1;grind
    .exact zga OA (q5 hl (by grind))
   .exact zga hu.1 (q5 (by grind) hu.2)
 .rw[zuf vx.ri h];exact zi5 _
section
variable {p:Int} (hpc:pcB p=true) (hp:8<=p/\p<=64) {es:zdm} (hes:REs es)
include hpc hp hes in
theorem fn_ok{k:Int}(hk:k=9\/k=10\/k=11\/k=12\/k=13){X:Iv}(kX:KI X){q:Rat}(hq:inI q X){s:Ex}(vs:VT s)(ks:(evE fxA p es s).2=true)(w:Wt p es q s)(hR:(apI fxA k 0 X zI p).all =false)(vR:VI (apI fxA k 0 X zI p)):
 ∃r,inI r (apI fxA k 0 X zI p)/\Wt p es r (op1 k 0 s):=by
 have iq:=zyj hpc hes w ks;have vY:=za2 hpc hes (zhf vs);have vX:VI X:=.inl kX;have kR:KI (apI fxA k 0 X zI p):=by
  rcases vR with h|h
  .exact h
  .rw[h]at hR;cases hR
 have hne:k≠1/\k≠2:=O;have hE:=zma (n:=0) hne ks;have vO:VI (apI fxA k 0 (evE fxA p es s).1 zI p):=by
  have h:=za2 hpc hes (zhf (VT.un k s (by unfold K1;omega) vs));rw[hE]at h;exact h
 have oth:∀r,inI r (apI fxA k 0 (evE fxA p es s).1 zI p)->Wt p es r (opE k 0 [s]):=fun r hr=>.oth _ _ (by simp[opE,Ex.k];omega) (by simp[opE,Ex.k];omega) (by rw[hE];exact hr)
 have e0:op1 k 0 s=yd k 0 s:=by unfold op1;rw[fold9 O]
 rw[e0];have ser:(k=9\/k=10\/k=11\/k=12)->∃r,inI r (apI fxA k 0 X zI p)/\inI r (apI fxA k 0 (evE fxA p es s).1 zI p):=fun hk=>by
  obtain⟨d,vd,d1,d2⟩:=zgi kX vY hq iq;have a1:=qk9 hk vX vd d1 hp;have a2:=qk9 hk vY vd d2 hp;have ea:∀x,apI fxA k 0 x zI p=fxA k x p:=fun x=>by rcases hk with rfl|rfl|rfl|rfl<;>rfl
  rw[ea]at kR vO;rw[ea,ea];exact qkc kR vO a1 a2
 have i1:=zsd (p:=p) (es:=es) (n:=1) OA;have i0:=zsd (p:=p) (es:=es) (n:=0) OA;have c0:((0:Int):Rat)=0:=rfl;have c1:((1:Int):Rat)=1:=rfl;rw[c1]at i1;rw[c0]at i0;rcases hk with rfl|rfl|rfl|rfl|rfl
 .show ∃r,inI r (zrn X p)/\Wt p es r (if isB s 0=true then ud 1 else opE 9 0 [s]);split
  .rename_i h;have hq0:=zjy vs w h;rw[c0]at hq0;rw[hq0]at hq;have l:=(zxd vX hq p).2;rw[show eS 0=fun _=>(1:Rat)from funext qgc]at l;exact⟨1,zr0 vR l,i1⟩
  .obtain⟨r,a,b⟩:=ser O;exact⟨r,a,oth r b⟩
 .show ∃r,inI r (zo4 X p)/\Wt p es r (if isB s 1=true then ud 0 else opE 10 0 [s]);split
  .rename_i h;have hq0:=zjy vs w h;have vd:=jo 1 OA;have ed:dv (wx 1)=1:=by rw[je];rfl
   have l:=qcs vX vd (by rw[je,<-hq0];exact hq) p;rw[show lS (wx 1)=fun _=>(0:Rat)from funext (qko vd ed)]at l;exact⟨0,zr0 vR l,i0⟩
  .obtain⟨r,a,b⟩:=ser O;exact⟨r,a,oth r b⟩
 .show ∃r,inI r (ciI X false p)/\Wt p es r (if isB s 0=true then ud 0 else opE 11 0 [s]);split
  .rename_i h;have hq0:=zjy vs w h;rw[c0]at hq0;have hq':dv X.lo<=q/\q<=dv X.hi:=by
    rcases hq with h|h
    .rw[kX.all]at h;cases h
    .exact h
   have l:=qgs kX hq'.1 hq'.2 false hp;rw[hq0,show fS false 0=fun _=>(0:Rat)from funext sS_0]at l;exact⟨0,zr0 vR l,i0⟩
  .obtain⟨r,a,b⟩:=ser O;exact⟨r,a,oth r b⟩
 .show ∃r,inI r (ciI X true p)/\Wt p es r (if isB s 0=true then ud 1 else opE 12 0 [s]);split
  .rename_i h;have hq0:=zjy vs w h;rw[c0]at hq0;have hq':dv X.lo<=q/\q<=dv X.hi:=by
    rcases hq with h|h
    .rw[kX.all]at h;cases h
    .exact h
   have l:=qgs kX hq'.1 hq'.2 true hp;rw[hq0,show fS true 0=fun _=>(1:Rat)from funext cS_0]at l;exact⟨1,zr0 vR l,i1⟩
  .obtain⟨r,a,b⟩:=ser O;exact⟨r,a,oth r b⟩
 .show ∃r,inI r (xw X p)/\Wt p es r (if isB s 1=true then ud 1 else opE 13 0 [s]);have sub:∀ {d:Dy}{x:Iv},VD d->VI x->inI (dv d) x->zud (xw (qc d) p) (xw x p):=fun {d x}vd vx hd=>by
   refine zzj (.inl (zn9 vd)) vx hpc ?_;rcases vx with kx|rfl
   .rcases hd with h|h
    .rw[kx.all]at h;cases h
    .exact .inr ⟨rfl,kx.all,h.1,h.2⟩
   .exact .inl rfl
  split
  .rename_i h;have hq0:=zjy vs w h;rw[c1]at hq0;rw[hq0]at hq;exact⟨1,qiv vX hpc hq,i1⟩
  .obtain⟨d,vd,d1,d2⟩:=zgi kX vY hq iq;have s1:=sub vd vX d1;have s2:=sub vd vY d2;have v0:VI (xw (qc d) p):=by
    exact zug (.inl (zn9 vd)) hpc
   have in1:∀ {y:Iv},zud (xw (qc d) p) y->inI (dv (xw (qc d) p).lo) y:=fun {y}h=>by
    rcases h with h|⟨a,_,h1,h2⟩
    .exact .inl h
    .rcases v0 with k0|k0
     .exact .inr ⟨h1,q5 k0.dle h2⟩
     .rw[k0]at a;cases a
   exact⟨_,in1 s1,oth _ (in1 s2)⟩
end
set_option maxHeartbeats 8000000
theorem zly{fx:Int->Iv->Int->Iv}{p:Int}{es:zdm}{K:Int->Prop}{e:Ex}(he:VK K e):(∀y∈xm e,y.k=2->zlh .str y.s es=true)->(evE fx p es e).2=true:=by
 induction he with
 |num r _=>intro _;rw[zkd]
 |var s _=>
  intro hn;rw[zns];exact hn (zcg s) (by simp[zcg,xm,zbo]) rfl
 |un k a _ h1 _ ih=>
  intro hn;have hk:k≠1/\k≠2:=by unfold K1 at h1;omega
  rw[zdw _ _ _ _ _ _ hk,Z4 (ih fun y hy c=>hn y (by simp only[opE,xm,zbo,q4,q3];exact .inr hy) c)]
 |pow n a _ _ _ _ ih=>
  intro hn;rw[zdw _ _ _ _ _ _ OA,Z4 (ih fun y hy c=>hn y (by simp only[opE,xm,zbo,q4,q3];exact .inr hy) c)]
 |bin k a b _ h1 _ _ ih1 ih2=>
  intro hn;have hk:k≠1/\k≠2:=by unfold K2 at h1;omega
  rw[znt _ _ _ _ _ _ _ hk,Z4 (ih1 fun y hy c=>hn y (by simp only[opE,xm,zbo,q4,q3,q6];exact .inr (.inl hy)) c),
   Z4 (ih2 fun y hy c=>hn y (by simp only[opE,xm,zbo,q4,q3,q6];exact .inr (.inr hy)) c)]
def rop(k:Int)(a b:Rat):Rat:=if k=3 then a+b else if k=4 then a-b else if k=5 then a*b else a/b
theorem qbv{p:Int}{es:zdm}{k:Int}{a b:Ex}(hk:k≠1/\k≠2)(ha:(evE fxA p es a).2=true)(hb:(evE fxA p es b).2=true):(evE fxA p es (opE k 0 [a,b])).1=apI fxA k 0 (evE fxA p es a).1 (evE fxA p es b).1 p:=by
 rw[znt fxA p es k 0 a b hk,Z4 ha,Z4 hb]
theorem qdh{k:Int}(hk:K2 k){x y:Iv}(vx:VI x)(vy:VI y){p:Int}(hpc:pcB p=true){a b:Rat}(ha:inI a x)(hb:inI b y):inI (rop k a b) (apI fxA k 0 x y p):=by
 rcases hk with rfl|rfl|rfl|rfl
 .exact zfa vx vy hpc ha hb
 .exact qis vx vy hpc ha hb
 .exact zm3 vx vy hpc ha hb
 .exact zf3 vx vy hpc ha hb
section
variable {p:Int} (hpc:pcB p=true) (hp:8<=p/\p<=64) {es:zdm} (hes:REs es)
include hpc hes in
theorem qju{k:Int}(hk:K2 k){s t:Ex}(vs:VT s)(vt:VT t)(ks:(evE fxA p es s).2=true)(kt:(evE fxA p es t).2=true){q q':Rat}(w:Wt p es q s)(w':Wt p es q' t):Wt p es (rop k q q') (op2 k s t):=by
 have hop:Wt p es (rop k q q') (opE k 0 [s,t]):=by
  refine .oth _ _ (by unfold K2 at hk;simp[opE,Ex.k];omega) (by unfold K2 at hk;simp[opE,Ex.k];omega) ?_;rw[qbv (zf8 hk) ks kt];exact qdh hk (za2 hpc hes (zhf vs)) (za2 hpc hes (zhf vt)) hpc (zyj hpc hes w ks) (zyj hpc hes w' kt)
 have i0:∀ {u:Ex}{n:Int}{q:Rat},VT u->Wt p es q u->isB u n=true->q=(n:Rat):=fun hu hq hi=>zjy hu hq hi
 have e0:((0:Int):Rat)=0:=rfl;have e1:((1:Int):Rat)=1:=rfl;have z0:=zsd (p:=p) (es:=es) (n:=0) OA;rw[e0]at z0;have cg:∀ {a b:Rat}{u:Ex},Wt p es a u->a=b->Wt p es b u:=fun h e=>e▸h
 unfold op2;cases hf:jy k 0 [s,t]with
 |some r=>
  show Wt p es _ (xq r);have hf0:=hf;unfold jy at hf;split at hf
  .rename_i hall;have hka:s.k=1/\t.k=1:=by simpa using hall
   obtain⟨a,ha,rfl⟩:=zkm vs hka.1;obtain⟨b,hb,rfl⟩:=zkm vt hka.2;have wq:=zn7 w;have wq':=zn7 w';have hq:q0 [xq a,xq b]=a:=rfl;have hq1:q1 [xq a,xq b]=b:=rfl;rw[hq,hq1]at hf;rcases hk with rfl|rfl|rfl|rfl
   .have hf:okN (qhn a b)=some r:=by simpa using hf
    obtain⟨h1,h2⟩:=zc6 hf;obtain⟨h3,h4⟩:=zf1 (qbd ha hb) h1;rw[h2]at h3 h4;exact .num _ _ r rfl h3 (by rw[h4,wq,wq'];rfl)
   .have hf:okN (qcb a b)=some r:=by simpa using hf
    obtain⟨h1,h2⟩:=zc6 hf;obtain⟨h3,h4⟩:=zf1 (zp5 ha hb) h1;rw[h2]at h3 h4;exact .num _ _ r rfl h3 (by rw[h4,wq,wq'];rfl)
   .have hf:okN (zsv a b)=some r:=by simpa using hf
    obtain⟨h1,h2⟩:=zc6 hf;obtain⟨h3,h4⟩:=zf1 (zqy ha hb) h1;rw[h2]at h3 h4;exact .num _ _ r rfl h3 (by rw[h4,wq,wq'];rfl)
   .have hf:okN (qcf a b)=some r:=by simpa using hf
    obtain⟨h1,h2⟩:=zc6 hf;have hb0:rv b≠0:=fun c=>by rw[qay ha hb c]at h1;cases h1
    obtain⟨h3,h4⟩:=zf1 (qaz ha hb hb0) h1;rw[h2]at h3 h4;exact .num _ _ r rfl h3 (by rw[h4,wq,wq'];rfl)
  .cases hf
 |none=>
  show Wt p es _ (zb0 k s t);unfold zb0;rcases hk with rfl|rfl|rfl|rfl
  .rw[Z4 rfl];split
   .rename_i h1;exact cg w' (by rw[i0 vs w h1,e0];show q'=0+q';grind)
   .split
    .rename_i h1;exact cg w (by rw[i0 vt w' h1,e0];show q=q+0;grind)
    .exact hop
  .rw[Z5 O,Z4 rfl];split
   .rename_i h1;exact cg w (by rw[i0 vt w' h1,e0];show q=q-0;grind)
   .split
    .rename_i h1;rw[zfr];exact cg (qdk vt w') (by rw[i0 vs w h1,e0];show-q'=0-q';grind)
    .exact hop
  .rw[Z5 O,Z5 O,Z4 rfl];split
   .rename_i h1;refine cg z0 ?_;show 0=q*q';rcases Bool.or_eq_true _ _▸h1 with h2|h2
    .rw[i0 vs w h2,e0];grind
    .rw[i0 vt w' h2,e0];grind
   .split
    .rename_i h1;exact cg w' (by rw[i0 vs w h1,e1];show q'=1*q';grind)
    .split
     .rename_i h1;exact cg w (by rw[i0 vt w' h1,e1];show q=q*1;grind)
     .exact hop
  .rw[Z5 O,Z5 O,Z5 O];split
   .rename_i h1;have h1:isB s 0=true:=by simp at h1;exact h1.1
    refine cg z0 ?_;rw[i0 vs w h1,e0];show 0=0/q';grind
   .split
    .rename_i h1;exact cg w (by rw[i0 vt w' h1,e1];show q=q/1;grind)
    .exact hop
theorem zty{P:zn->Prop}{e:Ex}(h:VT e):(∀y∈xm e,y.k=2->P y.s)->∀y∈xm (yq e),y.k=2->P y.s:=by
 have nr:∀r,∀y∈xm (xq r),y.k=2->P y.s:=fun r y hy h2=>by
  simp[xq,xm,zbo]at hy;subst hy;exact absurd h2 (by simp[Ex.k])
 have o1:∀ {k n:Int}{a:Ex},k≠2->VT a->(∀y∈xm a,y.k=2->P y.s)->∀y∈xm (op1 k n a),y.k=2->P y.s:=fun {k n a}hk va ha=>by
  have hop:∀y∈xm (opE k n [a]),y.k=2->P y.s:=fun y hy h2=>by
   simp only[opE,xm,zbo,q3,q4]at hy;rcases hy with rfl|hy
   .exact absurd h2 hk
   .exact ha y hy h2
  rcases zen k n a va with ⟨r,_,e⟩|e|⟨_,_,e⟩|⟨x,_,_,ea,e⟩<;>rw[e]
  .exact nr r
  .exact hop
  .exact ha
  .intro y hy h2;refine ha y ?_ h2;rw[ea];simp only[opE,xm,zbo,q3,q4];exact .inr hy
 induction h with
 |num r _=>rw[zho];exact fun h=>h
 |var s _=>rw[zhn];exact fun h=>h
 |un k a hk va ih=>
  intro h;rw[xo a (zgx hk)];exact o1 (zgx hk).2 (jn va) (ih fun y hy=>h y (by simp[opE,xm,zbo,hy]))
 |pow n a h1 h2 va ih=>
  intro h;rw[xo a O];exact o1 OA (jn va) (ih fun y hy=>h y (by simp[opE,xm,zbo,hy]))
 |bin k a b hk va vb iha ihb=>
  intro h;rw[zfk a b (zf8 hk)];have ha:=iha fun y hy=>h y (by simp[opE,xm,zbo,hy])
  have hb:=ihb fun y hy=>h y (by simp[opE,xm,zbo,hy])
  rcases zem k (yq a) (yq b)with ⟨r,_,e⟩|e|e|e|⟨_,e⟩<;>rw[e]
  .exact nr r
  .intro y hy h2;simp only[opE,xm,zbo,q3,q4,q6]at hy;rcases hy with rfl|hy|hy
   .exact absurd h2 (zf8 hk).2
   .exact ha y hy h2
   .exact hb y hy h2
  .exact ha
  .exact hb
  .exact o1 OA (jn vb) hb
include hpc hp hes in
theorem qiy{e:Ex}(h:VT e):(∀y∈xm e,y.k=2->zlh .str y.s es=true)->(evE fxA p es e).1.all =false->∃q,inI q (evE fxA p es e).1/\Wt p es q (yq e):=by
 have kn:∀ {e:Ex},VT e->(∀y∈xm e,y.k=2->zlh .str y.s es=true)->(evE fxA p es e).2=true:=fun h hv=>zly (zhf h) hv
 have ks:∀ {e:Ex},VT e->(∀y∈xm e,y.k=2->zlh .str y.s es=true)->(evE fxA p es (yq e)).2=true:=fun h hv=>zly (zhf (jn h)) (zty (P:=fun s=>zlh .str s es=true) h hv)
 have all:∀ {x:Iv},VI x->x.all=true->x=wI0:=fun vx h=>by
  rcases vx with k|k
  .rw[k.all]at h;cases h
  .exact k
 have kI:∀ {x:Iv},VI x->x.all=false->KI x:=fun vx h=>by
  rcases vx with k|k
  .exact k
  .rw[k]at h;cases h
 induction h with
 |num r hr=>
  intro hv ha;rw[zkd,zho];exact⟨rv r,(zir r hpc).2 hr,.num _ _ r rfl hr rfl⟩
 |var s hs=>
  intro hv ha;rw[zhn];have v:=za2 hpc hes (zhf (VT.var s hs));exact⟨_,zjd v,.oth _ _ (by simp[zcg,Ex.k]) (by simp[zcg,Ex.k]) (zjd v)⟩
 |un k a hk va ih=>
  intro hv hR;have hva:∀y∈xm a,y.k=2->zlh .str y.s es=true:=fun y hy=>hv y (by simp[opE,xm,zbo,hy])
  have ka:=kn va hva;have vA:=za2 hpc hes (zhf va);have vR:=za2 hpc hes (zhf (VT.un k a hk va));rw[zma (zgx hk) ka]at hR vR⊢;rw[xo a (zgx hk)];have hA:(evE fxA p es a).1.all =false:=by
   cases c:(evE fxA p es a).1.all with
   |false=>rfl
   |true=>rw[all vA c,qg1 (.inl hk)]at hR;cases hR
  obtain⟨q,hq,w⟩:=ih hva hA;by_cases h7:k=7
  .subst h7;exact⟨-q,zv7 vA hq,qdk (jn va) w⟩
  .exact fn_ok hpc hp hes (by unfold K1 at hk;omega) (kI vA hA) hq (jn va) (ks va hva) w hR vR
 |pow n a h1 h2 va ih=>
  intro hv hR;have hva:∀y∈xm a,y.k=2->zlh .str y.s es=true:=fun y hy=>hv y (by simp[opE,xm,zbo,hy])
  have ka:=kn va hva;have vA:=za2 hpc hes (zhf va);rw[zma O ka]at hR⊢;rw[xo a O];have hA:(evE fxA p es a).1.all =false:=by
   cases c:(evE fxA p es a).1.all with
   |false=>rfl
   |true=>rw[all vA c,qg1 (.inr (.inl rfl))]at hR;cases hR
  obtain⟨q,hq,w⟩:=ih hva hA;refine⟨q^n.toNat,?_,qjn hpc ⟨h1,h2⟩ hes (jn va) (ks va hva) w⟩;rw[<-zos];exact zvn vA hpc ⟨h1,h2⟩ hq
 |bin k a b hk va vb iha ihb=>
  intro hv hR;have hva:∀y∈xm a,y.k=2->zlh .str y.s es=true:=fun y hy=>hv y (by simp[opE,xm,zbo,hy])
  have hvb:∀y∈xm b,y.k=2->zlh .str y.s es=true:=fun y hy=>hv y (by simp[opE,xm,zbo,hy])
  have ka:=kn va hva;have kb:=kn vb hvb;have vA:=za2 hpc hes (zhf va);have vB:=za2 hpc hes (zhf vb);rw[qbv (zf8 hk) ka kb]at hR⊢;rw[zfk a b (zf8 hk)];have hA:(evE fxA p es a).1.all =false:=by
   cases c:(evE fxA p es a).1.all with
   |false=>rfl
   |true=>rw[all vA c,qg1 (.inr (.inr hk))]at hR;cases hR
  have hB:(evE fxA p es b).1.all =false:=by
   cases c:(evE fxA p es b).1.all with
   |false=>rfl
   |true=>rw[all vB c,ap_w2 hk]at hR;cases hR
  obtain⟨q,hq,w⟩:=iha hva hA;obtain⟨q',hq',w'⟩:=ihb hvb hB;exact⟨rop k q q',qdh hk vA vB hpc hq hq',qju hpc hes hk (jn va) (jn vb) (ks va hva) (ks vb hvb) w w'⟩
end
theorem qlf{fx:Int->Iv->Int->Iv}{p:Int}{es:zdm}{K:Int->Prop}{e:Ex}(he:VK K e):(evE fx p es e).2=true->∀y∈xm e,y.k=2->zlh .str y.s es=true:=by
 induction he with
 |num r hr=>
  intro _ y hy h2;simp[xq,xm,zbo]at hy;subst hy;exact absurd h2 (by simp[Ex.k])
 |var s hs=>
  intro h y hy h2;rw[zns]at h;simp[zcg,xm,zbo]at hy;subst hy;exact h
 |un k a hk0 h1 hva ih=>
  intro h y hy h2;have hne:k≠1/\k≠2:=by unfold K1 at h1;omega
  rw[zdw fx p _ k 0 a hne]at h;have ha:(evE fx p es a).2=true:=by
   by_cases c:(evE fx p es a).2=true
   .exact c
   .rw[Z5 c]at h;cases h
  simp only[opE,xm,zbo,q3,q4]at hy;rcases hy with rfl|hy
  .exact absurd h2 hne.2
  .exact ih ha y hy h2
 |pow n a hk0 h1 h2 hva ih=>
  intro h y hy h2;rw[zdw fx p _ 8 n a OA]at h;have ha:(evE fx p es a).2=true:=by
   by_cases c:(evE fx p es a).2=true
   .exact c
   .rw[Z5 c]at h;cases h
  simp only[opE,xm,zbo,q3,q4]at hy;rcases hy with rfl|hy
  .exact absurd h2 (by simp[Ex.k])
  .exact ih ha y hy h2
 |bin k a b hk0 h1 hva hvb iha ihb=>
  intro h y hy h2;have hne:k≠1/\k≠2:=by unfold K2 at h1;omega
  rw[znt fx p _ k 0 a b hne]at h;have ha:(evE fx p es a).2=true:=by
   by_cases c:(evE fx p es a).2=true
   .exact c
   .rw[Z5 c]at h;cases h
  rw[Z4 ha]at h;have hb:(evE fx p es b).2=true:=by
   by_cases c:(evE fx p es b).2=true
   .exact c
   .rw[Z5 c]at h;cases h
  simp only[opE,xm,zbo,q3,q4,q6]at hy;rcases hy with rfl|hy|hy
  .exact absurd h2 hne.2
  .exact iha ha y hy h2
  .exact ihb hb y hy h2
theorem zwf{e:Ex}{ns:List zn}{xs:List Iv}(hx:∀x∈xs,RI x){p:Int}(hp:8<=p/\p<=64)(ha:(zmc fxA e ns xs p).all =false):(meI (zmc fxA e ns xs p) (zmc fxA (yq e) ns xs p)).2=true:=by
 by_cases c:(enB ns xs=true/\okT e=true/\pcB p=true)/\(evE fxA p (zdp ns xs []) e).2=true
 .obtain⟨⟨c1,c2,c3⟩,c4⟩:=c;have hes:REs (zdp ns xs []):=zhc ns xs [] hx fun q hq=>by cases hq
  have vt:=zb2 c2;have vars:=qlf (zhf vt) c4;have k2:(evE fxA p (zdp ns xs []) (yq e)).2=true:=zly (zhf (jn vt)) (zty (P:=fun s=>zlh .str s (zdp ns xs [])=true) vt vars);have e1:zmc fxA e ns xs p=(evE fxA p (zdp ns xs []) e).1:=by unfold zmc;rw[Z4 ⟨⟨c1,c2,c3⟩,c4⟩]
  have e2:zmc fxA (yq e) ns xs p=(evE fxA p (zdp ns xs []) (yq e)).1:=by unfold zmc;rw[Z4 ⟨⟨c1,qjx c2,c3⟩,k2⟩]
  rw[e1]at ha;rw[e1,e2];obtain⟨q,q1,w⟩:=qiy c3 hp hes vt vars ha;have q2:=zyj c3 hes w k2;have v1:=za2 c3 hes (zhf vt);have v2:=za2 c3 hes (zhf (jn vt));generalize (evE fxA p (zdp ns xs []) e).1=A at*;generalize (evE fxA p (zdp ns xs []) (yq e)).1=B at*;unfold meI;rw[Z5 (by rw[(zcf v1.ri).2 v1,(zcf v2.ri).2 v2];simp),Z5 (by rw[ha];decide)];split
  .rfl
  .rename_i hB;have hB:B.all=false:=by simpa using hB
   have a:dv A.lo<=q/\q<=dv A.hi:=by
    rcases q1 with h|h
    .rw[ha]at h;cases h
    .exact h
   have b:dv B.lo<=q/\q<=dv B.hi:=by
    rcases q2 with h|h
    .rw[hB]at h;cases h
    .exact h
   rw[Z5];refine Int.not_lt.2 (yn.2 ?_);have h1:dv (yi A.lo B.lo)<=q:=by rcases(xi A.lo B.lo).2.2 with h|h<;>rw[h]<;>grind
   have h2:q<=dv (yk A.hi B.hi):=by rcases(zcq A.hi B.hi).2.2 with h|h<;>rw[h]<;>grind
   exact q5 h1 h2
 .have:zmc fxA e ns xs p=wI0:=by unfold zmc;rw[Z5 c]
  rw[this]at ha;cases ha
theorem k3(e:Ex)(ns:List zn)(xs:List Iv){P:Int}(hP:0<=P/\P<=255)(he:Sm e)(h1:ns.length<9223372036854775808)(h2:xs.length<9223372036854775808)(rx:∀x∈xs,RI x):
 Fn 3 G0 [.agg (exC e),.sl .str ns,.sl .iv xs,.int .u8 P] (.bool true) G0:=by
 have c6:=f28 e he;have hw:IntKind.i64.wrap (8+(IntKind.i64.wrap P).tmod 57)=8+P % 57:=by
  rw[wI (x:=P) O,Int.tmod_eq_emod_of_nonneg hP.1,wI O]
 have hp:8<=8+P % 57/\8+P % 57<=64:=O;have c7:=x16 e he ns xs rx h1 h2 (8+P % 57);cases hs:(!zwo e 0&&(okT e&&decide (szN e<=60)))with
 |false=>
  rw[hs]at c6;refine fY8 Tryz.func3 rfl ?_;refine gYn f14 ?_;refine gYn c6 ?_;refine gYn f14 ?_;exact⟨lr rfl,leG⟩
 |true=>
  rw[hs]at c6;have hok:okT e=true:=by
   simp only[q8]at hs;exact hs.2.1
  have c8:=f25 e he;rw[show siE e=yq e by unfold siE;rw[Z4 hok]]at c8;have hsm:Sm (yq e):=qbe (jn (zb2 hok));have c7':=x16 (yq e) hsm ns xs rx h1 h2 (8+P % 57);have rA:=qdo e ns xs rx (8+P % 57);have rB:=qdo (yq e) ns xs rx (8+P % 57);have law:=zwf (e:=e) (ns:=ns) rx hp;have c9:=c140 _ _ rA rB;generalize zmc fxA e ns xs (8+P % 57)=A at*;generalize zmc fxA (yq e) ns xs (8+P % 57)=B at*;have hM:A.all=false->Fn 9 [] [.agg (ivC A),.agg (ivC B)] (.tup [.agg (ivC (meI A B).1),.bool true]) []:=fun h=>by rw[<-law h];exact c9
  generalize (meI A B).1=M at*;clear c9 law rA rB;obtain⟨a1,a2,a3⟩:=A;refine fY8 Tryz.func3 rfl ?_;refine gYn f14 ?_;refine gYn c6 ?_;refine brI (fun _=>?_) (fun _=>?_)
  .conv=>whnf
   refine gYn f14 ?_;exact⟨lr rfl,leG⟩
  conv=>whnf
  refine brI (fun _=>?_) (fun _=>?_)
  .conv=>whnf
   refine gYn f14 ?_;exact⟨lr rfl,leG⟩
  conv=>whnf
  refine⟨OA,?_⟩;conv=>whnf
  rw[hw];refine gYc c7 ?_;refine gYn c8 ?_;refine gYc c7' ?_
  cases a3 with
  |true=>
   conv=>whnf
   exact⟨lr rfl,leG⟩
  |false=>
   conv=>whnf
   refine gYn (hM rfl) ?_;exact⟨lr rfl,leG⟩
