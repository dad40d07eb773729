/- Smaller boxes: the law's part of a box; the results. -/
import Derived.Test.YtlbmkjbgfkgcmaaGreatDoorSQf
set_option linter.all false
open And renaming intro->qE
open Bool renaming and_eq_true->q0,or_eq_false_iff->qA
open List renaming getElem?_eq_some_iff->q1,length_take->q2,mem_cons->q3,mem_cons_of_mem->q9,mem_cons_self->qB,getElem?_eq_getElem->qC,all_eq_true->qD,mem_of_getElem?->qF,any_eq_false->qG,take_add_one->qH,any_cons->qI
namespace Go.Proofs.YtlbmkjbgfkgcmaaGreatDoor
open Go Go.Sx
def paI(k:Int)(x:Iv):Iv:=if k % 4=0 then⟨x.lo,zux x,x.all⟩else if k % 4=1 then⟨zux x,x.hi,x.all⟩else if k % 4=2 then qs (zux x)else x
def paL(w:List Int)(x:List Iv):List Iv:=x.mapIdx fun i y=>paI ((w[i]?).getD 0) y
theorem zx2(k:Int){x:Iv}(h:KI x):KI (paI k x)/\uf (paI k x) x:=by
 obtain⟨m1,m2,m3⟩:=zsp h;unfold paI;split
 .exact⟨⟨h.all,h.lo,m1,m2⟩,.inr ⟨h.all,h.all,Rat.le_refl,ui.1 m3⟩⟩
 split
 .exact⟨⟨h.all,m1,h.hi,m3⟩,.inr ⟨h.all,h.all,ui.1 m2,Rat.le_refl⟩⟩
 split
 .exact⟨⟨rfl,m1,m1,ui.2 Rat.le_refl⟩,.inr ⟨rfl,h.all,ui.1 m2,ui.1 m3⟩⟩
 .exact⟨h,zj7 (.inl h)⟩
theorem zyr{f:Nat->Iv->Iv}:∀ {x:List Iv},(∀i,∀y∈x,LeV (f i y) y)->LL (x.mapIdx f) x
 | [],_=>.nil
 |y::x,h=>by
  rw[List.mapIdx_cons];exact .cons (h 0 y qB) (zyr fun i z hz=>h (i+1) z (q9 _ hz))
theorem qdw(w:List Int){x:List Iv}(h:∀y∈x,KI y):LL (paL w x) x:=zyr fun i y hy=>by
 obtain⟨h1,h2⟩:=zx2 ((w[i]?).getD 0) (h y hy);exact⟨.inl h1,.inl (h y hy),h2⟩
theorem zr5(w:List Int)(x:List Iv):(paL w x).length =x.length:=by simp[paL]
theorem zr6(w:List Int){x:List Iv}(h:∀y∈x,KI y):∀y∈paL w x,KI y:=fun y hy=>by
 obtain⟨i,hi,rfl⟩:=List.mem_mapIdx.1 hy;exact(zx2 _ (h _ (List.getElem_mem hi))).1
theorem LL.vi{l m:List Iv}(h:LL l m):(∀x∈l,VI x)/\(∀x∈m,VI x):=by
 induction h with
 |nil=>exact⟨fun x hx=>(by cases hx),fun x hx=>(by cases hx)⟩
 |cons h1 h2 ih=>
  refine⟨fun x hx=>?_,fun x hx=>?_⟩
  .rcases q3.1 hx with rfl|hx
   .exact h1.1
   .exact ih.1 x hx
  .rcases q3.1 hx with rfl|hx
   .exact h1.2.1
   .exact ih.2 x hx
theorem LL.app{l m l' m':List Iv}(h:LL l m)(h':LL l' m'):LL (l++l') (m++m'):=by
 induction h with
 |nil=>exact h'
 |cons h1 h2 ih=>exact .cons h1 ih
theorem LL.eq{l m:List Iv}(h:LL l m):eqL zpz l m=true:=by
 induction h with
 |nil=>rfl
 |cons h1 h2 ih=>
  unfold eqL;rw[qar h1.1 h1.2.1 h1.2.2,ih];rfl
theorem LL.some{l m:List Iv}(h:LL l m)(hm:zea m=false):zea l=false:=by
 unfold zea at*
 induction h with
 |nil=>rfl
 |cons h1 h2 ih=>
  simp only[qI,qA]at hm⊢;refine⟨?_,ih hm.2⟩;rcases h1.2.2 with h|⟨h,_⟩
  .rw[hm.1]at h;cases h
  .exact h
theorem LM.eq{a b:List (List Iv)}(h:All2 LL a b):eqL (eqL zpz) a b=true:=by
 induction h with
 |nil=>rfl
 |cons h1 h2 ih=>
  unfold eqL;rw[h1.eq,ih];rfl
theorem LM.some{a b:List (List Iv)}(h:All2 LL a b)(hm:b.any zea=false):a.any zea=false:=by
 induction h with
 |nil=>rfl
 |cons h1 h2 ih=>
  simp only[qI,qA]at hm⊢;exact⟨h1.some hm.1,ih hm.2⟩
theorem LM.vi{a b:List (List Iv)}(h:All2 LL a b):(∀l∈a,∀x∈l,VI x)/\(∀l∈b,∀x∈l,VI x):=by
 induction h with
 |nil=>exact⟨fun x hx=>(by cases hx),fun x hx=>(by cases hx)⟩
 |cons h1 h2 ih=>
  refine⟨fun x hx=>?_,fun x hx=>?_⟩
  .rcases q3.1 hx with rfl|hx
   .exact h1.vi.1
   .exact ih.1 x hx
  .rcases q3.1 hx with rfl|hx
   .exact h1.vi.2
   .exact ih.2 x hx
theorem LM.ln{a b:List (List Iv)}(h:All2 LL a b){n:Nat}(hb:∀r∈b,r.length<=n):∀r∈a,r.length<=n:=by
 induction h with
 |nil=>exact fun x hx=>(by cases hx)
 |cons h1 h2 ih=>
  intro r hr;rcases q3.1 hr with rfl|hr
  .rw[h1.len];exact hb _ qB
  .exact ih (fun r hr=>hb r (q9 _ hr)) r hr
theorem LM.map{α:Type}{f g:α->List Iv}:∀ {l:List α},(∀x∈l,LL (f x) (g x))->All2 LL (l.map f) (l.map g)
 | [],_=>.nil
 |x::l,h=>.cons (h x qB) (LM.map fun y hy=>h y (q9 _ hy))
theorem qcx{t:Tp}(h:trB t=true):∀o∈t.ops,zvq o:=fun o ho=>by
 unfold trB at h;simp only[q0,Bool.not_eq_true']at h;have:=qG.1 h.2 o ho;unfold qes at this;unfold zvq;simpa using this
theorem qep{t:Tp}{p:Int}(hp:pcB p=true)(hr:trB t=true){x y:List Iv}(h:LL x y)(m:Int)(hg:gtB t x m p=gtB t y m p):LL (gtV t x m p) (gtV t y m p)/\All2 LL (gtD t x m p) (gtD t y m p):=by
 have ht:tvB t=true:=by unfold trB at hr;simp only[q0]at hr;exact hr.1
 have hrat:=qcx hr;have hv:=zrm hp (wu ht).2.1 hrat h;unfold gtV gtD;rw[hg];split
 .refine⟨LL.map fun k _=>hv.gI k,LM.map fun k _=>?_⟩;unfold gtC;exact LL.map fun i _=>(qbe hp ht hrat hv i).gI k
 .exact⟨.nil,.nil⟩
theorem fi_LL{t:Tp}{p m:Int}{x y:List Iv}(h:LL x y):gtB t x m p=gtB t y m p:=by
 have e:∀l:List Iv,(∀z∈l,VI z)->l.any ibV=false:=fun l hl=>qG.2 fun z hz=>by
  unfold ibV;rw[(yg (hl z hz).ri).2 (hl z hz)];decide
 unfold gtB fiB;rw[h.len,e x h.vi.1,e y h.vi.2]
theorem zxw{s:Sysm}{x:List Iv}(hb:boB s x=true)(hr:∀y∈s.ps,RI y)(hx:∀y∈x,RI y)(ht:trB s.tp=true)(w:List Int)(m p:Int):
 (∀y∈x,KI y)/\boB s (paL w x)=true/\((boO s x m p).2.2=0->(boO s (paL w x) m p).2.2=0/\LL (boO s (paL w x) m p).1 (boO s x m p).1/\All2 LL (boO s (paL w x) m p).2.1 (boO s x m p).2.1):=by
 have hb0:=hb;unfold boB at hb;simp only[q0,Z4]at hb;obtain⟨hv,hl,hk⟩:=hb;have hki:∀y∈x,KI y:=fun y hy=>(zq (hx y hy)).1 (qD.1 hk y hy)
 have hps:∀y∈s.ps,VI y:=fun y hy=>by
  unfold vsB at hv;simp only[q0]at hv;exact .inl ((zq (hr y hy)).1 (qD.1 hv.2.2 y hy))
 refine⟨hki,?_,fun he=>?_⟩
 .unfold boB;simp only[q0,Z4];exact⟨hv,by rw[zr5];exact hl,qD.2 fun y hy=>(zq (zr6 w hki y hy).ri).2 (zr6 w hki y hy)⟩
 .have hX:LL (paL w x++s.ps) (x++s.ps):=(qdw w hki).app (.rfl' hps);unfold boO at he⊢;by_cases hp:pcB p=true
  .have hpn:¬pcB p=false:=by rw[hp];decide
   rw[Z7 hpn]at he;rw[Z7 hpn,Z7 hpn];obtain⟨h1,h2⟩:=qep hp ht hX m (fi_LL hX);by_cases hc:(zea (gtV s.tp (x++s.ps) m p)||(gtD s.tp (x++s.ps) m p).any zea)=true
   .rw[Z6 hc]at he;exact absurd he OA
   .have hc':(zea (gtV s.tp (x++s.ps) m p)||(gtD s.tp (x++s.ps) m p).any zea)=false:=by simpa using hc
    rw[qA]at hc';rw[Z7 hc,Z7 (by rw[h1.some hc'.1,LM.some h2 hc'.2];decide)];exact⟨rfl,h1,h2⟩
  .rw[Z6 (by simpa using hp)]at he;exact absurd he OA
set_option maxRecDepth 100000
set_option maxHeartbeats 8000000
theorem qag{P x:List Iv}(hl:P.length=x.length){i:Nat}{y:Iv}(h:x[i]? =some y):(P.take i++x.drop i)[i]? =some y:=by
 have:=(q1.1 h).1;rw[List.getElem?_append_right (by rw[q2];omega),q2,List.getElem?_drop];rw[(O:i+(i-min i P.length)=i)];exact h
theorem qaf{P x:List Iv}(hl:P.length=x.length){i:Nat}{y:Iv}(h:P[i]? =some y):(P.take i++x.drop i).set i y=P.take (i+1)++x.drop (i+1):=by
 have h1:=(q1.1 h).1;have h2:x.drop i=x[i]::x.drop (i+1):=List.drop_eq_getElem_cons O;rw[List.set_append_right _ _ (by rw[q2];omega),q2,(O:i-min i P.length=0),h2,List.set_cons_zero,qH,h];simp
theorem zv9{P x:List Iv}(hl:P.length=x.length){i:Nat}{y:Iv}(h:P[i]? =some y)(h':x[i]? =some y):P.take i++x.drop i=P.take (i+1)++x.drop (i+1):=by
 rw[qf h',qH,h];simp
noncomputable def qbi:Code:=Tryz.f4.body.getD .skip
theorem q4e(s:Sysm)(x P:List Iv)(p:Int)(hb:boB s x=true)(hbP:boB s P=true)(hr:∀y∈s.ps,RI y)(hx:∀y∈x,RI y)(hP:∀y∈P,RI y)(hs:0<=s.st)
 (law:∀m:Int,(boO s x m p).2.2=0->(boO s P m p).2.2=0/\LL (boO s P m p).1 (boO s x m p).1/\All2 LL (boO s P m p).2.1 (boO s x m p).2.1) (n m:Nat) (hn:n=2) (hm:m=3):
 SemOK Tryz.prog TQ Tryz.f4.results.toList [] (.bool true) G0 (zd2 n (zd2 m qbi)) ⟨[.any,.sl .iv x,.any,.int .i64 p,.ptr 4 0,.any,.any,.any,.any,.own 60]++yo 144,[(4,.cells (syC s)),(60,.buf 48 .iv P),(12,.free)]++G0⟩:=by
 subst hn;subst hm;have j1:=q21 s x p hb hr hx hs;have j2:=q21 s P p hbP hr hP hs;have f1:=q22 s x p hb hr hx hs;have f2:=q22 s P p hbP hr hP hs;have l1:=law 0;have l2:=law s.st;have hv:=hb;unfold boB vsB at hv;simp only[q0,Z4]at hv;obtain⟨⟨_,⟨s1,s2,s3,_,_⟩,_⟩,_⟩:=hv;have r1:∀m,m<=8->(boO s x m p).1.length <=200/\(boO s x m p).2.1.length <=200/\∀r∈(boO s x m p).2.1,r.length<=8:=fun m hm=>by
  have g1:=zs5 s.tp (x++s.ps) m p;have g2:=zs7 s.tp (x++s.ps) m p;have g3:= @zs6 s.tp (x++s.ps) m p;unfold boO;split
  .exact⟨OC,OC,fun r hr=>by cases hr⟩
  split
  .exact⟨OC,OC,fun r hr=>by cases hr⟩
  .exact⟨OD,OD,fun r hr=>by have:=g3 r hr;omega⟩
 have r0:=r1 0 O;have rs:=r1 s.st O;clear r1 s1 s2 s3;have e1:(boO s x 0 p).2.2=0->Fn 23 [] [.sl .iv (boO s P 0 p).1,.sl .iv (boO s x 0 p).1,.fn 24 []] (.bool true) []:=fun h=>by
  obtain⟨_,h2,_⟩:=l1 h;have:=efG (g:=24) (P:=zpz) (boO s P 0 p).1 (boO s x 0 p).1 (by rw[h2.len];have:=r0.1;omega) (by have:=r0.1;omega) fun a ha b hb=>q24 a b (h2.vi.1 a ha) (h2.vi.2 b hb)
  rw[h2.eq]at this;exact this
 have e2:(boO s x s.st p).2.2=0->Fn 25 [] [.sl .vs (boO s P s.st p).2.1,.sl .vs (boO s x s.st p).2.1,.fn 26 []] (.bool true) []:=fun h=>by
  obtain⟨_,_,h3⟩:=l2 h;have hl:=zg6 h3;have hv:=LM.vi h3;have hll:=rs.2;have:=efR (g:=26) (P:=eqL zpz) (boO s P s.st p).2.1 (boO s x s.st p).2.1 O O fun a ha b hb=>q26 a b (hv.1 a ha) (hv.2 b hb) (by have:=LM.ln h3 hll.2 a ha;omega) (by have:=hll.2 b hb;omega)
  rw[LM.eq h3]at this;exact this
 have z1:(boO s x 0 p).2.2=0->(boO s P 0 p).2.2=0:=fun h=>(l1 h).1
 have z2:(boO s x s.st p).2.2=0->(boO s P s.st p).2.2=0:=fun h=>(l2 h).1
 clear l1 l2 r0 rs law hb hbP hr hx hP hs;obtain⟨t,st,ps⟩:=s;simp only at*;generalize boO ⟨t,st,ps⟩ x 0 p=A at*;generalize boO ⟨t,st,ps⟩ P 0 p=B at*;generalize boO ⟨t,st,ps⟩ x st p=C at*;generalize boO ⟨t,st,ps⟩ P st p=D at*;obtain⟨A1,A2,A3⟩:=A;obtain⟨B1,B2,B3⟩:=B;obtain⟨C1,C2,C3⟩:=C;obtain⟨D1,D2,D3⟩:=D;simp only at*;by_cases hA:A3=0
 .have hB:=z1 hA;have g1:=e1 hA;subst hA;subst hB;by_cases hC:C3=0
  .have hD:=z2 hC;have g2:=e2 hC;subst hC;subst hD;refine vr hTQ hmx ?_;conv=>whnf
   refine gYc j1 ?_;refine gYc j2 ?_;refine gYc f1 ?_;refine gYc f2 ?_;refine gYn g1 ?_;refine gYn g2 ?_;exact⟨lr rfl,leG⟩
  .refine vr hTQ hmx ?_;conv=>whnf
   refine gYc j1 ?_;refine gYc j2 ?_;refine gYc f1 ?_;refine gYc f2 ?_;refine gYn g1 ?_;refine brI (fun c=>?_) (fun c=>?_)
   .conv=>whnf
    exact⟨lr rfl,leG⟩
   .have c:(C3 != 0)=false:=c;exact absurd (by simpa using c) hC
 .refine vr hTQ hmx ?_;conv=>whnf
  refine gYc j1 ?_;refine gYc j2 ?_;refine gYc f1 ?_;refine gYc f2 ?_;refine brI (fun c=>?_) (fun c=>?_)
  .have c:(A3==0)=true:=c;exact absurd (by simpa using c) hA
  conv=>whnf
  by_cases hC:C3=0
  .have hD:=z2 hC;have g2:=e2 hC;subst hC;subst hD;conv=>whnf
   refine gYn g2 ?_;exact⟨lr rfl,leG⟩
  .refine brI (fun c=>?_) (fun c=>?_)
   .conv=>whnf
    exact⟨lr rfl,leG⟩
   .have c:(C3 != 0)=false:=c;exact absurd (by simpa using c) hC
theorem q4m(s:Sysm)(x:List Iv)(w:List Int)(p:Int)(hb:boB s x=true)(ht:trB s.tp=true)(hr:∀y∈s.ps,RI y)(hx:∀y∈x,RI y)(hw:∀k∈w,0<=k/\k<256)(hwl:w.length<9223372036854775808)(n:Nat)(hn:n=3):
 SemOK Tryz.prog TQ Tryz.f4.results.toList [] (.bool true) G0 (zd2 n qbi) ⟨[.any,.sl .iv x,.sl .u8 w,.int .i64 p,.ptr 4 0]++yo 149,[(4,.cells (syC s)),(60,.free),(12,.free)]++G0⟩:=by
 subst hn;obtain⟨hki,hbP,_⟩:=zxw hb hr hx ht w 0 p;have law:=fun m=>(zxw hb hr hx ht w m p).2.2
 have hst:1<=s.st/\s.st<=4/\(x.length:Int)=s.st:=by
  unfold boB vsB at hb;simp only[q0,Z4]at hb;exact⟨hb.1.2.1.1,hb.1.2.1.2.1,hb.2.1⟩
 have hPi:∀(i:Nat)y,x[i]? =some y->(paL w x)[i]? =some (paI ((w[i]?).getD 0) y):=fun i y h=>by rw[paL,List.getElem?_mapIdx,h];rfl
 have hPl:=zr5 w x;have rest:=q4e s x (paL w x) p hb hbP hr hx (fun y hy=>(zr6 w hki y hy).ri) O law 2 3 rfl rfl;generalize paL w x=P at*;have h18:=x13 x O (fun h=>by rw[h]at hst;simp at hst;omega);clear law hbP;refine wm hTQ hmx 2 (fun _:Unit=>⟨[.any,.sl .iv x,.any,.int .i64 p,.ptr 4 0,.any,.any,.any,.any,.own 60]++yo 144,[(4,.cells (syC s)),(60,.buf 48 .iv P),(12,.free)]++G0⟩) (fun _=>Z) ?_ (fun _=>by exact rest);clear rest;conv=>whnf
 refine⟨[],[.buf 48 .iv x],.own 2000000,h18,?_⟩;conv=>whnf
 refine⟨Nat,fun i=>i<=x.length,fun i=> [(63,.int .i64 i)],fun i=> [(12,.free),(60,.buf 48 .iv (P.take i++x.drop i))],fun i=>x.length-i,0,Nat.zero_le _,?_,fun i hi=>?_⟩
 .exact KZ0
 have hi:i<=x.length:=hi;refine gYe ?_;refine brI (fun c=>?_) (fun c=>?_)
 .have c:i<x.length:=by have:=Z0 c;omega
  obtain⟨y,hy⟩:∃y,x[i]? =some y:=⟨_,qC c⟩;have k:=hki y (qF hy);have h19:=q19 k;obtain⟨m1,_,_⟩:=zsp k;have h20:=zwh m1;have hP:=hPi i y hy;have hg:=qag (P:=P) hPl hy;have yk:=fun z(h:P[i]? =some z)=>qaf (x:=x) hPl h
  have hsame:=fun(h:P[i]? =some y)=>zv9 hPl h hy
  unfold paI at hP;have hML:(P.take i++x.drop i).length =x.length:=OE;generalize P.take i++x.drop i=M at*;have hyl:=(q1.1 hy).1;generalize zux y=m at*;clear m1 k hki;obtain⟨m1,m2,m3⟩:=m;obtain⟨⟨y1,y2,y3⟩,⟨y4,y5,y6⟩,y7⟩:=y;simp only at hP;conv=>whnf
  refine brI (fun cw=>?_) (fun cw=>?_)
  .have cw:i<w.length:=by have:=Z0 cw;omega
   obtain⟨z,hz⟩:∃z,w[i]? =some z:=⟨_,qC cw⟩;obtain⟨z0,z1⟩:=hw z (qF hz);rw[hz,Option.getD_some]at hP;conv=>whnf
   refine⟨⟨O,O⟩,fun(z':Int)hz'=>?_⟩;obtain rfl:z=z':=by
    have hz':w[i]? =some z':=by simpa using hz'
    rw[hz]at hz';exact Option.some.inj hz'
   conv=>whnf
   refine⟨⟨O,O⟩,fun(y':Iv)hy'=>?_⟩;obtain rfl:(⟨⟨y1,y2,y3⟩,⟨y4,y5,y6⟩,y7⟩:Iv)=y':=by
    have hy':x[i]? =some y':=by simpa using hy'
    rw[hy]at hy';exact Option.some.inj hy'
   conv=>whnf
   refine gYn h19 ?_;refine⟨OA,?_⟩;conv=>whnf
   have hzt:z.tmod 4=z % 4:=Int.tmod_eq_emod_of_nonneg z0;refine brI (fun k0=>?_) (fun k0=>?_)
   .have k0:z % 4=0:=by rw[<-hzt];simpa using(show(z.tmod 4==0)=true from k0)
    rw[Z6 k0]at hP;conv=>whnf
    refine⟨⟨O,O⟩,?_⟩;conv=>whnf
    refine⟨O,fun(x0:Iv)hx0=>?_⟩;obtain rfl:(⟨⟨y1,y2,y3⟩,⟨y4,y5,y6⟩,y7⟩:Iv)=x0:=by
     have hx0:M[i]? =some x0:=by simpa using hx0
     rw[hg]at hx0;exact Option.some.inj hx0
    conv=>whnf
    refine⟨i+1,c,by show x.length-(i+1)<x.length-i;omega,?_⟩
    ((conv=>whnf);refine qE ?_ ?_;repeat' first|refine lc ?_ ?_|refine lh1 ?_ ?_|refine bc0 ?_|exact KXZ|refine lg0 ?_|refine lt0 ?_)
    .exact ai0 (by rw[wI O];omega)
    .exact bb0 (yk _ hP)
   have k0:¬z % 4=0:=by rw[<-hzt];simpa using(show(z.tmod 4==0)=false from k0)
   rw[Z7 k0]at hP;conv=>whnf
   refine brI (fun k1=>?_) (fun k1=>?_)
   .have k1:z % 4=1:=by rw[<-hzt];simpa using(show(z.tmod 4==1)=true from k1)
    rw[Z6 k1]at hP;conv=>whnf
    refine⟨⟨O,O⟩,?_⟩;conv=>whnf
    refine⟨O,fun(x0:Iv)hx0=>?_⟩;obtain rfl:(⟨⟨y1,y2,y3⟩,⟨y4,y5,y6⟩,y7⟩:Iv)=x0:=by
     have hx0:M[i]? =some x0:=by simpa using hx0
     rw[hg]at hx0;exact Option.some.inj hx0
    conv=>whnf
    refine⟨i+1,c,by show x.length-(i+1)<x.length-i;omega,?_⟩
    ((conv=>whnf);refine qE ?_ ?_;repeat' first|refine lc ?_ ?_|refine lh1 ?_ ?_|refine bc0 ?_|exact KXZ|refine lg0 ?_|refine lt0 ?_)
    .exact ai0 (by rw[wI O];omega)
    .exact bb0 (yk _ hP)
   have k1:¬z % 4=1:=by rw[<-hzt];simpa using(show(z.tmod 4==1)=false from k1)
   rw[Z7 k1]at hP;conv=>whnf
   refine brI (fun k2=>?_) (fun k2=>?_)
   .have k2:z % 4=2:=by rw[<-hzt];simpa using(show(z.tmod 4==2)=true from k2)
    rw[Z6 k2]at hP;conv=>whnf
    refine gYn h20 ?_;refine⟨⟨O,O⟩,?_⟩;conv=>whnf
    refine⟨O,?_⟩;conv=>whnf
    refine⟨i+1,c,by show x.length-(i+1)<x.length-i;omega,?_⟩
    ((conv=>whnf);refine qE ?_ ?_;repeat' first|refine lc ?_ ?_|refine lh1 ?_ ?_|refine bc0 ?_|exact KXZ|refine lg0 ?_|refine lt0 ?_)
    .exact ai0 (by rw[wI O];omega)
    .exact bb0 (yk _ hP)
   have k2:¬z % 4=2:=by rw[<-hzt];simpa using(show(z.tmod 4==2)=false from k2)
   rw[Z7 k2]at hP;conv=>whnf
   refine⟨i+1,c,by show x.length-(i+1)<x.length-i;omega,?_⟩
   ((conv=>whnf);refine qE ?_ ?_;repeat' first|refine lc ?_ ?_|refine lh1 ?_ ?_|refine bc0 ?_|exact KXZ|refine lg0 ?_|refine lt0 ?_)
   .exact ai0 (by rw[wI O];omega)
   .exact bb0 (hsame hP)
  .have cw:w.length<=i:=by have:=Z3 cw;omega
   rw[List.getElem?_eq_none cw,Option.getD_none,Z6 OA]at hP;conv=>whnf
   refine⟨⟨O,O⟩,fun(y':Iv)hy'=>?_⟩;obtain rfl:(⟨⟨y1,y2,y3⟩,⟨y4,y5,y6⟩,y7⟩:Iv)=y':=by
    have hy':x[i]? =some y':=by simpa using hy'
    rw[hy]at hy';exact Option.some.inj hy'
   conv=>whnf
   refine gYn h19 ?_;refine⟨OA,?_⟩;conv=>whnf
   refine⟨⟨O,O⟩,?_⟩;conv=>whnf
   refine⟨O,fun(x0:Iv)hx0=>?_⟩;obtain rfl:(⟨⟨y1,y2,y3⟩,⟨y4,y5,y6⟩,y7⟩:Iv)=x0:=by
    have hx0:M[i]? =some x0:=by simpa using hx0
    rw[hg]at hx0;exact Option.some.inj hx0
   conv=>whnf
   refine⟨i+1,c,by show x.length-(i+1)<x.length-i;omega,?_⟩
   ((conv=>whnf);refine qE ?_ ?_;repeat' first|refine lc ?_ ?_|refine lh1 ?_ ?_|refine bc0 ?_|exact KXZ|refine lg0 ?_|refine lt0 ?_)
   .exact ai0 (by rw[wI O];omega)
   .exact bb0 (yk _ hP)
 .have c:i=x.length:=by have:=Z3 c;omega
  subst c;conv=>whnf
  refine⟨(),?_⟩
  ((conv=>whnf);refine qE ?_ ?_;repeat' first|refine lc ?_ ?_|refine lh1 ?_ ?_|refine bc0 ?_|exact KXZ|refine lg0 ?_|refine lt0 ?_)
  exact bb0 (by rw[List.drop_of_length_le (Nat.le_refl _),List.append_nil,List.take_of_length_le O])
theorem q4(s:Sysm)(x:List Iv)(w:List Int)(p:Int)(h1:s.tp.ops.length<9223372036854775808)(h2:s.tp.outs.length<9223372036854775808)(h3:s.ps.length<9223372036854775808)(hr:∀y∈s.ps,RI y)(hx:∀y∈x,RI y)(hxl:x.length<9223372036854775808)
 (hw:∀k∈w,0<=k/\k<256) (hwl:w.length<9223372036854775808):Fn 4 G0 [.agg (syC s),.sl .iv x,.sl .u8 w,.int .i64 p] (.bool true) G0:=by
 have c6:=q6 s.tp h1 h2;have c7:=q7 x hxl hx;have c7p:=q7 s.ps h3 hr;have c16:=q16 s x h1 h2 h3 hr hx hxl;have c10:=f44 s.tp h1 h2;have c17:=q17 s h1 h2 h3 hr;refine qv (code:=qbi) hTQ hmx Tryz.func4 rfl rfl (ex:= []) ?_;conv=>whnf
 refine wm hTQ hmx 3 (fun _:PLift (boB s x=true/\trB s.tp=true)=>⟨[.any,.sl .iv x,.sl .u8 w,.int .i64 p,.ptr 4 0]++yo 149,[(4,.cells (syC s)),(60,.free),(12,.free)]++G0⟩) (fun _=>Z) ?_ (fun h=>q4m s x w p h.down.1 h.down.2 hr hx hw hwl 3 rfl);conv=>whnf
 refine gYc q5 ?_;refine cbI [] _ c6 (fun _=>?_) (fun _=>?_)
 rotate_left
 .conv=>whnf
  exact⟨lr rfl,leG⟩
 conv=>whnf
 refine cbI [] _ c7 (fun _=>?_) (fun _=>?_)
 rotate_left
 .conv=>whnf
  exact⟨lr rfl,leG⟩
 conv=>whnf
 refine cbI [] _ c7p (fun _=>?_) (fun _=>?_)
 rotate_left
 .conv=>whnf
  exact⟨lr rfl,leG⟩
 conv=>whnf
 refine brI (fun _=>?_) (fun _=>?_)
 .conv=>whnf
  exact⟨lr rfl,leG⟩
 conv=>whnf
 refine cbI [] _ c16 (fun hb=>?_) (fun _=>?_)
 rotate_left
 .conv=>whnf
  exact⟨lr rfl,leG⟩
 conv=>whnf
 refine cbI [] _ c10 (fun ht=>?_) (fun _=>?_)
 rotate_left
 .conv=>whnf
  exact⟨lr rfl,leG⟩
 conv=>whnf
 refine cbI [] _ c17 (fun _=>?_) (fun _=>?_)
 rotate_left
 .conv=>whnf
  exact⟨lr rfl,leG⟩
 conv=>whnf
 refine⟨⟨hb,ht⟩,?_⟩;exact KZ0
