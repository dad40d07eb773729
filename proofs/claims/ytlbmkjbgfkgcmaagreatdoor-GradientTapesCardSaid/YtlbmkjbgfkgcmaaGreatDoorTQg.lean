/- The reference of layer 20: rules, columns, values of all operations. -/
import Derived.Test.YtlbmkjbgfkgcmaaGreatDoorTQc
import Derived.Test.YtlbmkjbgfkgcmaaGreatDoorTPv
import Derived.Test.YtlbmkjbgfkgcmaaGreatDoorTQd
set_option linter.all false
open And renaming intro->q3
open List renaming mem_of_getElem?->q0,length_take->q1,getElem?_eq_some_iff->q2,take_add_one->qA,getElem?_eq_getElem->qB,take_of_length_le->qC,replicate->qD,getElem?_map->qE
open Nat renaming zero_le->q4
open Go.Region renaming binds->qF
namespace Go.Proofs.YtlbmkjbgfkgcmaaGreatDoor
open Go Go.Sx
set_option maxRecDepth 100000
set_option maxHeartbeats 8000000
theorem qfe{r:Rt}(h:rOk r=true){p:Int}(hp:pcB p=true):(zmm r p).all =false:=by
 obtain⟨n,d⟩:=r;have hb:=zok h;unfold rIn at hb;simp only at hb;by_cases hn0:n=0
 .subst hn0;rw[zl6 h hp O]
 .obtain⟨C,hC1,hC2,hC3⟩:=ex_C (n:=n.natAbs) (d:=d.natAbs) (p:=p.toNat) O O O;have hpp:=vj hp;rw[zy0 h hn0 hp (C:=C) O hC2 O O]
theorem qd8(n:Int)(h: -4611686018427387904<=n/\n<=4611686018427387904):Fn 76 [] [.int .i64 n] (.agg (ivC (nuI n))) []:=by
 have h1:=r262 n h;have h2:=q17 (wg n);unfold nuI;generalize wg n=d at*;obtain⟨d1,d2,d3⟩:=d;refine fnT hTE hmx Tryz.func76 rfl rfl (ex:= []) ?_;conv=>whnf
 refine gYn h1 ?_;refine gYn h2 ?_;exact⟨lr rfl,lh0⟩
theorem ga{x y:Iv}(hx:RI x)(hy:RI y)(p:Int):Fn 142 [] [.agg (ivC x),.agg (ivC y),.int .i64 p] (.agg (ivC (kp x y p))) []:=by rw[<-zf9 hx hy];exact r176 x y hx hy p
theorem gs{x y:Iv}(hx:RI x)(hy:RI y)(p:Int):Fn 143 [] [.agg (ivC x),.agg (ivC y),.int .i64 p] (.agg (ivC (zes x y p))) []:=by
 have:=r177 x y hx hy p;rw[zf9 hx (zm4 hy)]at this;exact this
theorem gm{x y:Iv}(hx:RI x)(hy:RI y)(p:Int):Fn 144 [] [.agg (ivC x),.agg (ivC y),.int .i64 p] (.agg (ivC (ja x y p))) []:=by rw[<-zoz hx hy];exact r178 x y hx hy p
theorem gd{x y:Iv}(hx:RI x)(hy:RI y)(p:Int):Fn 145 [] [.agg (ivC x),.agg (ivC y),.int .i64 p] (.agg (ivC (uq x y p))) []:=by rw[<-zpq hx hy];exact r179 x y hx hy p
theorem RIm(x y:Iv)(p:Int):RI (ja x y p):=(zbd x y p).ri
theorem RIs(x y:Iv)(p:Int):RI (zes x y p):=(zax x (zbm y) p).ri
theorem RIp(x:Iv)(n p:Int):RI (zhw x n p):=(zu7 x n p).ri
theorem q77{k a0 b0 n c d:Int}(hk:k=3\/k=4\/k=5\/k=6\/k=7\/k=8)(hn:0<=n/\n<=16){v a b da db:Iv}(p:Int)(rv:RI v)(ra:RI a)(rb:RI b)(rda:RI da)(rdb:RI db):
 Fn 77 [] [.agg [.int .i64 k,.int .i64 a0,.int .i64 b0,.int .i64 n,.int .i64 c,.int .i64 d],.agg (ivC v),.agg (ivC a),.agg (ivC b),.agg (ivC da),.agg (ivC db),.int .i64 p] (.agg (ivC (if v.all=true then v else ruS k n v a b da db p))) []:=by
 by_cases hv:v.all=true
 .rw[Z6 hv];clear rv;obtain⟨v1,v2,v3⟩:=v;obtain rfl:v3=true:=hv;refine fnT hTE hmx Tryz.func77 rfl rfl (ex:= []) ?_;conv=>whnf
  exact⟨lr rfl,lh0⟩
 rw[Z7 hv];have hm1:=gm rv rdb p;have hd1:=gd (RIs da (ja v db p) p) rb p;have hs1:=gs rda (RIm v db p) p;have hm2:=gm rda rb p;have hm3:=gm ra rdb p;have ha1:=ga (RIm da b p) (RIm a db p) p;have ha2:=ga rda rdb p;have hs2:=gs rda rdb p;have hne:=r180 da rda;have w0:=qd8 0 O;have wn:=qd8 n O;have hm4:=gm (zq0 (n:=0) O) rda p;have hpw:=q277 a ra (n-1) p;have hm5:=gm (zq0 (n:=n) O) (RIp a (n-1) p) p;have hm6:=gm (RIm (nuI n) (zhw a (n-1) p) p) rda p;clear rv ra rb rda rdb;obtain⟨v1,v2,v3⟩:=v;obtain rfl:v3=false:=by simpa using hv
 rcases hk with rfl|rfl|rfl|rfl|rfl|rfl
 .show Fn 77 [] _ (.agg (ivC (kp da db p))) [];clear hm1 hd1 hs1 hm2 hm3 ha1 hs2 hne w0 wn hm4 hpw hm5 hm6;generalize kp da db p=R at*;refine fnT hTE hmx Tryz.func77 rfl rfl (ex:= []) ?_;conv=>whnf
  refine gYn ha2 ?_;exact⟨lr rfl,lh0⟩
 .show Fn 77 [] _ (.agg (ivC (zes da db p))) [];clear hm1 hd1 hs1 hm2 hm3 ha1 ha2 hne w0 wn hm4 hpw hm5 hm6;generalize zes da db p=R at*;refine fnT hTE hmx Tryz.func77 rfl rfl (ex:= []) ?_;conv=>whnf
  refine gYn hs2 ?_;exact⟨lr rfl,lh0⟩
 .show Fn 77 [] _ (.agg (ivC (kp (ja da b p) (ja a db p) p))) [];clear hm1 hd1 hs1 ha2 hs2 hne w0 wn hm4 hpw hm5 hm6;generalize kp (ja da b p) (ja a db p) p=R at*;generalize ja da b p=R1 at*;generalize ja a db p=R2 at*;refine fnT hTE hmx Tryz.func77 rfl rfl (ex:= []) ?_;conv=>whnf
  refine gYn hm2 ?_;refine gYn hm3 ?_;refine gYn ha1 ?_;refine gYd ?_;exact⟨lr rfl,lh0⟩
 .show Fn 77 [] _ (.agg (ivC (uq (zes da (ja ⟨v1,v2,false⟩ db p) p) b p))) [];clear hm2 hm3 ha1 ha2 hs2 hne w0 wn hm4 hpw hm5 hm6;generalize uq (zes da (ja ⟨v1,v2,false⟩ db p) p) b p=R at*;generalize hR1:zes da (ja ⟨v1,v2,false⟩ db p) p=R1 at*;clear hR1;generalize ja ⟨v1,v2,false⟩ db p=R2 at*;refine fnT hTE hmx Tryz.func77 rfl rfl (ex:= []) ?_;conv=>whnf
  refine gYn hm1 ?_;refine gYn hs1 ?_;refine gYn hd1 ?_;refine gYd ?_;exact⟨lr rfl,lh0⟩
 .show Fn 77 [] _ (.agg (ivC (zbm da))) [];clear hm1 hd1 hs1 hm2 hm3 ha1 ha2 hs2 w0 wn hm4 hpw hm5 hm6;generalize zbm da=R at*;refine fnT hTE hmx Tryz.func77 rfl rfl (ex:= []) ?_;conv=>whnf
  refine gYn hne ?_;exact⟨lr rfl,lh0⟩
 .show Fn 77 [] _ (.agg (ivC (if n=0 then ja (nuI 0) da p else ja (ja (nuI n) (zhw a (n-1) p) p) da p))) [];clear hm1 hd1 hs1 hm2 hm3 ha1 ha2 hs2 hne;by_cases h0:n=0
  .subst h0;rw[Z6 rfl];clear wn hpw hm5 hm6;generalize ja (nuI 0) da p=R at*;generalize nuI 0=N at*;refine fnT hTE hmx Tryz.func77 rfl rfl (ex:= []) ?_;conv=>whnf
   refine gYn w0 ?_;refine gYn hm4 ?_;refine gYd ?_;exact⟨lr rfl,lh0⟩
  .rw[Z7 h0];clear w0 hm4;generalize ja (ja (nuI n) (zhw a (n-1) p) p) da p=R at*;generalize hR1:ja (nuI n) (zhw a (n-1) p) p=R1 at*;clear hR1;generalize zhw a (n-1) p=R2 at*;generalize nuI n=N at*;refine fnT hTE hmx Tryz.func77 rfl rfl (ex:= []) ?_;conv=>whnf
   refine brI (fun c=>absurd (by simpa using(show(n==0)=true from c)) h0) (fun _=>?_);conv=>whnf
   refine gYn wn ?_;rw[wI O];refine gYn hpw ?_;refine gYn hm5 ?_;refine gYn hm6 ?_;refine gYd ?_;exact⟨lr rfl,lh0⟩
def vaOk(t:Tp)(vs:List Iv):Prop:=∀(k:Nat)(o:TOp),t.ops[k]? =some o->o.k<=8/\((gI vs (t.ins+k)).all =true->gI vs (t.ins+k)=wI0/\o.k≠1)
noncomputable def qfz:Code:=Tryz.f41.body.getD .skip
theorem q41(t:Tp)(ht:tvB t=true)(vs:List Iv)(i p:Int)(hv:∀y∈vs,RI y)(hl:(vs.length:Int)=t.ins+t.ops.length)(hok:vaOk t vs):Fn 41 [] [.agg (tpC t),.sl .iv vs,.int .i64 i,.int .i64 p] (.sl .iv (coS t vs i p)) []:=by
 obtain⟨⟨a1,a2,a3,a4⟩,a5,a6⟩:=wo ht;obtain⟨m,hm⟩:∃m:Nat,t.ins=m:=⟨t.ins.toNat,O⟩;have hm2:t.ins.toNat=m:=O;obtain⟨C,hC⟩:∃C:Nat->List Iv,C=fun k=>(coI m i).take k:=⟨_,rfl⟩
 have cl:(coI m i).length =m:=by simp[coI]
 have Cn:C m=coI m i:=by rw[hC];exact qC O
 have C0:C 0= []:=by rw[hC];rfl
 have Cl:∀k,k<=m->(C k).length =k:=fun k h=>by rw[hC];simp only;rw[q1,cl];omega
 have Cs:∀k,k<m->C (k+1)=C k++ [nuI (if(k:Int)=i then 1 else 0)]:=fun k h=>by
  rw[hC];simp only;rw[qA];simp[coI,h]
 obtain⟨L,hL⟩:∃L:Nat->List Iv,L=fun k=>coL p vs (t.ops.take k) (coI m i):=⟨_,rfl⟩
 have L0:C m=L 0:=by rw[Cn,hL];rfl
 have Ln:coS t vs i p=L t.ops.length:=by rw[hL];simp only[List.take_length];unfold coS;rw[hm2]
 have Ls:∀k o,t.ops[k]? =some o->L (k+1)=L k++ [coO p vs o (L k)]:=fun k o h=>by rw[hL];simp only;rw[qA,h,Option.toList_some,zkm]
 have Ll:∀k,k<=t.ops.length->(L k).length =m+k:=fun k h=>by rw[hL];simp only;rw[ze6,cl,q1];omega
 have Lr:∀k,k<=t.ops.length->∀y∈L k,RI y:=fun k h=>by
  rw[hL];exact zps hv (zal k (by rw[cl,<-hm];exact a5)) (zug _ _) (by rw[cl,q1];omega)
 have Lb:∀k o,t.ops[k]? =some o->tB o (L k).length =true:=fun k o h=>by
  have h1:=(q2.1 h).1;rw[Ll k O];have:=zcd a5 h;rw[hm]at this;simpa using this
 rw[Ln];clear Ln hL hC Cn;refine qr (code:=qfz) hTE hmx Tryz.func41 rfl rfl (ex:= []) ?_;conv=>whnf
 refine zb9 hTE hmx [7,13,14] ?_;conv=>whnf
 refine⟨Nat,fun k=>k<=m,fun k=> [(10,.int .i64 k),(9,.own 25)],fun k=> [(25,.buf 48 .iv (C k)),(29,.free)],fun k=>m-k,0,q4 _,?_,fun k hk=>?_⟩
 ·((conv=>whnf);refine q3 ?_ ?_;repeat' first|refine lc ?_ ?_|refine lh1 ?_ ?_|refine bc0 ?_|exact KXZ|refine lg0 ?_|refine lt0 ?_)
  .exact trivial
  .exact⟨rfl,by rw[C0]⟩
 have hk:k<=m:=hk;refine gYe ?_;refine brI (fun c=>?_) (fun c=>?_)
 .have c:k<m:=by have:=Z0 c;omega
  have hs:=Cs k c;have hl0:=Cl k O;obtain⟨V',hV'⟩:∃V',C (k+1)=V':=⟨_,rfl⟩;rw[hV']at hs;generalize C k=V at*;conv=>whnf
  refine brI (fun h=>?_) (fun h=>?_)
  .have h:(k:Int)=i:=by simpa using(show(((k:Nat):Int)==i)=true from h)
   rw[Z6 h]at hs;conv=>whnf
   refine gYn (qd8 1 O) ?_;refine⟨OE,?_⟩;conv=>whnf
   refine⟨k+1,c,by show m-(k+1)<m-k;omega,?_⟩
   ((conv=>whnf);refine q3 ?_ ?_;repeat' first|refine lc ?_ ?_|refine lh1 ?_ ?_|refine bc0 ?_|exact KXZ|refine lg0 ?_|refine lt0 ?_)
   .exact ai0 (by rw[wI O];omega)
   .exact bb0 (by rw[hV'];exact hs.symm)
  .have h:¬(k:Int)=i:=by simpa using(show(((k:Nat):Int)==i)=false from h)
   rw[Z7 h]at hs;conv=>whnf
   refine zbg 25 29 ?_;refine un hTE hmx [] _ _ _ _ _ ?_;conv=>whnf
   refine gYn (qd8 0 O) ?_;refine⟨OE,?_⟩;conv=>whnf
   refine⟨Z,?_⟩;conv=>whnf
   refine⟨k+1,c,by show m-(k+1)<m-k;omega,?_⟩
   ((conv=>whnf);refine q3 ?_ ?_;repeat' first|refine lc ?_ ?_|refine lh1 ?_ ?_|refine bc0 ?_|exact KXZ|refine lg0 ?_|refine lt0 ?_)
   .exact ai0 (by rw[wI O];omega)
   .exact bb0 (by rw[hV'];exact hs.symm)
 have c:k=m:=by have:=Z3 c;omega
 subst c;rw[L0];clear Cs Cl C0 L0;conv=>whnf
 refine⟨Nat,fun k=>k<=t.ops.length,fun k=> [(11,.int .i64 k),(9,.own 25)],fun k=> [(12,.free),(25,.buf 48 .iv (L k)),(48,.free),(81,.free)],fun k=>t.ops.length-k,0,q4 _,?_,fun k hk=>?_⟩
 .exact KZ0
 have hk:k<=t.ops.length:=hk;refine gYe ?_;refine brI (fun c=>?_) (fun c=>?_)
 .have hk:k<t.ops.length:=by have c:=Z0 c;omega
  conv=>whnf
  refine⟨⟨O,O⟩,fun(o:TOp)ho=>?_⟩;have ho:t.ops[k]? =some o:=by simpa using ho
  have hb:=Lb k o ho;have hs:=Ls k o ho;have hr:=Lr k O;have hn:=Ll k O;obtain⟨h8,hall⟩:=hok k o ho;have hw:IntKind.i64.wrap (t.ins+(k:Int))=t.ins+k:=wI O;obtain⟨V',hV'⟩:∃V',L (k+1)=V':=⟨_,rfl⟩;rw[hV']at hs;generalize L k=V at*;have eV:t.ins+(k:Int)=(V.length:Int):=O;rw[eV]at hall;have gv:vs[(t.ins+(k:Int)).toNat]? =some (gI vs V.length):=by
   rw[eV];exact wx O O
  have rv:=hv _ (q0 gv);unfold coO at hs;by_cases k1:o.k=1
  .rw[Z7 (fun h=>(hall h).2 k1),Z6 k1]at hs;conv=>whnf
   refine brI (fun _=>?_) (fun c=>absurd k1 (by simpa using(show(o.k==1)=false from c)));conv=>whnf
   refine zbg 25 48 ?_;refine un hTE hmx [] _ _ _ _ _ ?_;conv=>whnf
   refine gYn (qd8 0 O) ?_;refine⟨OE,?_⟩;conv=>whnf
   refine⟨Z,?_⟩;conv=>whnf
   refine⟨k+1,hk,by show t.ops.length-(k+1)<t.ops.length-k;omega,?_⟩
   ((conv=>whnf);refine q3 ?_ ?_;repeat' first|refine lc ?_ ?_|refine lh1 ?_ ?_|refine bc0 ?_|exact KXZ|refine lg0 ?_|refine lt0 ?_)
   .exact ai0 (by rw[wI O];omega)
   .exact bb0 (by rw[hV'];exact hs.symm)
  .rw[Z7 k1]at hs;obtain⟨hkk,hoa,hob,hnn⟩:=(zto hb).resolve_left k1;have ga:=wx (vs:=vs) hoa.1 O;have gb:=wx (vs:=vs) hob.1 O;have ca:=wx (vs:=V) hoa.1 hoa.2;have cb:=wx (vs:=V) hob.1 hob.2;have H:=q77 (k:=o.k) (a0:=o.a) (b0:=o.b) (n:=o.n) (c:=o.c.n) (d:=o.c.d) O hnn p rv (hv _ (q0 ga)) (hv _ (q0 gb)) (hr _ (q0 ca)) (hr _ (q0 cb));generalize gI vs V.length=v at*;generalize gI vs o.a=a at*;generalize gI vs o.b=b at*;generalize gI V o.a=da at*;generalize gI V o.b=db at*;have hs:V'=V++ [if v.all=true then v else ruS o.k o.n v a b da db p]:=by
    rw[hs];split
    .rename_i h;rw[(hall h).1]
    .rfl
   generalize (if v.all=true then v else ruS o.k o.n v a b da db p)=D at*;conv=>whnf
   refine brI (fun c=>absurd (by simpa using(show(o.k==1)=true from c)) k1) (fun _=>?_);conv=>whnf
   refine zbg 25 81 ?_;refine un hTE hmx [] _ _ _ _ _ ?_;conv=>whnf
   rw[hw];refine⟨⟨O,O⟩,fun(y:Iv)hy=>?_⟩;obtain rfl:v=y:=by
    have hy:vs[(t.ins+(k:Int)).toNat]? =some y:=hy;rw[gv]at hy;exact Option.some.inj hy
   conv=>whnf
   refine⟨⟨O,O⟩,fun(y:Iv)hy=>?_⟩;obtain rfl:a=y:=by
    have hy:vs[o.a.toNat]? =some y:=hy;rw[ga]at hy;exact Option.some.inj hy
   conv=>whnf
   refine⟨⟨O,O⟩,fun(y:Iv)hy=>?_⟩;obtain rfl:b=y:=by
    have hy:vs[o.b.toNat]? =some y:=hy;rw[gb]at hy;exact Option.some.inj hy
   conv=>whnf
   refine⟨⟨O,O⟩,?_⟩;conv=>whnf
   refine⟨O,fun(y:Iv)hy=>?_⟩;obtain rfl:da=y:=by
    have hy:V[o.a.toNat]? =some y:=hy;rw[ca]at hy;exact Option.some.inj hy
   conv=>whnf
   refine⟨⟨O,O⟩,?_⟩;conv=>whnf
   refine⟨O,fun(y:Iv)hy=>?_⟩;obtain rfl:db=y:=by
    have hy:V[o.b.toNat]? =some y:=hy;rw[cb]at hy;exact Option.some.inj hy
   conv=>whnf
   refine gYn H ?_;refine⟨OE,?_⟩;conv=>whnf
   refine gYd ?_;refine⟨Z,?_⟩;conv=>whnf
   refine⟨k+1,hk,by show t.ops.length-(k+1)<t.ops.length-k;omega,?_⟩
   ((conv=>whnf);refine q3 ?_ ?_;repeat' first|refine lc ?_ ?_|refine lh1 ?_ ?_|refine bc0 ?_|exact KXZ|refine lg0 ?_|refine lt0 ?_)
   .exact ai0 (by rw[wI O];omega)
   .exact bb0 (by rw[hV'];exact hs.symm)
 .have c:=Z3 c;obtain rfl:k=t.ops.length:=O;conv=>whnf
  exact⟨lr rfl,lh0⟩
theorem qdc{t:Tp}(ht:tvB t=true)(h8:∀o∈t.ops,o.k<=8){p:Int}(hp:pcB p=true){x:List Iv}(hx:∀y∈x,RI y)(hl:(x.length:Int)=t.ins):vaOk t (yw p t.ops x):=fun k o h=>by
 have hk:=(q2.1 h).1;obtain⟨⟨a1,a2,a3,a4⟩,hob,_⟩:=wo ht;rw[<-hl]at hob;have hb:tB o ((yw p (t.ops.take k) x).length :Int)=true:=by
  rw[jx,q1];have:=zcd hob h;rw[show(((x.length+min k t.ops.length:Nat)):Int)=(x.length:Int)+k by omega];exact this
 have hV:∀y∈yw p (t.ops.take k) x,RI y:=zeo (zal _ hob) hx;have e:gI (yw p t.ops x) (t.ins+k)=stO p o (yw p (t.ops.take k) x):=by
  have h1:yw p t.ops x=yw p (t.ops.drop (k+1)) (yw p (t.ops.take (k+1)) x):=by rw[<-zjq,List.take_append_drop]
  have h2:(yw p t.ops x)[x.length+k]? =some (stO p o (yw p (t.ops.take k) x)):=by
   rw[h1,zoi _ _ _ _ (by rw[jx,q1];omega),zjp h,List.getElem?_append_right (by rw[jx,q1];omega),jx,q1,(O:x.length+k-(x.length+min k t.ops.length)=0)];rfl
  unfold gI;rw[show(t.ins+(k:Int)).toNat =x.length+k by omega,h2];rfl
 have h8o:=h8 o (q0 h);refine⟨h8o,fun hall=>?_⟩;rw[e]at hall⊢;generalize yw p (t.ops.take k) x=V at*;by_cases k1:o.k=1
 .exfalso;have hr:rOk o.c=true:=by
   unfold tB at hb;rw[Z6 k1]at hb;simp only[Bool.and_eq_true]at hb;exact hb.2.2.2
  unfold stO at hall;rw[Z6 (by rw[k1];rfl)]at hall;unfold zy1 at hall;rw[Z6 hp,qfe hr hp]at hall;cases hall
 .obtain⟨hkk,hoa,hob',hnn⟩:=(zto hb).resolve_left k1;have hka:Ka o.k:=by unfold Ka;omega
  have ra:=hV _ (q0 (wx hoa.1 hoa.2));have h0:zjy o.k≠0:=by rcases hkk with h|h|h|h|h|h|h|h|h|h|h<;>(rw[h];decide)
  have hci:CI (stO p o V):=by
   unfold stO;rw[Z7 h0];split
   .exact qck hka _ _ _ ra
   .exact qck hka _ _ _ ra
  rcases hci with h|⟨h,_⟩
  .exact⟨h,k1⟩
  .rw[h]at hall;cases hall
noncomputable def qf0:Code:=Tryz.f40.body.getD .skip
theorem q40(t:Tp)(ht:tvB t=true)(h8:∀o∈t.ops,o.k<=8)(x:List Iv)(p:Int)(hp:pcB p=true)(hx:∀y∈x,RI y)(hl:(x.length:Int)=t.ins):Fn 40 [] [.agg (tpC t),.sl .iv x,.int .i64 p] (.sl .iv (yw p t.ops x)) []:=by
 obtain⟨⟨a1,a2,a3,a4⟩,hob,_⟩:=wo ht;rw[<-hl]at hob;obtain⟨L,hL⟩:∃L:Nat->List Iv,L=fun i=>yw p (t.ops.take i) x:=⟨_,rfl⟩
 have L0:x=L 0:=by rw[hL];rfl
 have Ln:L t.ops.length=yw p t.ops x:=by rw[hL];simp
 have Ls:∀i o,t.ops[i]? =some o->L (i+1)=L i++ [stO p o (L i)]:=fun i o h=>by rw[hL];exact zjp h
 have Ll:∀i,i<=t.ops.length->(L i).length =x.length+i:=fun i h=>by rw[hL];simp only;rw[jx,q1];omega
 have Lb:∀i o,t.ops[i]? =some o->tB o (L i).length =true:=fun i o h=>by
  rw[Ll i (by have:=(q2.1 h).1;omega)];have:=zcd hob h;simpa using this
 have Lr:∀i,i<=t.ops.length->∀y∈L i,RI y:=fun i _=>by
  rw[hL];exact zeo (zal _ hob) hx
 rw[<-Ln];clear hL Ln hob;refine qr (code:=qf0) hTE hmx Tryz.func40 rfl rfl (ex:= []) ?_;conv=>whnf
 refine zb9 hTE hmx [7,8] ?_;conv=>whnf
 refine⟨OE,?_⟩;conv=>whnf
 refine⟨Nat,fun i=>i<=t.ops.length,fun i=> [(8,.int .i64 i),(7,.own 12),(10,.any),(12,.any)],fun i=> [(9,.free),(12,.buf 48 .iv (L i)),(34,.free),(53,.free)],fun i=>t.ops.length-i,0,q4 _,?_,fun i hi=>?_⟩
 ·((conv=>whnf);refine q3 ?_ ?_;repeat' first|refine lc ?_ ?_|refine lh1 ?_ ?_|refine bc0 ?_|exact KXZ|refine lg0 ?_|refine lt0 ?_)
  exact bb0 (by rw[List.nil_append];exact L0)
 have hi:i<=t.ops.length:=hi;refine gYe ?_;refine brI (fun c=>?_) (fun c=>?_)
 .have hi:i<t.ops.length:=by have c:=Z0 c;omega
  conv=>whnf
  refine⟨⟨O,O⟩,fun(o:TOp)ho=>?_⟩;have ho:t.ops[i]? =some o:=by simpa using ho
  have hb:=Lb i o ho;have hs:=Ls i o ho;have hr:=Lr i O;have hn:=Ll i O;have h8o:=h8 o (q0 ho);obtain⟨V',hV'⟩:∃V',L (i+1)=V':=⟨_,rfl⟩;rw[hV']at hs;generalize L i=V at*;by_cases k1:o.k=1
  .have e1:stO p o V=zmm ⟨o.c.n,o.c.d⟩ p:=by
    unfold stO zy1;rw[Z6 (by rw[k1];rfl),Z6 hp]
   rw[e1]at hs;have h74:=q169 o.c.n o.c.d hp;generalize zmm ⟨o.c.n,o.c.d⟩ p=R at*;conv=>whnf
   refine brI (fun _=>?_) (fun c=>absurd k1 (by simpa using(show(o.k==1)=false from c)));conv=>whnf
   refine zbg 12 34 ?_;refine un hTE hmx [] _ _ _ _ _ ?_;conv=>whnf
   refine gYn h74 ?_;refine⟨OE,?_⟩;conv=>whnf
   refine⟨Z,?_⟩;conv=>whnf
   refine⟨i+1,hi,by show t.ops.length-(i+1)<t.ops.length-i;omega,?_⟩
   ((conv=>whnf);refine q3 ?_ ?_;repeat' first|refine lc ?_ ?_|refine lh1 ?_ ?_|refine bc0 ?_|exact KXZ|refine lg0 ?_|refine lt0 ?_)
   .exact ai0 (by rw[wI O];omega)
   .show leB _ _ _ (.buf 48 .iv (V++ [R])) (.buf 48 .iv (L (i+1)));exact bb0 (by rw[hV'];exact hs.symm)
  .obtain⟨hkk,hoa,hob',hnn⟩:=(zto hb).resolve_left k1;have hka:Ka o.k:=by unfold Ka;omega
   have ca:=wx (vs:=V) hoa.1 hoa.2;have cb:=wx (vs:=V) hob'.1 hob'.2;have h75:=q183 (fx:=fxA) hka o.n (gI V o.a) (gI V o.b) (hr _ (q0 ca)) (hr _ (q0 cb)) p;have e1:stO p o V=apI fxA o.k o.n (gI V o.a) (gI V o.b) p:=by
    unfold stO;have hk6:o.k=3\/o.k=4\/o.k=5\/o.k=6\/o.k=7\/o.k=8:=O;generalize o.k=k at*;rcases hk6 with rfl|rfl|rfl|rfl|rfl|rfl<;>rfl
   rw[e1]at hs;generalize apI fxA o.k o.n (gI V o.a) (gI V o.b) p=R at*;generalize gI V o.a=A at*;generalize gI V o.b=B at*;conv=>whnf
   refine brI (fun c=>absurd (by simpa using(show(o.k==1)=true from c)) k1) (fun _=>?_);conv=>whnf
   refine zbg 12 53 ?_;refine un hTE hmx [] _ _ _ _ _ ?_;conv=>whnf
   refine⟨⟨O,O⟩,?_⟩;conv=>whnf
   refine⟨O,fun(y:Iv)hy=>?_⟩;obtain rfl:A=y:=by
    have hy:V[o.a.toNat]? =some y:=hy;rw[ca]at hy;exact Option.some.inj hy
   conv=>whnf
   refine⟨⟨O,O⟩,?_⟩;conv=>whnf
   refine⟨O,fun(y:Iv)hy=>?_⟩;obtain rfl:B=y:=by
    have hy:V[o.b.toNat]? =some y:=hy;rw[cb]at hy;exact Option.some.inj hy
   conv=>whnf
   refine gYn h75 ?_;refine⟨OE,?_⟩;conv=>whnf
   refine gYd ?_;refine⟨Z,?_⟩;conv=>whnf
   refine⟨i+1,hi,by show t.ops.length-(i+1)<t.ops.length-i;omega,?_⟩
   ((conv=>whnf);refine q3 ?_ ?_;repeat' first|refine lc ?_ ?_|refine lh1 ?_ ?_|refine bc0 ?_|exact KXZ|refine lg0 ?_|refine lt0 ?_)
   .exact ai0 (by rw[wI O];omega)
   .show leB _ _ _ (.buf 48 .iv (V++ [R])) (.buf 48 .iv (L (i+1)));exact bb0 (by rw[hV'];exact hs.symm)
 .have c:=Z3 c;obtain rfl:i=t.ops.length:=O;conv=>whnf
  exact⟨lr rfl,lh0⟩
theorem q9(t:Tp)(x:List Iv)(p:Int)(h1:t.ops.length<9223372036854775808)(h2:t.outs.length<9223372036854775808)(hx:∀y∈x,RI y)(hxl:x.length<9223372036854775808):Fn 9 [] [.agg (tpC t),.sl .iv x,.int .i64 p] (.bool (fiB t x p)) []:=by
 have c36:=f42 t h1 h2;have c37:Fn 37 [] [.int .i64 p] (.bool (pcB p)) []:=by
  rw[show pcB p=decide (8<=p/\p<=512) by unfold pcB;rw[Bool.eq_iff_iff];simp];exact r329 p
 obtain⟨V,hV⟩:∃V,fiB t x p=V:=⟨_,rfl⟩;rw[hV];unfold fiB at hV;generalize tvB t=b at*;generalize pcB p=d at*;cases b
 .refine fnT hTE hmx Tryz.func9 rfl rfl (ex:= []) ?_;conv=>whnf
  refine gYn c36 ?_;exact⟨ab0 (by rw[<-hV];rfl),lh0⟩
 by_cases hl:(x.length:Int)=t.ins
 rotate_left
 .rw[Z9 hl]at hV;refine fnT hTE hmx Tryz.func9 rfl rfl (ex:= []) ?_;conv=>whnf
  refine gYn c36 ?_;refine brI (fun _=>?_) (fun c=>absurd (by simpa using(show((x.length:Int) != t.ins)=false from c)) hl);conv=>whnf
  exact⟨ab0 (by rw[<-hV];rfl),lh0⟩
 rw[Z8 hl]at hV;cases d
 .refine fnT hTE hmx Tryz.func9 rfl rfl (ex:= []) ?_;conv=>whnf
  refine gYn c36 ?_;refine brI (fun c=>absurd hl (by simpa using(show((x.length:Int) != t.ins)=true from c))) (fun _=>?_);conv=>whnf
  refine gYn c37 ?_;exact⟨ab0 (by rw[<-hV];rfl),lh0⟩
 have hV:(!x.any ibV)=V:=by rw[<-hV];rfl
 refine fnT hTE hmx Tryz.func9 rfl rfl (ex:= []) ?_;conv=>whnf
 refine gYn c36 ?_;refine brI (fun c=>absurd hl (by simpa using(show((x.length:Int) != t.ins)=true from c))) (fun _=>?_);conv=>whnf
 refine gYn c37 ?_;refine⟨Nat,fun i=>i<=x.length/\(x.drop i).any ibV=x.any ibV,fun i=> [(7,.int .i64 i)],fun _=> [],fun i=>x.length-i,0,⟨OC,OC⟩,?_,fun i hi=>?_⟩
 .exact KZ0
 refine gYe ?_;obtain⟨hi1,hi2⟩:=hi;refine brI (fun h=>?_) (fun h=>?_)
 .conv=>whnf
  have hi:i<x.length:=by simp only[Z4]at h;omega
  refine⟨⟨O,O⟩,fun(z:Iv)hz=>?_⟩;have hz:x[i]? =some z:=by simpa using hz
  have h38:=r108 z (hx z (q0 hz));rw[qh hz]at hi2;simp only[List.any_cons]at hi2;unfold ibV at hi2;conv=>whnf
  refine cbI [] (viB z) h38 (fun h7=>?_) (fun h7=>?_)
  .conv=>whnf
   rw[h7]at hi2;refine⟨i+1,⟨O,by unfold ibV;rw[<-hi2];rfl⟩,by show x.length-(i+1)<x.length-i;omega,?_⟩;exact KZ0
  .conv=>whnf
   rw[h7]at hi2;exact⟨ab0 (by rw[<-hV];unfold ibV;rw[<-hi2];rfl),lh0⟩
 have hi:¬i<x.length:=by simp only[Z5]at h;omega
 rw[List.drop_of_length_le O]at hi2;conv=>whnf
 exact⟨ab0 (by rw[<-hV,<-hi2];rfl),lh0⟩
def TV:Tab:= {TQ with gl:=3::13::TQ.gl}
theorem hTV:TabOK Tryz.prog TV:=zmp qa3 key3 Z Z
noncomputable def oT:Array Oper:=Go.Sx.opsOf 15 (Tryz.f13.body.getD .skip)
def STb(t:Tp)(vs M:List Iv)(p:Int)(m ci:Nat)(c:List Iv)(k0:Int)(n b0 i:Nat)(hs:List Value)(rows:List (List Iv))(hv:Value)(y:Iv)(rw0:List Iv)(h':Value)(L:Nat->Bool):St:=
 ⟨[.any,.any,.int .i64 m,.int .i64 p,.ptr 4 0,.any,.any,.any,.any,.any,.sl .iv vs,.own 42,.val (.slice (some ⟨b0,0,none⟩) n n),.any,.int .i64 ci,.sl .iv c,.int .i64 i,.any,.any,.any,.any,.any,.any,.any,.any,.any,.any,.any,.any,.any,.any,.any,.any,.any,.any,.any,.any,.any,.any,.any,.any,.any,.any,.any,.any,.any,.any,.any,.any,.any,.any,.any,.any,.any,.any,.any,.any,.any,.any,.any,(bif L 0 then .val (.slice (some ⟨b0,0,none⟩) n n)else .any),(bif L 1 then .int .i64 i else .any),(bif L 2 then .val (.slice (some ⟨b0,0,none⟩) n n)else .any),(bif L 3 then .int .i64 i else .any),(bif L 4 then .val (.pointer (some ⟨b0,i,none⟩))else .any),(bif L 5 then .val hv else .any),(bif L 6 then .sl .iv c else .any),(bif L 7 then .ptr 4 2 else .any),(bif L 8 then .sl .int t.outs else .any),(bif L 9 then .int .i64 i else .any),(bif L 10 then .rp .int k0 0 else .any),(bif L 11 then .int .i64 k0 else .any),(bif L 12 then .rp .iv y 0 else .any),(bif L 13 then .agg (ivC y)else .any),(bif L 14 then .sl .iv [y]else .any),(bif L 15 then .val h' else .any),(bif L 16 then .val (.pointer (some ⟨b0,i,none⟩))else .any),.any,.any],
  [(4,.cells (tpC t)),(24,.free),(42,.buf 48 .iv M),(100042,.free),(1500042,.free),(75,.free),(100075,.free),(1500075,.free),(qi,.gst (bif L 17 then yn JT 26 48 .iv b0 n (hs.set i h') (rows.set i (rw0++ [y])) none else bif L 15 then yn JT 26 48 .iv b0 n hs rows (some (i,h',rw0++ [y]))else yn JT 26 48 .iv b0 n hs rows none))]⟩
def ST(t:Tp)(vs M:List Iv)(p:Int)(m ci:Nat)(c:List Iv)(k0:Int)(n b0 i:Nat)(hs:List Value)(rows:List (List Iv))(hv:Value)(y:Iv)(rw0:List Iv)(L:Nat->Bool)(K:St):Prop:=∃h':Value,K=STb t vs M p m ci c k0 n b0 i hs rows hv y rw0 h' L
section
variable (t:Tp) (vs M:List Iv) (p:Int) (m ci:Nat) (c:List Iv) (k0:Int) (n b0 i:Nat) (hs:List Value) (rows:List (List Iv)) (hv:Value) (y:Iv) (rw0:List Iv) (h':Value) (L:Nat->Bool)
theorem To0(h0:L 0=false):∀o,oT[0]? =some o->OpT Tryz.prog o (STb t vs M p m ci c k0 n b0 i hs rows hv y rw0 h' L) (STb t vs M p m ci c k0 n b0 i hs rows hv y rw0 h' (je L 0)):=by
 intro o ho;have ho:some _=some o:=ho;cases ho
 unfold STb;rw[h0];refine ka hTV rfl ?_;conv=>whnf
 exact rfl
theorem To1(h1:L 1=false):∀o,oT[1]? =some o->OpT Tryz.prog o (STb t vs M p m ci c k0 n b0 i hs rows hv y rw0 h' L) (STb t vs M p m ci c k0 n b0 i hs rows hv y rw0 h' (je L 1)):=by
 intro o ho;have ho:some _=some o:=ho;cases ho
 unfold STb;rw[h1];refine ka hTV rfl ?_;conv=>whnf
 exact rfl
theorem To2(h2:L 2=false):∀o,oT[2]? =some o->OpT Tryz.prog o (STb t vs M p m ci c k0 n b0 i hs rows hv y rw0 h' L) (STb t vs M p m ci c k0 n b0 i hs rows hv y rw0 h' (je L 2)):=by
 intro o ho;have ho:some _=some o:=ho;cases ho
 unfold STb;rw[h2];refine ka hTV rfl ?_;conv=>whnf
 exact rfl
theorem To3(h3:L 3=false):∀o,oT[3]? =some o->OpT Tryz.prog o (STb t vs M p m ci c k0 n b0 i hs rows hv y rw0 h' L) (STb t vs M p m ci c k0 n b0 i hs rows hv y rw0 h' (je L 3)):=by
 intro o ho;have ho:some _=some o:=ho;cases ho
 unfold STb;rw[h3];refine ka hTV rfl ?_;conv=>whnf
 exact rfl
theorem To4(h4:L 4=false)(h2:L 2=true)(h3:L 3=true)(hin:i<n):∀o,oT[4]? =some o->OpT Tryz.prog o (STb t vs M p m ci c k0 n b0 i hs rows hv y rw0 h' L) (STb t vs M p m ci c k0 n b0 i hs rows hv y rw0 h' (je L 4)):=by
 intro o ho;have ho:some _=some o:=ho;cases ho
 unfold STb;rw[h4,h2,show je L 4 2=_ from h2,h3,show je L 4 3=_ from h3];exact(zfw (j:=(i:Int)) rfl rfl rfl Tryz.underlying30 Tryz.type26 rfl rfl rfl O O).to rfl
theorem To5(h5:L 5=false)(h4:L 4=true)(h15:L 15=false)(h17:L 17=false)(hh:hs[i]? =some hv):∀o,oT[5]? =some o->OpT Tryz.prog o (STb t vs M p m ci c k0 n b0 i hs rows hv y rw0 h' L) (STb t vs M p m ci c k0 n b0 i hs rows hv y rw0 h' (je L 5)):=by
 intro o ho;have ho:some _=some o:=ho;cases ho
 unfold STb;rw[h5,h4,show je L 5 4=_ from h4,h15,show je L 5 15=_ from h15,h17,show je L 5 17=_ from h17];exact(zot (j:=i) rfl rfl rfl ti26 rfl rfl rfl rfl hh).to rfl
theorem To6(h6:L 6=false):∀o,oT[6]? =some o->OpT Tryz.prog o (STb t vs M p m ci c k0 n b0 i hs rows hv y rw0 h' L) (STb t vs M p m ci c k0 n b0 i hs rows hv y rw0 h' (je L 6)):=by
 intro o ho;have ho:some _=some o:=ho;cases ho
 unfold STb;rw[h6];refine ka hTV rfl ?_;conv=>whnf
 exact rfl
theorem To7(h7:L 7=false):∀o,oT[7]? =some o->OpT Tryz.prog o (STb t vs M p m ci c k0 n b0 i hs rows hv y rw0 h' L) (STb t vs M p m ci c k0 n b0 i hs rows hv y rw0 h' (je L 7)):=by
 intro o ho;have ho:some _=some o:=ho;cases ho
 unfold STb;rw[h7];refine ka hTV rfl ?_;conv=>whnf
 exact rfl
theorem To8(h8:L 8=false)(h7:L 7=true):∀o,oT[8]? =some o->OpT Tryz.prog o (STb t vs M p m ci c k0 n b0 i hs rows hv y rw0 h' L) (STb t vs M p m ci c k0 n b0 i hs rows hv y rw0 h' (je L 8)):=by
 intro o ho;have ho:some _=some o:=ho;cases ho
 unfold STb;rw[h8,h7,show je L 8 7=_ from h7];refine ka hTV rfl ?_;conv=>whnf
 exact rfl
theorem To9(h9:L 9=false):∀o,oT[9]? =some o->OpT Tryz.prog o (STb t vs M p m ci c k0 n b0 i hs rows hv y rw0 h' L) (STb t vs M p m ci c k0 n b0 i hs rows hv y rw0 h' (je L 9)):=by
 intro o ho;have ho:some _=some o:=ho;cases ho
 unfold STb;rw[h9];refine ka hTV rfl ?_;conv=>whnf
 exact rfl
theorem To10(h10:L 10=false)(h8:L 8=true)(h9:L 9=true)(h15:L 15=false)(h17:L 17=false)(hoi:t.outs[i]? =some k0):∀o,oT[10]? =some o->OpT Tryz.prog o (STb t vs M p m ci c k0 n b0 i hs rows hv y rw0 h' L) (STb t vs M p m ci c k0 n b0 i hs rows hv y rw0 h' (je L 10)):=by
 intro o ho;have ho:some _=some o:=ho;cases ho
 unfold STb;rw[h10,h8,show je L 10 8=_ from h8,h9,show je L 10 9=_ from h9,h15,show je L 10 15=_ from h15,h17,show je L 10 17=_ from h17];refine ka hTV rfl ?_;conv=>whnf
 have hlt:=(q2.1 hoi).1;refine⟨⟨O,O⟩,fun(x:Int)hx=>?_⟩;obtain rfl:k0=x:=by
  have hx:t.outs[i]? =some x:=by simpa using hx
  rw[hoi]at hx;exact Option.some.inj hx
 conv=>whnf
 exact rfl
theorem To11(h11:L 11=false)(h10:L 10=true):∀o,oT[11]? =some o->OpT Tryz.prog o (STb t vs M p m ci c k0 n b0 i hs rows hv y rw0 h' L) (STb t vs M p m ci c k0 n b0 i hs rows hv y rw0 h' (je L 11)):=by
 intro o ho;have ho:some _=some o:=ho;cases ho
 unfold STb;rw[h11,h10,show je L 11 10=_ from h10];refine ka hTV rfl ?_;conv=>whnf
 exact rfl
theorem To12(h12:L 12=false)(h6:L 6=true)(h11:L 11=true)(h15:L 15=false)(h17:L 17=false)(hk:0<=k0)(hy:c[k0.toNat]? =some y):∀o,oT[12]? =some o->OpT Tryz.prog o (STb t vs M p m ci c k0 n b0 i hs rows hv y rw0 h' L) (STb t vs M p m ci c k0 n b0 i hs rows hv y rw0 h' (je L 12)):=by
 intro o ho;have ho:some _=some o:=ho;cases ho
 unfold STb;rw[h12,h6,show je L 12 6=_ from h6,h11,show je L 12 11=_ from h11,h15,show je L 12 15=_ from h15,h17,show je L 12 17=_ from h17];refine ka hTV rfl ?_;conv=>whnf
 have hlt:=(q2.1 hy).1;refine⟨⟨O,O⟩,fun(x:Iv)hx=>?_⟩;obtain rfl:y=x:=by
  have hx:c[k0.toNat]? =some x:=hx;rw[hy]at hx;exact Option.some.inj hx
 conv=>whnf
 exact rfl
theorem To13(h13:L 13=false)(h12:L 12=true):∀o,oT[13]? =some o->OpT Tryz.prog o (STb t vs M p m ci c k0 n b0 i hs rows hv y rw0 h' L) (STb t vs M p m ci c k0 n b0 i hs rows hv y rw0 h' (je L 13)):=by
 intro o ho;have ho:some _=some o:=ho;cases ho
 unfold STb;rw[h13,h12,show je L 13 12=_ from h12];refine ka hTV rfl ?_;conv=>whnf
 exact rfl
theorem To14(h14:L 14=false)(h13:L 13=true):∀o,oT[14]? =some o->OpT Tryz.prog o (STb t vs M p m ci c k0 n b0 i hs rows hv y rw0 h' L) (STb t vs M p m ci c k0 n b0 i hs rows hv y rw0 h' (je L 14)):=by
 intro o ho;have ho:some _=some o:=ho;cases ho
 unfold STb;rw[h14,h13,show je L 14 13=_ from h13];refine ka hTV rfl ?_;conv=>whnf
 exact rfl
theorem To15(h15:L 15=false)(h5:L 5=true)(h14:L 14=true)(h17:L 17=false)(hh:hs[i]? =some hv)(hr:rows[i]? =some rw0)(hlr:rw0.length<=100000):∀o,oT[15]? =some o->OpX Tryz.prog o (STb t vs M p m ci c k0 n b0 i hs rows hv y rw0 h' L) fun K=>∃h'',K=STb t vs M p m ci c k0 n b0 i hs rows hv y rw0 h'' (je L 15):=by
 intro o ho;have ho:some _=some o:=ho;cases ho
 unfold STb;rw[h15,h5,show je L 15 5=_ from h5,h14,show je L 15 14=_ from h14,h17,show je L 15 17=_ from h17];refine(zor (k:=.iv) (i:=i) (row:=rw0) (y:=y) rfl rfl rfl rfl rfl rfl zko rfl rfl rfl rfl rfl rfl rfl rfl hh hr ?_ ?_).mono fun K h=>?_
 .show(_+1)*88<=_;omega
 .decide
 .obtain⟨h'',rfl⟩:=h;exact⟨h'',rfl⟩
theorem To16(h16:L 16=false)(h0:L 0=true)(h1:L 1=true)(hin:i<n):∀o,oT[16]? =some o->OpT Tryz.prog o (STb t vs M p m ci c k0 n b0 i hs rows hv y rw0 h' L) (STb t vs M p m ci c k0 n b0 i hs rows hv y rw0 h' (je L 16)):=by
 intro o ho;have ho:some _=some o:=ho;cases ho
 unfold STb;rw[h16,h0,show je L 16 0=_ from h0,h1,show je L 16 1=_ from h1];exact(zfw (j:=(i:Int)) rfl rfl rfl Tryz.underlying30 Tryz.type26 rfl rfl rfl O O).to rfl
theorem To17(h17:L 17=false)(h16:L 16=true)(h15:L 15=true)(hi:i<hs.length):∀o,oT[17]? =some o->OpT Tryz.prog o (STb t vs M p m ci c k0 n b0 i hs rows hv y rw0 h' L) (STb t vs M p m ci c k0 n b0 i hs rows hv y rw0 h' (je L 17)):=by
 intro o ho;have ho:some _=some o:=ho;cases ho
 unfold STb;rw[h17,h16,show je L 17 16=_ from h16,h15,show je L 17 15=_ from h15];exact(zos (i:=i) rfl rfl rfl zko i26t rfl rfl rfl rfl hi).to rfl
theorem Tstep(hin:i<n)(hh:hs[i]? =some hv)(hoi:t.outs[i]? =some k0)(hk:0<=k0)(hy:c[k0.toNat]? =some y)(hr:rows[i]? =some rw0)(hlr:rw0.length<=100000)(hi:i<hs.length)
 (q:Nat) (o:Oper) (hcl:∀j oj,oT[j]? =some oj->L j=true->∀e∈oj.after,qF .any e=true->L e.on=true) (ho:oT[q]? =some o) (hL:L q=false)
 (hd:∀e∈o.after,qF .any e=true->L e.on=true):∀K,ST t vs M p m ci c k0 n b0 i hs rows hv y rw0 L K->OpX Tryz.prog o K (ST t vs M p m ci c k0 n b0 i hs rows hv y rw0 (je L q)):=by
 rintro K ⟨h',rfl⟩;have dpq:∀ {j:Nat},oT[j]? =some o->∀q,((oT[j]?.map fun o=>o.after.toList.any fun e=>qF .any e&&Nat.beq e.on q)=some true)->L q=true:=fun {j}ho q hq=>zt8 ho hd q hq
 have cl:∀a q,((oT[a]?.map fun o=>o.after.toList.any fun e=>qF .any e&&Nat.beq e.on q)=some true)->L a=true->L q=true:=fun a q hq ha=>zy2 hcl hq ha
 have nf:∀a q,L q=false->(L a=true->L q=true)->L a=false:=fun a q h1 h2=>by
  cases h:L a with
  |false=>rfl
  |true=>rw[h2 h]at h1;cases h1
 match q,ho,hL with
 |0,ho,hL=>
  exact OpT.x (To0 t vs M p m ci c k0 n b0 i hs rows hv y rw0 h' L hL o ho) ⟨h',rfl⟩
 |1,ho,hL=>
  exact OpT.x (To1 t vs M p m ci c k0 n b0 i hs rows hv y rw0 h' L hL o ho) ⟨h',rfl⟩
 |2,ho,hL=>
  exact OpT.x (To2 t vs M p m ci c k0 n b0 i hs rows hv y rw0 h' L hL o ho) ⟨h',rfl⟩
 |3,ho,hL=>
  exact OpT.x (To3 t vs M p m ci c k0 n b0 i hs rows hv y rw0 h' L hL o ho) ⟨h',rfl⟩
 |4,ho,hL=>
  have g2:=dpq ho 2 OB;have g3:=dpq ho 3 OB;exact OpT.x (To4 t vs M p m ci c k0 n b0 i hs rows hv y rw0 h' L hL g2 g3 hin o ho) ⟨h',rfl⟩
 |5,ho,hL=>
  have g4:=dpq ho 4 OB;have g15:=nf 15 5 hL fun h=>cl 15 5 OB (h)
  have g17:=nf 17 5 hL fun h=>cl 15 5 OB (cl 17 15 OB (h))
  exact OpT.x (To5 t vs M p m ci c k0 n b0 i hs rows hv y rw0 h' L hL g4 g15 g17 hh o ho) ⟨h',rfl⟩
 |6,ho,hL=>
  exact OpT.x (To6 t vs M p m ci c k0 n b0 i hs rows hv y rw0 h' L hL o ho) ⟨h',rfl⟩
 |7,ho,hL=>
  exact OpT.x (To7 t vs M p m ci c k0 n b0 i hs rows hv y rw0 h' L hL o ho) ⟨h',rfl⟩
 |8,ho,hL=>
  have g7:=dpq ho 7 OB;exact OpT.x (To8 t vs M p m ci c k0 n b0 i hs rows hv y rw0 h' L hL g7 o ho) ⟨h',rfl⟩
 |9,ho,hL=>
  exact OpT.x (To9 t vs M p m ci c k0 n b0 i hs rows hv y rw0 h' L hL o ho) ⟨h',rfl⟩
 |10,ho,hL=>
  have g8:=dpq ho 8 OB;have g9:=dpq ho 9 OB;have g15:=nf 15 10 hL fun h=>cl 11 10 OB (cl 12 11 OB (cl 13 12 OB (cl 14 13 OB (cl 15 14 OB (h)))))
  have g17:=nf 17 10 hL fun h=>cl 11 10 OB (cl 12 11 OB (cl 13 12 OB (cl 14 13 OB (cl 15 14 OB (cl 17 15 OB (h))))))
  exact OpT.x (To10 t vs M p m ci c k0 n b0 i hs rows hv y rw0 h' L hL g8 g9 g15 g17 hoi o ho) ⟨h',rfl⟩
 |11,ho,hL=>
  have g10:=dpq ho 10 OB;exact OpT.x (To11 t vs M p m ci c k0 n b0 i hs rows hv y rw0 h' L hL g10 o ho) ⟨h',rfl⟩
 |12,ho,hL=>
  have g6:=dpq ho 6 OB;have g11:=dpq ho 11 OB;have g15:=nf 15 12 hL fun h=>cl 13 12 OB (cl 14 13 OB (cl 15 14 OB (h)))
  have g17:=nf 17 12 hL fun h=>cl 13 12 OB (cl 14 13 OB (cl 15 14 OB (cl 17 15 OB (h))))
  exact OpT.x (To12 t vs M p m ci c k0 n b0 i hs rows hv y rw0 h' L hL g6 g11 g15 g17 hk hy o ho) ⟨h',rfl⟩
 |13,ho,hL=>
  have g12:=dpq ho 12 OB;exact OpT.x (To13 t vs M p m ci c k0 n b0 i hs rows hv y rw0 h' L hL g12 o ho) ⟨h',rfl⟩
 |14,ho,hL=>
  have g13:=dpq ho 13 OB;exact OpT.x (To14 t vs M p m ci c k0 n b0 i hs rows hv y rw0 h' L hL g13 o ho) ⟨h',rfl⟩
 |15,ho,hL=>
  have g5:=dpq ho 5 OB;have g14:=dpq ho 14 OB;have g17:=nf 17 15 hL fun h=>cl 17 15 OB (h)
  exact To15 t vs M p m ci c k0 n b0 i hs rows hv y rw0 h' L hL g5 g14 g17 hh hr hlr o ho
 |16,ho,hL=>
  have g0:=dpq ho 0 OB;have g1:=dpq ho 1 OB;exact OpT.x (To16 t vs M p m ci c k0 n b0 i hs rows hv y rw0 h' L hL g0 g1 hin o ho) ⟨h',rfl⟩
 |17,ho,hL=>
  have g16:=dpq ho 16 OB;have g15:=dpq ho 15 OB;exact OpT.x (To17 t vs M p m ci c k0 n b0 i hs rows hv y rw0 h' L hL g16 g15 hi o ho) ⟨h',rfl⟩
 |q+18,ho,_=>
  have hs:oT.size=18:=Z;have:=(Array.getElem?_eq_some_iff.1 ho).1;omega
end
noncomputable def zy5:Code:=Tryz.f13.body.getD .skip
abbrev fr13(t:Tp)(M:List Iv):Hp:= [(4,.cells (tpC t)),(24,.free),(42,.buf 48 .iv M),(100042,.free),(1500042,.free),(75,.free),(100075,.free),(1500075,.free)]
abbrev zxa(t:Tp):Hp:= [(4,.cells (tpC t)),(24,.free),(42,.free),(100042,.free),(1500042,.free),(75,.free),(100075,.free),(1500075,.free)]
theorem q13s(t:Tp)(ht:tvB t=true)(vs:List Iv)(m:Nat)(p:Int)(hv:∀y∈vs,RI y)(hl:(vs.length:Int)=t.ins+t.ops.length)(hok:vaOk t vs)(hm:(m:Int)<=t.ins)(d:Nat)(hd:d=3):
 SemOK Tryz.prog TV Tryz.f13.results.toList [] (.tup [.sl .iv (t.outs.map (gI vs)),.sl .vs (t.outs.map (gtC t vs m p))]) G0 (zh4 d zy5) ⟨[.any,.any,.int .i64 m,.int .i64 p,.ptr 4 0]++uo 5++ [.sl .iv vs,.nilsl]++uo 67,zxa t++G0⟩:=by
 obtain⟨⟨a1,a2,a3,a4⟩,a5,a6⟩:=wo ht;subst hd;obtain⟨G,hG⟩:∃G,t.outs.map (gtC t vs m p)=G:=⟨_,rfl⟩;have hGl:G.length=t.outs.length:=by rw[<-hG];simp
 have hGi:∀(k:Nat)(o:Int),t.outs[k]? =some o->G[k]? =some (gtC t vs m p o):=fun k o h=>by rw[<-hG,qE,h];rfl
 have hGm:∀r∈G,r.length=m:=fun r hr=>by
  rw[<-hG]at hr;obtain⟨o,_,rfl⟩:=List.mem_map.1 hr;simp[gtC]
 obtain⟨M,hM⟩:∃M,t.outs.map (gI vs)=M:=⟨_,rfl⟩;have hMl:M.length=t.outs.length:=by rw[<-hM];simp
 have hMs:∀i k,t.outs[i]? =some k->M.take (i+1)=M.take i++ [gI vs k]:=fun i k h=>by
  rw[qA,<-hM,qE,h];rfl
 have hMe:M.take t.outs.length=M:=qC O;rw[hG,hM];clear hM;refine zr6 hTV hmx [15] zko (E:=26) (e:=48) (k:=.iv) (kk:=.vs) (fun r=>r) (fun _=>rfl) rfl (cap:=t.outs.length) (fun rows=>rows=G)
  (fun b0=>⟨[.any,.any,.int .i64 m,.int .i64 p,.ptr 4 0]++uo 5++ [.sl .iv vs,.nilsl,.val (.slice (some ⟨b0,0,none⟩) t.outs.length t.outs.length)]++uo 8++ [.ptr 4 2,.sl .int t.outs,.int .i64 t.outs.length,.val (.slice (some ⟨b0,0,none⟩) t.outs.length t.outs.length)]++uo 54,zxa t++ [(qi,.gst (yn JT 26 48 .iv b0 t.outs.length (qD t.outs.length (.slice none 0 0)) (qD t.outs.length []) none))]⟩)
  (fun b0 hs rows=>⟨uo 4++ [.ptr 4 0]++uo 5++ [.sl .iv vs,.own 42,.val (.slice (some ⟨b0,0,none⟩) t.outs.length t.outs.length)]++uo 66,fr13 t M++ [(qi,.gst (yn JT 26 48 .iv b0 t.outs.length hs rows none))]⟩)
  (fun rows=>uo 4++ [.ptr 4 0]++uo 5++ [.sl .iv vs,.own 42,.sl .vs rows]++uo 66) ?_ (fun b0=>?_) (fun b0 hs rows=>Z) (fun b0 hs rows h=>⟨rfl,?_⟩) (fun b0 hs rows h=>?_)
 .refine zli hTV (σa:=⟨[.any,.any,.int .i64 m,.int .i64 p,.ptr 4 0]++uo 5++ [.sl .iv vs,.nilsl]++uo 9++ [.ptr 4 2,.sl .int t.outs,.int .i64 t.outs.length]++uo 55,zxa t++G0⟩) (n:=t.outs.length) (e:=48) (k:=.iv) _ _ (spl 3 rfl) rfl zko rfl rfl rfl rfl rfl Tryz.underlying30 Tryz.type26 rfl rfl OA O _ ?_ (fun b0=>?_)
  .conv=>whnf
   exact rfl
  .conv=>whnf
   exact rfl
 .conv=>whnf
  refine⟨Nat,fun i=>i<=t.outs.length,fun i=> [(13,.int .i64 i),(11,.own 42)],fun i=> [(42,.buf 48 .iv (M.take i))],fun i=>t.outs.length-i,0,q4 _,?_,fun i hi=>?_⟩
  .exact KZ0
  have hi:i<=t.outs.length:=hi;refine gYe ?_;refine brI (fun c=>?_) (fun c=>?_)
  .have hi:i<t.outs.length:=by have c:=Z0 c;omega
   conv=>whnf
   refine⟨⟨O,O⟩,fun(k:Int)hk=>?_⟩;have hk:t.outs[i]? =some k:=by simpa using hk
   have hs:=hMs i k hk;obtain⟨k1,k2⟩:=a6 k (q0 hk);have gk:=wx (vs:=vs) k1 O;obtain⟨M',hM'⟩:∃M',M.take (i+1)=M':=⟨_,rfl⟩;have hl0:(M.take i).length <=200:=by rw[q1];omega
   rw[hM']at hs;generalize M.take i=M0 at*;generalize gI vs k=A at*;conv=>whnf
   refine⟨⟨O,O⟩,fun(A':Iv)hA'=>?_⟩;obtain rfl:A=A':=by
    have hA':vs[k.toNat]? =some A':=hA';rw[gk]at hA';exact Option.some.inj hA'
   conv=>whnf
   refine⟨OE,?_⟩;conv=>whnf
   refine⟨i+1,hi,by show t.outs.length-(i+1)<t.outs.length-i;omega,?_⟩
   ((conv=>whnf);refine q3 ?_ ?_;repeat' first|refine lc ?_ ?_|refine lh1 ?_ ?_|refine bc0 ?_|exact KXZ|refine lg0 ?_|refine lt0 ?_)
   .exact ai0 (by rw[wI O];omega)
   .exact bb0 (by rw[hM',hs])
  have c:i=t.outs.length:=by have c:=Z3 c;omega
  subst c;rw[hMe];clear hMs hi hMe;conv=>whnf
  refine⟨Nat×List Value,fun y=>y.1<=m/\y.2.length=t.outs.length,fun y=> [(14,.int .i64 y.1),(13,.any),(15,.any),(16,.any),(21,.any),(22,.any),(23,.any),(24,.any),(25,.any),(26,.any),(27,.any),(28,.any),(29,.any)],fun y=> [(75,.free),(100075,.free),(1500075,.free),(qi,.gst (yn JT 26 48 .iv b0 t.outs.length y.2 (rwC G y.1 0) none))],fun y=>m-y.1,(0,qD t.outs.length (.slice none 0 0)),⟨q4 _,OC⟩,?_,?_⟩
  ·((conv=>whnf);refine q3 ?_ ?_;repeat' first|refine lc ?_ ?_|refine lh1 ?_ ?_|refine bc0 ?_|exact KXZ|refine lg0 ?_|refine lt0 ?_)
   exact bg0 (by rw[zog,hGl])
  rintro⟨i,hs⟩ ⟨hi,hh⟩;have hi:i<=m:=hi;have hh:hs.length=t.outs.length:=hh;refine gYe ?_;refine brI (fun c1=>?_) (fun c1=>?_)
  .have c1:i<m:=by have:=Z0 c1;omega
   have h41:=q41 t ht vs i p hv hl hok;have hcl:((coS t vs i p).length :Int)=t.ins+t.ops.length:=by unfold coS;rw[ze6];simp[coI];omega
   have hGy:∀(k:Nat)(o:Int),t.outs[k]? =some o->(gtC t vs m p o)[i]? =some (gI (coS t vs i p) o):=fun k o _=>by simp[gtC,c1]
   generalize coS t vs i p=c at*;conv=>whnf
   refine gYn h41 ?_;refine⟨Nat×List Value,fun y=>y.1<=t.outs.length/\y.2.length=t.outs.length,fun y=> [(16,.int .i64 y.1),(13,.any),(21,.any),(22,.any),(23,.any),(24,.any),(25,.any),(26,.any),(27,.any),(28,.any),(29,.any),(43,.any),(44,.any),(45,.any),(48,.any),(49,.any),(50,.any),(51,.any),(52,.any)],fun y=> [(75,.free),(100075,.free),(1500075,.free),(qi,.gst (yn JT 26 48 .iv b0 t.outs.length y.2 (rwC G i y.1) none))],fun y=>t.outs.length-y.1,(0,hs),⟨q4 _,hh⟩,?_,?_⟩
   .exact KZ0
   rintro⟨k,hs⟩ ⟨hk,hh⟩;have hk:k<=t.outs.length:=hk;have hh:hs.length=t.outs.length:=hh;refine gYe ?_;refine brI (fun c2=>?_) (fun c2=>?_)
   .have c2:k<t.outs.length:=by have:=Z0 c2;omega
    obtain⟨hv',hhv⟩:∃hv,hs[k]? =some hv:=⟨_,qB O⟩;obtain⟨o,ho⟩:∃o,t.outs[k]? =some o:=⟨_,qB c2⟩;have hGk:=hGi k o ho;have hgy:=hGy k o ho;obtain⟨o1,o2⟩:=a6 o (q0 ho);have hcy:=wx (vs:=c) o1 O;have haa:=zse (i:=i) hGk;have hbb:=zsd hGk hgy;conv=>whnf
    refine zky hmx (ST t vs M p m i c o t.outs.length b0 k hs (rwC G i k) hv' (gI c o) ((gtC t vs m p o).take i)) (σ0:=STb t vs M p m i c o t.outs.length b0 k hs (rwC G i k) hv' (gI c o) ((gtC t vs m p o).take i) (.slice none 0 0) fun _=>false) Z ⟨_,rfl⟩ ?_ Z (fun L q o' h1 h2 h3 h4=>Tstep t vs M p m i c o t.outs.length b0 k hs (rwC G i k) hv' (gI c o) ((gtC t vs m p o).take i) L c2 hhv ho o1 hcy haa (by rw[q1];omega) O q o' h1 h2 h3 h4) ?_
    .exact KZ0
    .rintro K ⟨h',rfl⟩;conv=>whnf
     refine⟨(k+1,hs.set k h'),⟨c2,by rw[List.length_set];exact hh⟩,by show t.outs.length-(k+1)<t.outs.length-k;omega,?_⟩
     ((conv=>whnf);refine q3 ?_ ?_;repeat' first|refine lc ?_ ?_|refine lh1 ?_ ?_|refine bc0 ?_|exact KXZ|refine lg0 ?_|refine lt0 ?_)
     .refine ai0 ?_;rw[wI O];show(k:Int)+1=((k+1:Nat):Int);omega
     .refine bg0 ?_;rw[<-hbb];rfl
   .conv=>whnf
    have hj2:k=t.outs.length:=by have:=Z3 c2;omega
    have hn2:=zoh G i;refine⟨(i+1,hs),⟨O,hh⟩,by show m-(i+1)<m-i;omega,?_⟩
    ((conv=>whnf);refine q3 ?_ ?_;repeat' first|refine lc ?_ ?_|refine lh1 ?_ ?_|refine bc0 ?_|exact KXZ|refine lg0 ?_|refine lt0 ?_)
    .exact ai0 (by rw[wI O];omega)
    .exact bg0 (by rw[hj2,<-hGl,hn2])
  .conv=>whnf
   have hi2:i=m:=by have:=Z3 c1;omega
   refine⟨hs,rwC G i 0,by rw[hi2];exact zsf hGm,?_⟩;exact KZ0
 .subst h;rw[hGl];exact⟨.inl rfl,.inl rfl,.inl rfl,.inl rfl,.inr (.inl rfl),.inl rfl,.inl rfl,.inl rfl,.inl rfl,.inl rfl,.inr (.inl rfl),.inr (.inl rfl),.inr (.inr ⟨rfl,OC⟩),zhh _⟩
 .subst h;refine ww hTV hmx ?_;conv=>whnf
  exact⟨lt0 (lc (lr rfl) (lc (lr rfl) ln0)),leG⟩
theorem q13(t:Tp)(ht:tvB t=true)(h8:∀o∈t.ops,o.k<=8)(x:List Iv)(m:Nat)(p:Int)(hp:pcB p=true)(hx:∀y∈x,RI y)(hl:(x.length:Int)=t.ins)(hm:(m:Int)<=t.ins):
 Fn 13 G0 [.agg (tpC t),.sl .iv x,.int .i64 m,.int .i64 p] (.tup [.sl .iv (t.outs.map (gI (yw p t.ops x))),.sl .vs (t.outs.map (gtC t (yw p t.ops x) m p))]) G0:=by
 have hob:=(wo ht).2.1;rw[<-hl]at hob;have rest:=q13s t ht (yw p t.ops x) m p (zeo hob hx) (by rw[jx];omega) (qdc ht h8 hp hx hl) hm 3 rfl;have h40:=q40 t ht h8 x p hp hx hl;generalize yw p t.ops x=vs at*;generalize t.outs.map (gI vs)=O1 at*;generalize t.outs.map (gtC t vs m p)=O2 at*;refine qr (code:=zy5) hTV hmx Tryz.func13 rfl rfl (ex:= []) ?_;conv=>whnf
 refine jm hTV hmx 3 (fun _:Unit=>⟨[.any,.any,.int .i64 m,.int .i64 p,.ptr 4 0]++uo 5++ [.sl .iv vs,.nilsl]++uo 67,zxa t++G0⟩) (fun _=>Z) ?_ (fun _=>rest);clear rest;conv=>whnf
 refine gYn h40 ?_;refine⟨(),?_⟩;exact KZ0
