/- Running a tape: plain laws. -/
import Derived.Test.YtlbmkjbgfkgcmaaGreatDoorSTc
import Derived.Test.YtlbmkjbgfkgcmaaGreatDoorSXi
set_option linter.all false
open List renaming mem_of_getElem?->q0,take_add_one->q1
namespace Go.Proofs.YtlbmkjbgfkgcmaaGreatDoor
open Go Go.Sx
set_option maxHeartbeats 2000000
def zyf(r:Rt)(p:Int):Iv:=if pcB p=true then zuz r p else wI0
def gI(vs:List Iv)(k:Int):Iv:=(vs[k.toNat]?).getD zI
def stO(p:Int)(o:TOp)(vs:List Iv):Iv:=
 if zj2 o.k=0 then zyf o.c p else if zj2 o.k=1 then apI fxA o.k o.n (gI vs o.a) wI0 p else apI fxA o.k o.n (gI vs o.a) (gI vs o.b) p
def zdf(p:Int):List TOp->List Iv->List Iv
 | [],vs=>vs
 |o::l,vs=>zdf p l (vs++ [stO p o vs])
def zo9(t:Tp)(x:List Iv)(p:Int):List Iv:=if tvB t=true/\(x.length:Int)=t.ins then zdf p t.ops x else []
def zqd(t:Tp)(x:List Iv)(p:Int):List Iv:=if tvB t=true/\(x.length:Int)=t.ins then t.outs.map (gI (zdf p t.ops x))else []
theorem zav(p:Int):∀(l:List TOp)(vs:List Iv),(zdf p l vs).length =vs.length+l.length
 | [],vs=>by simp[zdf]
 |o::l,vs=>by rw[zdf,zav p l];simp;omega
theorem zns(p:Int):∀(l l':List TOp)(vs:List Iv),zdf p (l++l') vs=zdf p l' (zdf p l vs)
 | [],_,_=>rfl
 |o::l,l',vs=>by rw[List.cons_append,zdf,zdf,zns p l l']
theorem wu{t:Tp}(h:tvB t=true):(0<=t.ins/\t.ins<=8/\t.ops.length<=200/\t.outs.length<=200)/\zb0 t.ops t.ins=true/\∀k∈t.outs,0<=k/\k<t.ins+t.ops.length:=by
 unfold tvB at h;simp only[Bool.and_eq_true,Z4,Bool.not_eq_true',List.any_eq_false]at h;refine⟨h.1,h.2.1,fun k hk=>?_⟩;have:=h.2.2 k hk;simp only[zcz,Bool.or_eq_true,Z4,not_or]at this;omega
set_option maxRecDepth 100000
set_option maxHeartbeats 8000000
def TJ:Tab:= {T8 with gl:=34::56::T8.gl}
theorem hTJ:TabOK Tryz.prog TJ:=zew Z Z
theorem j28(l:List Iv)(hl:l.length<=1000000):Fn 18 [] [.sl .iv l] (.own 2000000) [(2000000,.buf 48 .iv l)]:=by
 by_cases h0:l= []
 .subst h0;refine fnT hTJ hmx Tryz.func18 rfl rfl (ex:= [7]) ?_;conv=>whnf
  refine⟨fun h=>?_,fun _=>?_⟩
  .conv=>whnf
   exact⟨trivial,lh1 ⟨rfl,rfl⟩ lh0⟩
  .conv=>whnf
   refine⟨OC,?_⟩;conv=>whnf
   exact⟨lr rfl,lh1 (bb0 OC) lh0⟩
 .exact x13 l hl h0
theorem j119{a b:Dy}(ha:VD a)(hb:VD b)(p:Int)(up:Bool)(hp:¬pcB p=true):Fn 179 G0 [.agg (dyC a),.agg (dyC b),.int .i64 p,.bool up] (dyV (d0,2)) G0:=by
 have h:=y164 p [a,b] (by
  have:=ha.len;have:=hb.len;intro d hd;have hd:d=a\/d=b:=by simpa using hd
  rcases hd with rfl|rfl
  .exact⟨ha.lb,O⟩
  .exact⟨hb.lb,O⟩) OC
 have e:ftD p [a,b]=2:=by
  unfold ftD;rw[Z7 (by simp[(ud ha.lb).2 ha,(ud hb.lb).2 hb]),Z6 (by simpa using hp)]
 rw[e]at h;refine fY6 Tryz.func179 rfl ?_;refine gYn h ?_;exact⟨zqg,leG⟩
theorem j73{a b:Dy}(ha:VD a)(hb:VD b)(p:Int)(hp:¬pcB p=true):Fn 111 G0 [.agg (dyC a),.agg (dyC b),.int .i64 p] (dyV (d0,2)) G0:=by
 have h:=j119 ha hb p false hp;refine fY6 Tryz.func111 rfl ?_;refine gYc h ?_;exact⟨lr rfl,leG⟩
theorem j75{a b:Dy}(ha:VD a)(hb:VD b)(p:Int)(hp:¬pcB p=true):Fn 113 G0 [.agg (dyC a),.agg (dyC b),.int .i64 p] (dyV (d0,2)) G0:=by
 have h:=j119 ha hb p true hp;refine fY6 Tryz.func113 rfl ?_;refine gYc h ?_;exact⟨lr rfl,leG⟩
theorem j30(r:Rt)(p:Int):Fn 66 G0 [.agg [.int .i64 r.n,.int .i64 r.d],.int .i64 p] (.agg (ivC (zyf r p))) G0:=by
 by_cases hp:pcB p=true
 .unfold zyf;rw[Z6 hp];exact i50 r p hp
 .have h15:=f54 r.n r.d;have hr:rOk ⟨r.n,r.d⟩=rOk r:=rfl;rw[hr]at h15;unfold zyf;rw[Z7 hp];by_cases h:rOk r=true
  .rw[h]at h15;have hb:=zrq h;unfold rIn at hb;have n1:=v77 r.n O;have n2:=v77 r.d O;have vn:=wl r.n O;have vd:=wl r.d O;have n3:=j73 vn vd p hp;have n4:=j75 vn vd p hp;generalize wo r.n=N at*;generalize wo r.d=D at*;refine fY6 Tryz.func66 rfl ?_;refine gYn h15 ?_;refine gYc n1 ?_;refine gYc n2 ?_;refine gYc n3 ?_;refine gYd ?_;refine gYc n1 ?_;refine gYc n2 ?_;refine gYc n4 ?_;refine gYd ?_;exact⟨leW,leG⟩
  .rw[show rOk r=false by simpa using h]at h15;refine fY6 Tryz.func66 rfl ?_;refine gYn h15 ?_;exact⟨leW,leG⟩
theorem qb0(r:Rt)(p:Int):CI (zyf r p):=by
 unfold zyf;split
 .rename_i h;exact qf8 r h
 .exact zg7
abbrev wNl:List AV:= [.bool false,.nilsl,.int .i64 0,.bool false,.nilsl,.int .i64 0,.bool true]
theorem R_wNl{ρ:Env}{v:Value}(h:R ρ (.agg wNl) v):R ρ (.agg (ivC wI0)) v:=by
 obtain⟨cs,rfl,h⟩:=h;refine⟨cs,rfl,?_⟩
 match cs.toList,h with
 | [_,_,_,_,_,_,_],⟨a,b,c,d,e,f,g,_⟩=>exact⟨a,qfy b,c,d,qfy e,f,g,trivial⟩
theorem nilw{f:Nat}{H H':Hp}{a b c e r:AV}(h:Fn f H [a,b,c,.agg (ivC wI0),e] r H'):Fn f H [a,b,c,.agg wNl,e] r H':=
 h.arg fun _ vs hv=>match vs,hv with
  | [_,_,_,_,_],⟨h1,h2,h3,h4,h5,h6⟩=>⟨h1,h2,h3,R_wNl h4,h5,h6⟩
theorem uo{vs:List Iv}{k:Int}(h0:0<=k)(h:k<vs.length):vs[k.toNat]? =some (gI vs k):=by
 unfold gI;rw[List.getElem?_eq_getElem O];rfl
theorem zn4{k:Int}(h:zj2 k=1\/zj2 k=2):Kt k:=by
 unfold zj2 at h;unfold Kt;split at h
 .omega
 split at h
 .omega
 split at h<;>omega
theorem zgc:∀ {l:List TOp}{n:Int}(i:Nat),zb0 l n=true->zb0 (l.take i) n=true
 | [],_,i,_=>by simp[zb0]
 |o::l,n,0,_=>rfl
 |o::l,n,i+1,h=>by
  simp only[List.take_succ_cons,zb0,Bool.and_eq_true]at h⊢;exact⟨h.1,zgc i h.2⟩
theorem RI_st{p:Int}{o:TOp}{n:Int}{vs:List Iv}(ho:tB o n=true)(hv:∀y∈vs,RI y)(hn:n=vs.length):RI (stO p o vs):=by
 have hg:∀k,0<=k->k<n->RI (gI vs k):=fun k h0 h=>hv _ (q0 (uo h0 O))
 unfold stO;rcases zqz ho with h1|⟨h1,h2,h3⟩|⟨h1,⟨h2,h3⟩,h4,h5⟩
 .rw[Z6 h1];exact(qb0 o.c p).ri
 .rw[Z7 (by rw[h1];decide),Z6 h1];exact(ApKt p o.k o.n (gI vs o.a) wI0 (zn4 (.inl h1)) (hg _ h2 h3) zj4).2.ri
 .rw[Z7 (by rw[h1];decide),Z7 (by rw[h1];decide)];exact(ApKt p o.k o.n (gI vs o.a) (gI vs o.b) (zn4 (.inr h1)) (hg _ h2 h3) (hg _ h4 h5)).2.ri
theorem zim{p:Int}:∀ {l:List TOp}{vs:List Iv},zb0 l vs.length=true->(∀y∈vs,RI y)->∀y∈zdf p l vs,RI y
 | [],_,_,hv=>hv
 |o::l,vs,hb,hv=>by
  have hb':tB o vs.length=true/\zb0 l (vs.length+1)=true:=by simpa[zb0]using hb
  rw[zdf];refine zim (by simpa using hb'.2) fun y hy=>?_
  rcases List.mem_append.1 hy with hy|hy
  .exact hv y hy
  .rw[List.mem_singleton.1 hy];exact RI_st hb'.1 hv rfl
theorem zvn{p:Int}{l:List TOp}{vs:List Iv}{i:Nat}{o:TOp}(h:l[i]? =some o):zdf p (l.take (i+1)) vs=zdf p (l.take i) vs++ [stO p o (zdf p (l.take i) vs)]:=by
 rw[q1,h,Option.toList_some,zns];rfl
noncomputable def body7:Code:=Tryz.f34.body.getD .skip
theorem j7(t:Tp)(x:List Iv)(p:Int)(h1:t.ops.length<9223372036854775808)(h2:t.outs.length<9223372036854775808)(hx:∀y∈x,RI y)(hxl:x.length<9223372036854775808):
 Fn 34 G0 [.agg (tpC t),.sl .iv x,.int .i64 p] (.sl .iv (zo9 t x p)) G0:=by
 have h21:=f41 t h1 h2;by_cases hv:tvB t=true
 rotate_left
 .have hv:tvB t=false:=by simpa using hv
  rw[hv]at h21;have e:zo9 t x p= []:=by unfold zo9;rw[Z7 (by simp[hv])]
  rw[e];refine fnT hTJ hmx Tryz.func34 rfl rfl (ex:= []) ?_;conv=>whnf
  refine gYn h21 ?_;exact⟨li0 rfl,leG⟩
 rw[hv]at h21;by_cases hl:(x.length:Int)=t.ins
 rotate_left
 .have e:zo9 t x p= []:=by unfold zo9;rw[Z7 (by simp[hl])]
  rw[e];refine fnT hTJ hmx Tryz.func34 rfl rfl (ex:= []) ?_;conv=>whnf
  refine gYn h21 ?_;refine brI (fun _=>?_) (fun c=>?_)
  .conv=>whnf
   exact⟨li0 rfl,leG⟩
  .have c:((x.length:Int) != t.ins)=false:=c;exact absurd (by simpa using c) hl
 have e:zo9 t x p=zdf p t.ops x:=by unfold zo9;rw[Z6 ⟨hv,hl⟩]
 obtain⟨⟨a1,a2,a3,a4⟩,hob,_⟩:=wu hv;rw[<-hl]at hob;have h28:=j28 x O;obtain⟨L,hL⟩:∃L:Nat->List Iv,L=fun i=>zdf p (t.ops.take i) x:=⟨_,rfl⟩
 have L0:x=L 0:=by rw[hL];rfl
 have Ln:L t.ops.length=zo9 t x p:=by rw[hL,e];simp
 have Ls:∀i o,t.ops[i]? =some o->L (i+1)=L i++ [stO p o (L i)]:=fun i o h=>by rw[hL];exact zvn h
 have Ll:∀i,i<=t.ops.length->(L i).length =x.length+i:=fun i h=>by rw[hL];simp only;rw[zav,List.length_take];omega
 have Lb:∀i o,t.ops[i]? =some o->tB o (L i).length =true:=fun i o h=>by
  rw[Ll i (by have:=(List.getElem?_eq_some_iff.1 h).1;omega)];have:=zfh hob h;simpa using this
 have Lr:∀i,i<=t.ops.length->∀y∈L i,RI y:=fun i _=>by
  rw[hL];exact zim (zgc _ hob) hx
 rw[<-Ln];clear hL e Ln;refine qv (code:=body7) hTJ hmx Tryz.func34 rfl rfl (ex:= []) ?_;conv=>whnf
 refine wm hTJ hmx 3 (fun _:Unit=>⟨[.any,.any,.int .i64 p,.ptr 3 0,.any,.any,.any,.own 22]++yo 67,[(3,.cells (tpC t)),(22,.buf 48 .iv (L 0)),(9,.free),(10,.free),(72,.dead),(100072,.free),(1500072,.free),(qo,.gst JT)]⟩) (fun _=>Z) ?_ (fun _=>?_)
 .conv=>whnf
  refine gYn h21 ?_;refine brI (fun c=>?_) (fun _=>?_)
  .have c:((x.length:Int) != t.ins)=true:=c;rw[hl]at c;simp at c
  conv=>whnf
  refine⟨[],[.buf 48 .iv x],.own 2000000,h28,?_⟩;conv=>whnf
  refine⟨(),?_⟩;exact KZ0
 .refine zbx 72 22 Z ?_;conv=>whnf
  refine vr hTJ hmx ?_;conv=>whnf
  refine⟨Nat,fun i=>i<=t.ops.length,fun i=> [(26,.int .i64 i),(7,.own 72)],fun i=> [(9,.free),(10,.free),(72,.buf 48 .iv (L i))],fun i=>t.ops.length-i,0,Nat.zero_le _,?_,fun i hi=>?_⟩
  .exact KZ0
  refine gYe ?_;refine brI (fun c=>?_) (fun c=>?_)
  .have c:=Z0 c;have hi:i<t.ops.length:=O;conv=>whnf
   refine⟨⟨O,O⟩,fun(o:TOp)ho=>?_⟩;have ho:t.ops[i]? =some o:=by simpa using ho
   have hb:=Lb i o ho;have hs:=Ls i o ho;have hr:=Lr i O;have hn:=Ll i O;have h29:=f129 o.k;generalize L i=V at*;obtain⟨V',hV'⟩:∃V',L (i+1)=V':=⟨_,rfl⟩;unfold stO at hs;rcases zqz hb with k1|⟨k1,k2,k3⟩|⟨k1,⟨k2,k3⟩,k4,k5⟩
   .rw[Z6 k1]at hs;rw[k1]at h29;have h30:=j30 o.c p;conv=>whnf
    refine gYn h29 ?_;refine gYc h30 ?_;refine⟨OE,?_⟩;conv=>whnf
    refine⟨i+1,O,by show t.ops.length-(i+1)<t.ops.length-i;omega,?_⟩;exact KZ0
   .rw[Z7 (by rw[k1];decide),Z6 k1]at hs;rw[k1]at h29;have ga:=uo k2 k3;have h13:=nilw (ApKt p o.k o.n (gI V o.a) wI0 (zn4 (.inl k1)) (hr _ (q0 ga)) zj4).1;generalize gI V o.a=A at*;conv=>whnf
    refine gYn h29 ?_;refine⟨⟨O,O⟩,?_⟩;conv=>whnf
    refine⟨O,fun(A':Iv)hA'=>?_⟩;obtain rfl:A=A':=by
     have hA':V[o.a.toNat]? =some A':=hA';rw[ga]at hA';exact Option.some.inj hA'
    conv=>whnf
    refine gYc h13 ?_;refine gYd ?_;refine⟨OE,?_⟩;conv=>whnf
    refine⟨i+1,O,by show t.ops.length-(i+1)<t.ops.length-i;omega,?_⟩;exact KZ0
   .rw[Z7 (by rw[k1];decide),Z7 (by rw[k1];decide)]at hs;rw[k1]at h29;have ga:=uo k2 k3;have gb:=uo k4 k5;have h13:=(ApKt p o.k o.n (gI V o.a) (gI V o.b) (zn4 (.inr k1)) (hr _ (q0 ga)) (hr _ (q0 gb))).1;generalize gI V o.a=A at*;generalize gI V o.b=B at*;conv=>whnf
    refine gYn h29 ?_;refine⟨⟨O,O⟩,?_⟩;conv=>whnf
    refine⟨O,fun(A':Iv)hA'=>?_⟩;obtain rfl:A=A':=by
     have hA':V[o.a.toNat]? =some A':=hA';rw[ga]at hA';exact Option.some.inj hA'
    conv=>whnf
    refine⟨⟨O,O⟩,?_⟩;conv=>whnf
    refine⟨O,fun(B':Iv)hB'=>?_⟩;obtain rfl:B=B':=by
     have hB':V[o.b.toNat]? =some B':=hB';rw[gb]at hB';exact Option.some.inj hB'
    conv=>whnf
    refine gYc h13 ?_;refine gYd ?_;refine⟨OE,?_⟩;conv=>whnf
    refine⟨i+1,O,by show t.ops.length-(i+1)<t.ops.length-i;omega,?_⟩;exact KZ0
  .have c:=Z3 c;obtain rfl:i=t.ops.length:=O;conv=>whnf
   exact⟨lr rfl,leG⟩
theorem j8(t:Tp)(x:List Iv)(p:Int)(h1:t.ops.length<9223372036854775808)(h2:t.outs.length<9223372036854775808)(hx:∀y∈x,RI y)(hxl:x.length<9223372036854775808):
 Fn 56 G0 [.agg (tpC t),.sl .iv x,.int .i64 p] (.sl .iv (zqd t x p)) G0:=by
 have h7:=j7 t x p h1 h2 hx hxl;have h21:=f41 t h1 h2;by_cases hv:tvB t=true/\(x.length:Int)=t.ins
 rotate_left
 .have e:zqd t x p= []:=by unfold zqd;rw[Z7 hv]
  have e2:zo9 t x p= []:=by unfold zo9;rw[Z7 hv]
  rw[e];rw[e2]at h7;obtain⟨b,hb⟩:∃b,tvB t=b:=⟨_,rfl⟩;rw[hb]at hv h21;refine fnT hTJ hmx Tryz.func56 rfl rfl (ex:= []) ?_;conv=>whnf
  refine gYc h7 ?_;refine brI (fun _=>?_) (fun _=>?_)
  .conv=>whnf
   exact⟨li0 rfl,leG⟩
  conv=>whnf
  refine brI (fun _=>?_) (fun c=>?_)
  .conv=>whnf
   exact⟨li0 rfl,leG⟩
  have c:((x.length:Int) != t.ins)=false:=c;have c:(x.length:Int)=t.ins:=by simpa using c
  cases b with
  |true=>exact absurd ⟨rfl,c⟩ hv
  |false=>
   conv=>whnf
   refine gYn h21 ?_;exact⟨li0 rfl,leG⟩
 rw[hv.1]at h21;have e:zqd t x p=t.outs.map (gI (zdf p t.ops x)):=by unfold zqd;rw[Z6 hv]
 have e2:zo9 t x p=zdf p t.ops x:=by unfold zo9;rw[Z6 hv]
 obtain⟨⟨a1,a2,a3,a4⟩,hob,hout⟩:=wu hv.1;have hLl:(zdf p t.ops x).length =x.length+t.ops.length:=zav _ _ _;rw[e2]at h7;rw[e];have hl:=hv.2;generalize zdf p t.ops x=L at*;obtain⟨M,hM⟩:∃M,t.outs.map (gI L)=M:=⟨_,rfl⟩;have hMl:M.length=t.outs.length:=by rw[<-hM];simp
 have hMs:∀i k,t.outs[i]? =some k->M.take (i+1)=M.take i++ [gI L k]:=fun i k h=>by
  rw[q1,<-hM,List.getElem?_map,h];rfl
 rw[hM];clear hM e e2 hob;refine fnT hTJ hmx Tryz.func56 rfl rfl (ex:= []) ?_;conv=>whnf
 refine gYc h7 ?_;refine brI (fun c=>?_) (fun _=>?_)
 .have c:=Z0 c;rw[wI O]at c;omega
 conv=>whnf
 refine brI (fun c=>?_) (fun _=>?_)
 .have c:((x.length:Int) != t.ins)=true:=c;rw[hl]at c;simp at c
 conv=>whnf
 refine gYn h21 ?_;refine⟨Nat,fun i=>i<=t.outs.length,fun i=> [(39,.int .i64 i),(8,.own 49)],fun i=> [(49,.buf 48 .iv (M.take i))],fun i=>t.outs.length-i,0,Nat.zero_le _,?_,fun i hi=>?_⟩
 .exact KZ0
 refine gYe ?_;refine brI (fun c=>?_) (fun c=>?_)
 .have c:=Z0 c;have hi:i<t.outs.length:=O;conv=>whnf
  refine⟨⟨O,O⟩,fun(k:Int)hk=>?_⟩;have hk:t.outs[i]? =some k:=by simpa using hk
  have hs:=hMs i k hk;obtain⟨k1,k2⟩:=hout k (q0 hk);have gk:=uo (vs:=L) k1 O;generalize gI L k=A at*;conv=>whnf
  refine⟨⟨O,O⟩,fun(A':Iv)hA'=>?_⟩;obtain rfl:A=A':=by
   have hA':L[k.toNat]? =some A':=hA';rw[gk]at hA';exact Option.some.inj hA'
  conv=>whnf
  refine⟨OE,?_⟩;conv=>whnf
  refine⟨i+1,O,by show t.outs.length-(i+1)<t.outs.length-i;omega,?_⟩;exact KZ0
 .have c:=Z3 c;conv=>whnf
  exact⟨ju (by rw[List.take_of_length_le O]),leG⟩
