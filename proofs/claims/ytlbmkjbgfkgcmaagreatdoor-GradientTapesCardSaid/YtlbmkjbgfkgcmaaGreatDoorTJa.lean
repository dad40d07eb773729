/- Running a tape: plain laws. -/
import Derived.Test.YtlbmkjbgfkgcmaaGreatDoorTTc
import Derived.Test.YtlbmkjbgfkgcmaaGreatDoorTXi
set_option linter.all false
open List renaming mem_of_getElem?->q0,take_add_one->q1
namespace Go.Proofs.YtlbmkjbgfkgcmaaGreatDoor
open Go Go.Sx
set_option maxHeartbeats 2000000
def zy1(r:Rt)(p:Int):Iv:=if pcB p=true then zmm r p else wI0
def gI(vs:List Iv)(k:Int):Iv:=(vs[k.toNat]?).getD zI
def stO(p:Int)(o:TOp)(vs:List Iv):Iv:=
 if zjy o.k=0 then zy1 o.c p else if zjy o.k=1 then apI fxA o.k o.n (gI vs o.a) wI0 p else apI fxA o.k o.n (gI vs o.a) (gI vs o.b) p
def yw(p:Int):List TOp->List Iv->List Iv
 | [],vs=>vs
 |o::l,vs=>yw p l (vs++ [stO p o vs])
def zpz(t:Tp)(x:List Iv)(p:Int):List Iv:=if tvB t=true/\(x.length:Int)=t.ins then yw p t.ops x else []
def zq3(t:Tp)(x:List Iv)(p:Int):List Iv:=if tvB t=true/\(x.length:Int)=t.ins then t.outs.map (gI (yw p t.ops x))else []
theorem jx(p:Int):∀(l:List TOp)(vs:List Iv),(yw p l vs).length =vs.length+l.length
 | [],vs=>by simp[yw]
 |o::l,vs=>by rw[yw,jx p l];simp;omega
theorem zjq(p:Int):∀(l l':List TOp)(vs:List Iv),yw p (l++l') vs=yw p l' (yw p l vs)
 | [],_,_=>rfl
 |o::l,l',vs=>by rw[List.cons_append,yw,yw,zjq p l l']
theorem zoi(p:Int):∀(l:List TOp)(vs:List Iv)(i:Nat),i<vs.length->(yw p l vs)[i]? =vs[i]?
 | [],_,_,_=>rfl
 |o::l,vs,i,h=>by rw[yw,zoi p l _ i OE,List.getElem?_append_left h]
theorem wo{t:Tp}(h:tvB t=true):(0<=t.ins/\t.ins<=8/\t.ops.length<=200/\t.outs.length<=200)/\zfm t.ops t.ins=true/\∀k∈t.outs,0<=k/\k<t.ins+t.ops.length:=by
 unfold tvB at h;simp only[Bool.and_eq_true,Z4,Bool.not_eq_true',List.any_eq_false]at h;refine⟨h.1,h.2.1,fun k hk=>?_⟩;have:=h.2.2 k hk;simp only[zh6,Bool.or_eq_true,Z4,not_or]at this;omega
set_option maxRecDepth 100000
set_option maxHeartbeats 8000000
def TJ:Tab:= {T8 with gl:=34::56::T8.gl}
theorem hTJ:TabOK Tryz.prog TJ:=zfd Z Z
theorem j28(l:List Iv)(hl:l.length<=1000000):Fn 18 [] [.sl .iv l] (.own 2000000) [(2000000,.buf 48 .iv l)]:=by
 by_cases h0:l= []
 .subst h0;refine fnT hTJ hmx Tryz.func18 rfl rfl (ex:= [7]) ?_;conv=>whnf
  refine⟨fun h=>?_,fun _=>?_⟩
  .conv=>whnf
   exact⟨trivial,lh1 ⟨rfl,rfl⟩ lh0⟩
  .conv=>whnf
   refine⟨OC,?_⟩;conv=>whnf
   exact⟨lr rfl,lh1 (bb0 OC) lh0⟩
 .exact x13 l hl h0
theorem j119{a b:Dy}(ha:VD a)(hb:VD b)(p:Int)(up:Bool)(hp:¬pcB p=true):Fn 179 G0 [.agg (dyC a),.agg (dyC b),.int .i64 p,.bool up] (dyV (d0,2)) G0:=by
 have h:=y164 p [a,b] (by
  have:=ha.len;have:=hb.len;intro d hd;have hd:d=a\/d=b:=by simpa using hd
  rcases hd with rfl|rfl
  .exact⟨ha.lb,O⟩
  .exact⟨hb.lb,O⟩) OC
 have e:ftD p [a,b]=2:=by
  unfold ftD;rw[Z7 (by simp[(jc ha.lb).2 ha,(jc hb.lb).2 hb]),Z6 (by simpa using hp)]
 rw[e]at h;refine fY6 Tryz.func179 rfl ?_;refine gYn h ?_;exact⟨zq5,leG⟩
theorem j73{a b:Dy}(ha:VD a)(hb:VD b)(p:Int)(hp:¬pcB p=true):Fn 111 G0 [.agg (dyC a),.agg (dyC b),.int .i64 p] (dyV (d0,2)) G0:=by
 have h:=j119 ha hb p false hp;refine fY6 Tryz.func111 rfl ?_;refine gYc h ?_;exact⟨lr rfl,leG⟩
theorem j75{a b:Dy}(ha:VD a)(hb:VD b)(p:Int)(hp:¬pcB p=true):Fn 113 G0 [.agg (dyC a),.agg (dyC b),.int .i64 p] (dyV (d0,2)) G0:=by
 have h:=j119 ha hb p true hp;refine fY6 Tryz.func113 rfl ?_;refine gYc h ?_;exact⟨lr rfl,leG⟩
theorem j30(r:Rt)(p:Int):Fn 66 G0 [.agg [.int .i64 r.n,.int .i64 r.d],.int .i64 p] (.agg (ivC (zy1 r p))) G0:=by
 by_cases hp:pcB p=true
 .unfold zy1;rw[Z6 hp];exact i50 r p hp
 .have h15:=f54 r.n r.d;have hr:rOk ⟨r.n,r.d⟩=rOk r:=rfl;rw[hr]at h15;unfold zy1;rw[Z7 hp];by_cases h:rOk r=true
  .rw[h]at h15;have hb:=zok h;unfold rIn at hb;have n1:=v77 r.n O;have n2:=v77 r.d O;have vn:=wu r.n O;have vd:=wu r.d O;have n3:=j73 vn vd p hp;have n4:=j75 vn vd p hp;generalize wg r.n=N at*;generalize wg r.d=D at*;refine fY6 Tryz.func66 rfl ?_;refine gYn h15 ?_;refine gYc n1 ?_;refine gYc n2 ?_;refine gYc n3 ?_;refine gYd ?_;refine gYc n1 ?_;refine gYc n2 ?_;refine gYc n4 ?_;refine gYd ?_;exact⟨leW,leG⟩
  .rw[show rOk r=false by simpa using h]at h15;refine fY6 Tryz.func66 rfl ?_;refine gYn h15 ?_;exact⟨leW,leG⟩
theorem qcj(r:Rt)(p:Int):CI (zy1 r p):=by
 unfold zy1;split
 .rename_i h;exact qgp r h
 .exact zhu
abbrev wNl:List AV:= [.bool false,.nilsl,.int .i64 0,.bool false,.nilsl,.int .i64 0,.bool true]
theorem R_wNl{ρ:Env}{v:Value}(h:R ρ (.agg wNl) v):R ρ (.agg (ivC wI0)) v:=by
 obtain⟨cs,rfl,h⟩:=h;refine⟨cs,rfl,?_⟩
 match cs.toList,h with
 | [_,_,_,_,_,_,_],⟨a,b,c,d,e,f,g,_⟩=>exact⟨a,qge b,c,d,qge e,f,g,trivial⟩
theorem nilw{f:Nat}{H H':Hp}{a b c e r:AV}(h:Fn f H [a,b,c,.agg (ivC wI0),e] r H'):Fn f H [a,b,c,.agg wNl,e] r H':=
 h.arg fun _ vs hv=>match vs,hv with
  | [_,_,_,_,_],⟨h1,h2,h3,h4,h5,h6⟩=>⟨h1,h2,h3,R_wNl h4,h5,h6⟩
theorem wx{vs:List Iv}{k:Int}(h0:0<=k)(h:k<vs.length):vs[k.toNat]? =some (gI vs k):=by
 unfold gI;rw[List.getElem?_eq_getElem O];rfl
theorem zoq{k:Int}(h:zjy k=1\/zjy k=2):Kt k:=by
 unfold zjy at h;unfold Kt;split at h
 .omega
 split at h
 .omega
 split at h<;>omega
theorem zal:∀ {l:List TOp}{n:Int}(i:Nat),zfm l n=true->zfm (l.take i) n=true
 | [],_,i,_=>by simp[zfm]
 |o::l,n,0,_=>rfl
 |o::l,n,i+1,h=>by
  simp only[List.take_succ_cons,zfm,Bool.and_eq_true]at h⊢;exact⟨h.1,zal i h.2⟩
theorem RI_st{p:Int}{o:TOp}{n:Int}{vs:List Iv}(ho:tB o n=true)(hv:∀y∈vs,RI y)(hn:n=vs.length):RI (stO p o vs):=by
 have hg:∀k,0<=k->k<n->RI (gI vs k):=fun k h0 h=>hv _ (q0 (wx h0 O))
 unfold stO;rcases zrk ho with h1|⟨h1,h2,h3⟩|⟨h1,⟨h2,h3⟩,h4,h5⟩
 .rw[Z6 h1];exact(qcj o.c p).ri
 .rw[Z7 (by rw[h1];decide),Z6 h1];exact(ApKt p o.k o.n (gI vs o.a) wI0 (zoq (.inl h1)) (hg _ h2 h3) zkt).2.ri
 .rw[Z7 (by rw[h1];decide),Z7 (by rw[h1];decide)];exact(ApKt p o.k o.n (gI vs o.a) (gI vs o.b) (zoq (.inr h1)) (hg _ h2 h3) (hg _ h4 h5)).2.ri
theorem zeo{p:Int}:∀ {l:List TOp}{vs:List Iv},zfm l vs.length=true->(∀y∈vs,RI y)->∀y∈yw p l vs,RI y
 | [],_,_,hv=>hv
 |o::l,vs,hb,hv=>by
  have hb':tB o vs.length=true/\zfm l (vs.length+1)=true:=by simpa[zfm]using hb
  rw[yw];refine zeo (by simpa using hb'.2) fun y hy=>?_
  rcases List.mem_append.1 hy with hy|hy
  .exact hv y hy
  .rw[List.mem_singleton.1 hy];exact RI_st hb'.1 hv rfl
theorem zjp{p:Int}{l:List TOp}{vs:List Iv}{i:Nat}{o:TOp}(h:l[i]? =some o):yw p (l.take (i+1)) vs=yw p (l.take i) vs++ [stO p o (yw p (l.take i) vs)]:=by
 rw[q1,h,Option.toList_some,zjq];rfl
noncomputable def body7:Code:=Tryz.f34.body.getD .skip
theorem j7(t:Tp)(x:List Iv)(p:Int)(h1:t.ops.length<9223372036854775808)(h2:t.outs.length<9223372036854775808)(hx:∀y∈x,RI y)(hxl:x.length<9223372036854775808):
 Fn 34 G0 [.agg (tpC t),.sl .iv x,.int .i64 p] (.sl .iv (zpz t x p)) G0:=by
 have h21:=f41 t h1 h2;by_cases hv:tvB t=true
 rotate_left
 .have hv:tvB t=false:=by simpa using hv
  rw[hv]at h21;have e:zpz t x p= []:=by unfold zpz;rw[Z7 (by simp[hv])]
  rw[e];refine fnT hTJ hmx Tryz.func34 rfl rfl (ex:= []) ?_;conv=>whnf
  refine gYn h21 ?_;exact⟨li0 rfl,leG⟩
 rw[hv]at h21;by_cases hl:(x.length:Int)=t.ins
 rotate_left
 .have e:zpz t x p= []:=by unfold zpz;rw[Z7 (by simp[hl])]
  rw[e];refine fnT hTJ hmx Tryz.func34 rfl rfl (ex:= []) ?_;conv=>whnf
  refine gYn h21 ?_;refine brI (fun _=>?_) (fun c=>?_)
  .conv=>whnf
   exact⟨li0 rfl,leG⟩
  .have c:((x.length:Int) != t.ins)=false:=c;exact absurd (by simpa using c) hl
 have e:zpz t x p=yw p t.ops x:=by unfold zpz;rw[Z6 ⟨hv,hl⟩]
 obtain⟨⟨a1,a2,a3,a4⟩,hob,_⟩:=wo hv;rw[<-hl]at hob;have h28:=j28 x O;obtain⟨L,hL⟩:∃L:Nat->List Iv,L=fun i=>yw p (t.ops.take i) x:=⟨_,rfl⟩
 have L0:x=L 0:=by rw[hL];rfl
 have Ln:L t.ops.length=zpz t x p:=by rw[hL,e];simp
 have Ls:∀i o,t.ops[i]? =some o->L (i+1)=L i++ [stO p o (L i)]:=fun i o h=>by rw[hL];exact zjp h
 have Ll:∀i,i<=t.ops.length->(L i).length =x.length+i:=fun i h=>by rw[hL];simp only;rw[jx,List.length_take];omega
 have Lb:∀i o,t.ops[i]? =some o->tB o (L i).length =true:=fun i o h=>by
  rw[Ll i (by have:=(List.getElem?_eq_some_iff.1 h).1;omega)];have:=zcd hob h;simpa using this
 have Lr:∀i,i<=t.ops.length->∀y∈L i,RI y:=fun i _=>by
  rw[hL];exact zeo (zal _ hob) hx
 rw[<-Ln];clear hL e Ln;refine qr (code:=body7) hTJ hmx Tryz.func34 rfl rfl (ex:= []) ?_;conv=>whnf
 refine jm hTJ hmx 3 (fun _:Unit=>⟨[.any,.any,.int .i64 p,.ptr 3 0,.any,.any,.any,.own 22]++uo 67,[(3,.cells (tpC t)),(22,.buf 48 .iv (L 0)),(9,.free),(10,.free),(72,.dead),(100072,.free),(1500072,.free),(qi,.gst JT)]⟩) (fun _=>Z) ?_ (fun _=>?_)
 .conv=>whnf
  refine gYn h21 ?_;refine brI (fun c=>?_) (fun _=>?_)
  .have c:((x.length:Int) != t.ins)=true:=c;rw[hl]at c;simp at c
  conv=>whnf
  refine⟨[],[.buf 48 .iv x],.own 2000000,h28,?_⟩;conv=>whnf
  refine⟨(),?_⟩;exact KZ0
 .refine zdt 72 22 Z ?_;conv=>whnf
  refine ww hTJ hmx ?_;conv=>whnf
  refine⟨Nat,fun i=>i<=t.ops.length,fun i=> [(26,.int .i64 i),(7,.own 72)],fun i=> [(9,.free),(10,.free),(72,.buf 48 .iv (L i))],fun i=>t.ops.length-i,0,Nat.zero_le _,?_,fun i hi=>?_⟩
  .exact KZ0
  refine gYe ?_;refine brI (fun c=>?_) (fun c=>?_)
  .have c:=Z0 c;have hi:i<t.ops.length:=O;conv=>whnf
   refine⟨⟨O,O⟩,fun(o:TOp)ho=>?_⟩;have ho:t.ops[i]? =some o:=by simpa using ho
   have hb:=Lb i o ho;have hs:=Ls i o ho;have hr:=Lr i O;have hn:=Ll i O;have h29:=f129 o.k;generalize L i=V at*;obtain⟨V',hV'⟩:∃V',L (i+1)=V':=⟨_,rfl⟩;unfold stO at hs;rcases zrk hb with k1|⟨k1,k2,k3⟩|⟨k1,⟨k2,k3⟩,k4,k5⟩
   .rw[Z6 k1]at hs;rw[k1]at h29;have h30:=j30 o.c p;conv=>whnf
    refine gYn h29 ?_;refine gYc h30 ?_;refine⟨OE,?_⟩;conv=>whnf
    refine⟨i+1,O,by show t.ops.length-(i+1)<t.ops.length-i;omega,?_⟩;exact KZ0
   .rw[Z7 (by rw[k1];decide),Z6 k1]at hs;rw[k1]at h29;have ga:=wx k2 k3;have h13:=nilw (ApKt p o.k o.n (gI V o.a) wI0 (zoq (.inl k1)) (hr _ (q0 ga)) zkt).1;generalize gI V o.a=A at*;conv=>whnf
    refine gYn h29 ?_;refine⟨⟨O,O⟩,?_⟩;conv=>whnf
    refine⟨O,fun(A':Iv)hA'=>?_⟩;obtain rfl:A=A':=by
     have hA':V[o.a.toNat]? =some A':=hA';rw[ga]at hA';exact Option.some.inj hA'
    conv=>whnf
    refine gYc h13 ?_;refine gYd ?_;refine⟨OE,?_⟩;conv=>whnf
    refine⟨i+1,O,by show t.ops.length-(i+1)<t.ops.length-i;omega,?_⟩;exact KZ0
   .rw[Z7 (by rw[k1];decide),Z7 (by rw[k1];decide)]at hs;rw[k1]at h29;have ga:=wx k2 k3;have gb:=wx k4 k5;have h13:=(ApKt p o.k o.n (gI V o.a) (gI V o.b) (zoq (.inr k1)) (hr _ (q0 ga)) (hr _ (q0 gb))).1;generalize gI V o.a=A at*;generalize gI V o.b=B at*;conv=>whnf
    refine gYn h29 ?_;refine⟨⟨O,O⟩,?_⟩;conv=>whnf
    refine⟨O,fun(A':Iv)hA'=>?_⟩;obtain rfl:A=A':=by
     have hA':V[o.a.toNat]? =some A':=hA';rw[ga]at hA';exact Option.some.inj hA'
    conv=>whnf
    refine⟨⟨O,O⟩,?_⟩;conv=>whnf
    refine⟨O,fun(B':Iv)hB'=>?_⟩;obtain rfl:B=B':=by
     have hB':V[o.b.toNat]? =some B':=hB';rw[gb]at hB';exact Option.some.inj hB'
    conv=>whnf
    refine gYc h13 ?_;refine gYd ?_;refine⟨OE,?_⟩;conv=>whnf
    refine⟨i+1,O,by show t.ops.length-(i+1)<t.ops.length-i;omega,?_⟩;exact KZ0
  .have c:=Z3 c;obtain rfl:i=t.ops.length:=O;conv=>whnf
   exact⟨lr rfl,leG⟩
theorem j8(t:Tp)(x:List Iv)(p:Int)(h1:t.ops.length<9223372036854775808)(h2:t.outs.length<9223372036854775808)(hx:∀y∈x,RI y)(hxl:x.length<9223372036854775808):
 Fn 56 G0 [.agg (tpC t),.sl .iv x,.int .i64 p] (.sl .iv (zq3 t x p)) G0:=by
 have h7:=j7 t x p h1 h2 hx hxl;have h21:=f41 t h1 h2;by_cases hv:tvB t=true/\(x.length:Int)=t.ins
 rotate_left
 .have e:zq3 t x p= []:=by unfold zq3;rw[Z7 hv]
  have e2:zpz t x p= []:=by unfold zpz;rw[Z7 hv]
  rw[e];rw[e2]at h7;obtain⟨b,hb⟩:∃b,tvB t=b:=⟨_,rfl⟩;rw[hb]at hv h21;refine fnT hTJ hmx Tryz.func56 rfl rfl (ex:= []) ?_;conv=>whnf
  refine gYc h7 ?_;refine brI (fun _=>?_) (fun _=>?_)
  .conv=>whnf
   exact⟨li0 rfl,leG⟩
  conv=>whnf
  refine brI (fun _=>?_) (fun c=>?_)
  .conv=>whnf
   exact⟨li0 rfl,leG⟩
  have c:((x.length:Int) != t.ins)=false:=c;have c:(x.length:Int)=t.ins:=by simpa using c
  cases b with
  |true=>exact absurd ⟨rfl,c⟩ hv
  |false=>
   conv=>whnf
   refine gYn h21 ?_;exact⟨li0 rfl,leG⟩
 rw[hv.1]at h21;have e:zq3 t x p=t.outs.map (gI (yw p t.ops x)):=by unfold zq3;rw[Z6 hv]
 have e2:zpz t x p=yw p t.ops x:=by unfold zpz;rw[Z6 hv]
 obtain⟨⟨a1,a2,a3,a4⟩,hob,hout⟩:=wo hv.1;have hLl:(yw p t.ops x).length =x.length+t.ops.length:=jx _ _ _;rw[e2]at h7;rw[e];have hl:=hv.2;generalize yw p t.ops x=L at*;obtain⟨M,hM⟩:∃M,t.outs.map (gI L)=M:=⟨_,rfl⟩;have hMl:M.length=t.outs.length:=by rw[<-hM];simp
 have hMs:∀i k,t.outs[i]? =some k->M.take (i+1)=M.take i++ [gI L k]:=fun i k h=>by
  rw[q1,<-hM,List.getElem?_map,h];rfl
 rw[hM];clear hM e e2 hob;refine fnT hTJ hmx Tryz.func56 rfl rfl (ex:= []) ?_;conv=>whnf
 refine gYc h7 ?_;refine brI (fun c=>?_) (fun _=>?_)
 .have c:=Z0 c;rw[wI O]at c;omega
 conv=>whnf
 refine brI (fun c=>?_) (fun _=>?_)
 .have c:((x.length:Int) != t.ins)=true:=c;rw[hl]at c;simp at c
 conv=>whnf
 refine gYn h21 ?_;refine⟨Nat,fun i=>i<=t.outs.length,fun i=> [(39,.int .i64 i),(8,.own 49)],fun i=> [(49,.buf 48 .iv (M.take i))],fun i=>t.outs.length-i,0,Nat.zero_le _,?_,fun i hi=>?_⟩
 .exact KZ0
 refine gYe ?_;refine brI (fun c=>?_) (fun c=>?_)
 .have c:=Z0 c;have hi:i<t.outs.length:=O;conv=>whnf
  refine⟨⟨O,O⟩,fun(k:Int)hk=>?_⟩;have hk:t.outs[i]? =some k:=by simpa using hk
  have hs:=hMs i k hk;obtain⟨k1,k2⟩:=hout k (q0 hk);have gk:=wx (vs:=L) k1 O;generalize gI L k=A at*;conv=>whnf
  refine⟨⟨O,O⟩,fun(A':Iv)hA'=>?_⟩;obtain rfl:A=A':=by
   have hA':L[k.toNat]? =some A':=hA';rw[gk]at hA';exact Option.some.inj hA'
  conv=>whnf
  refine⟨OE,?_⟩;conv=>whnf
  refine⟨i+1,O,by show t.outs.length-(i+1)<t.outs.length-i;omega,?_⟩;exact KZ0
 .have c:=Z3 c;conv=>whnf
  exact⟨vp (by rw[List.take_of_length_le O]),leG⟩
