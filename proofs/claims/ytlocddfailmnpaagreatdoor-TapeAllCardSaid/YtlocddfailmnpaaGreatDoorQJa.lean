/-
  Running a tape: plain laws.
-/
import Derived.Test.YtlocddfailmnpaaGreatDoorQTc
import Derived.Test.YtlocddfailmnpaaGreatDoorQXi
set_option linter.unusedVariables false
set_option linter.unusedSimpArgs false
namespace Go.Proofs.YtlocddfailmnpaaGreatDoor
open Go Go.Sx
set_option maxHeartbeats 2000000
def zs2 (r:Rt) (p:Int):Iv:=if pcB p=true then zvu r p else wI0
def gI (vs:List Iv) (k:Int):Iv:=(vs[k.toNat]?).getD zI
def stO (p:Int) (o:TOp) (vs:List Iv):Iv:=
 if zgd o.k=0 then zs2 o.c p else if zgd o.k=1 then apI fxA o.k o.n (gI vs o.a) wI0 p else apI fxA o.k o.n (gI vs o.a) (gI vs o.b) p
def zac (p:Int):List TOp→List Iv→List Iv
 | [],vs=>vs
 |o::l,vs=>zac p l (vs++ [stO p o vs])
def zi0 (t:Tp) (x:List Iv) (p:Int):List Iv:=if tvB t=true∧(x.length:Int)=t.ins then zac p t.ops x else []
def zra (t:Tp) (x:List Iv) (p:Int):List Iv:=if tvB t=true∧(x.length:Int)=t.ins then t.outs.map (gI (zac p t.ops x))else []
theorem zcg (p:Int): ∀(l:List TOp) (vs:List Iv),(zac p l vs).length =vs.length+l.length
 | [],vs=>by simp[zac]
 |o::l,vs=>by rw[zac,zcg p l];simp;omega
theorem zh3 (p:Int): ∀(l l':List TOp) (vs:List Iv),zac p (l++l') vs=zac p l' (zac p l vs)
 | [],_,_=>rfl
 |o::l,l',vs=>by rw[List.cons_append,zac,zac,zh3 p l l']
theorem zee (p:Int): ∀(l:List TOp) (vs:List Iv) (i:Nat),i<vs.length→(zac p l vs)[i]? =vs[i]?
 | [],_,_,_=>rfl
 |o::l,vs,i,h=>by rw[zac,zee p l _ i (by simp;omega),List.getElem?_append_left h]
theorem zrb (p:Int) (l:List TOp) (vs:List Iv):(zac p l vs).take vs.length=vs:=by
 apply List.ext_getElem?
 intro i
 rw[List.getElem?_take]
 split
 ·rename_i h;exact zee p l vs i h
 ·rename_i h;exact(List.getElem?_eq_none (by omega)).symm
theorem zyk {p:Int} {l:List TOp} {vs:List Iv} {k:Int} (h:k<vs.length) (h0:0≤k):gI (zac p l vs) k=gI vs k:=by
 unfold gI;rw[zee p l vs _ (by omega)]
theorem zx9 {p:Int} {o:TOp} {n:Int} {vs ws:List Iv} (h:tB o n=true) (hv: ∀k,0≤k→k<n→gI vs k=gI ws k):stO p o vs=stO p o ws:=by
 unfold stO
 rcases zk9 h with h1|⟨h1,h2,h3⟩|⟨h1,⟨h2,h3⟩,h4,h5⟩
 ·rw[if_pos h1,if_pos h1]
 ·rw[if_neg (by rw[h1];decide),if_pos h1,if_neg (by rw[h1];decide),if_pos h1,hv _ h2 h3]
 ·rw[if_neg (by rw[h1];decide),if_neg (by rw[h1];decide),if_neg (by rw[h1];decide),if_neg (by rw[h1];decide),hv _ h2 h3,hv _ h4 h5]
theorem zyl {p:Int} {l:List TOp} {vs:List Iv} {j:Nat} {o:TOp} (h:l[j]? =some o) (hb:zgc l vs.length=true):(zac p l vs)[vs.length+j]? =some (stO p o (zac p l vs)):=by
 have hj:=(List.getElem?_eq_some_iff.1 h).1
 have e:l=l.take j++o::l.drop (j+1):=by
  rw[←qn h,List.take_append_drop]
 have ht:=zeg hb h
 have hl:(zac p (l.take j) vs).length =vs.length+j:=by rw[zcg,List.length_take];omega
 rw[e,zh3,zac]
 generalize zac p (l.take j) vs=ws at*
 rw[zee _ _ _ _ (by simp;omega),List.getElem?_append_right (by omega),hl]
 simp only[Nat.sub_self,List.getElem?_cons_zero,Option.some.injEq]
 refine zx9 ht fun k h1 h2=>?_
 rw[zyk (by simp;omega) h1]
 unfold gI
 rw[List.getElem?_append_left (by omega)]
end Go.Proofs.YtlocddfailmnpaaGreatDoor

namespace Go.Proofs.YtlocddfailmnpaaGreatDoor
open Go Go.Sx
set_option maxHeartbeats 2000000
theorem zhu {t:Tp} (h:tvB t=true):(0≤t.ins∧t.ins≤8∧t.ops.length≤200∧t.outs.length≤200)∧zgc t.ops t.ins=true∧ ∀k∈t.outs,0≤k∧k<t.ins+t.ops.length:=by
 unfold tvB at h
 simp only[Bool.and_eq_true,decide_eq_true_eq,Bool.not_eq_true',List.any_eq_false]at h
 refine⟨h.1,h.2.1,fun k hk=>?_⟩
 have:=h.2.2 k hk
 simp only[zgr,Bool.or_eq_true,decide_eq_true_eq,not_or]at this;omega
end Go.Proofs.YtlocddfailmnpaaGreatDoor

namespace Go.Proofs.YtlocddfailmnpaaGreatDoor
open Go Go.Sx
set_option maxRecDepth 100000
set_option maxHeartbeats 8000000
def TJ:Tab:= {T8 with gl:=7::8::19::T8.gl}
theorem hTJ:TabOK Tryz.prog TJ:=zgt (by kernel_rfl) (by kernel_rfl)
theorem j28 (l:List Iv) (hl:l.length≤1000000):Fn 28 [] [.sl .iv l] (.own 2000000) [(2000000,.buf 35 .iv l)]:=by
 by_cases h0:l= []
 ·subst h0
  refine fnT hTJ hmx Tryz.func28 rfl rfl (ex:= [7]) ?_;conv=>whnf
  refine⟨fun h=>?_,fun _=>?_⟩
  ·conv=>whnf
   exact⟨trivial,lh1 ⟨rfl,rfl⟩ lh0⟩
  ·conv=>whnf
   refine⟨by simp,?_⟩;conv=>whnf
   exact⟨lr rfl,lh1 (bb0 (by simp)) lh0⟩
 ·exact x13 l hl h0
theorem j119 {a b:Dy} (ha:VD a) (hb:VD b) (p:Int) (up:Bool) (hp: ¬pcB p=true):Fn 119 G0 [.agg (dyC a),.agg (dyC b),.int .i64 p,.bool up] (dyV (d0,2)) G0:=by
 have h:=y164 p [a,b] (by
  have:=ha.len
  have:=hb.len
  intro d hd
  have hd:d=a∨d=b:=by simpa using hd
  rcases hd with rfl|rfl
  ·exact⟨ha.lb,by omega⟩
  ·exact⟨hb.lb,by omega⟩) (by simp)
 have e:ftD p [a,b]=2:=by
  unfold ftD
  rw[if_neg (by simp[(xw ha.lb).2 ha,(xw hb.lb).2 hb]),if_pos (by simpa using hp)]
 rw[e]at h
 refine fnT hT6 hmx Tryz.func119 rfl rfl (ex:= []) ?_;conv=>whnf
 refine gZn h ?_;conv=>whnf
 exact⟨zp1,leG⟩
theorem j73 {a b:Dy} (ha:VD a) (hb:VD b) (p:Int) (hp: ¬pcB p=true):Fn 73 G0 [.agg (dyC a),.agg (dyC b),.int .i64 p] (dyV (d0,2)) G0:=by
 have h:=j119 ha hb p false hp
 refine fnT hT6 hmx Tryz.func73 rfl rfl (ex:= []) ?_;conv=>whnf
 refine gZc h ?_;conv=>whnf
 exact⟨lr rfl,leG⟩
theorem j75 {a b:Dy} (ha:VD a) (hb:VD b) (p:Int) (hp: ¬pcB p=true):Fn 75 G0 [.agg (dyC a),.agg (dyC b),.int .i64 p] (dyV (d0,2)) G0:=by
 have h:=j119 ha hb p true hp
 refine fnT hT6 hmx Tryz.func75 rfl rfl (ex:= []) ?_;conv=>whnf
 refine gZc h ?_;conv=>whnf
 exact⟨lr rfl,leG⟩
theorem j30 (r:Rt) (p:Int):Fn 30 G0 [.agg [.int .i64 r.n,.int .i64 r.d],.int .i64 p] (.agg (ivC (zs2 r p))) G0:=by
 by_cases hp:pcB p=true
 ·unfold zs2
  rw[if_pos hp]
  exact i50 r p hp
 ·have h15:=f54 r.n r.d
  have hr:rOk ⟨r.n,r.d⟩=rOk r:=rfl
  rw[hr]at h15
  unfold zs2
  rw[if_neg hp]
  by_cases h:rOk r=true
  ·rw[h]at h15
   have hb:=zwu h
   unfold rIn at hb
   have n1:=v77 r.n (by omega)
   have n2:=v77 r.d (by omega)
   have vn:=kb r.n (by omega)
   have vd:=kb r.d (by omega)
   have n3:=j73 vn vd p hp
   have n4:=j75 vn vd p hp
   generalize kc r.n=N at*
   generalize kc r.d=D at*
   refine fnT hT6 hmx Tryz.func30 rfl rfl (ex:= []) ?_;conv=>whnf
   refine gZn h15 ?_;conv=>whnf
   refine gZc n1 ?_;conv=>whnf
   refine gZc n2 ?_;conv=>whnf
   refine gZc n3 ?_;conv=>whnf
   (refine⟨by kernel_rfl,by kernel_rfl,?_⟩;(conv=>whnf))
   refine gZc n1 ?_;conv=>whnf
   refine gZc n2 ?_;conv=>whnf
   refine gZc n4 ?_;conv=>whnf
   (refine⟨by kernel_rfl,by kernel_rfl,?_⟩;(conv=>whnf))
   exact⟨leW,leG⟩
  ·rw[show rOk r=false by simpa using h]at h15
   refine fnT hT6 hmx Tryz.func30 rfl rfl (ex:= []) ?_;conv=>whnf
   refine gZn h15 ?_;conv=>whnf
   exact⟨leW,leG⟩
theorem qas (r:Rt) (p:Int):CI (zs2 r p):=by
 unfold zs2
 split
 ·rename_i h;exact zxr r h
 ·exact zgf
theorem j79 (a:List Int) (ha:a.length<9223372036854775808):Fn 79 [] [.sl .u32 a,.sl .u32 a] (.bool true) []:=by
 refine fnT hTJ hmx Tryz.func79 rfl rfl (ex:= []) ?_;conv=>whnf
 refine brI (fun h1=>?_) (fun _=>?_)
 ·have h1:((a.length:Int) != (a.length:Int))=true:=h1
  simp at h1
 conv=>whnf
 refine⟨Nat,fun i=>i≤a.length,fun i=> [(13,.int .i64 i)],fun _=> [],fun i=>a.length-i,0,Nat.zero_le _,?_,fun i hi=>?_⟩
 ·((conv=>whnf);refine And.intro ?_ ?_;repeat' first|refine lc ?_ ?_|exact la0|exact lr rfl|exact ln0|refine lh1 ?_ ?_|exact lh0|exact bf0|exact bd0|refine bc0 ?_|exact bm0 rfl|exact bb0 rfl|exact bg0 rfl|exact li0 rfl|refine lg0 ?_|refine lt0 ?_|fail)
 (refine⟨by kernel_rfl,?_⟩;(conv=>whnf))
 refine brI (fun h1=>?_) (fun h1=>?_)
 ·have h1:=of_decide_eq_true h1
  have hi:i<a.length:=by omega
  conv=>whnf
  refine⟨⟨by omega,by omega⟩,fun(x:Int) hx=>?_⟩
  have hx:a[i]? =some x:=by simpa using hx
  conv=>whnf
  refine⟨⟨by omega,by omega⟩,fun(y:Int) hy=>?_⟩
  have hy:a[i]? =some y:=by simpa using hy
  obtain rfl:x=y:=by rw[hx]at hy;exact Option.some.inj hy
  conv=>whnf
  (refine⟨by kernel_rfl,by kernel_rfl,?_⟩;(conv=>whnf))
  refine brI (fun h2=>?_) (fun _=>?_)
  ·have h2:(x != x)=true:=h2
   simp at h2
  conv=>whnf
  refine⟨i+1,by omega,by show a.length-(i+1)<a.length-i;omega,?_⟩
  ((conv=>whnf);refine And.intro ?_ ?_;repeat' first|refine lc ?_ ?_|exact la0|exact lr rfl|exact ln0|refine lh1 ?_ ?_|exact lh0|exact bf0|exact bd0|refine bc0 ?_|exact bm0 rfl|exact bb0 rfl|exact bg0 rfl|exact li0 rfl|refine lg0 ?_|refine lt0 ?_|fail)
  exact ai0 (by rw[wI (by omega)];omega)
 ·conv=>whnf
  exact⟨lr rfl,lh0⟩
theorem j37 (d:Dy) (hl:d.m.length<9223372036854775808):Fn 37 [] [.agg (dyC d),.agg (dyC d)] (.bool true) []:=by
 have h:=j79 d.m hl
 obtain⟨s,m,e⟩:=d
 cases s
 all_goals
  refine fnT hTJ hmx Tryz.func37 rfl rfl (ex:= []) ?_;conv=>whnf
  refine brI (fun _=>?_) (fun c=>?_)
  rotate_left
  ·exact absurd (show(e==e)=true by simp) (by rw[show(e==e)=false from c];simp)
  conv=>whnf
  refine gZn h ?_;conv=>whnf
  exact⟨lr rfl,lh0⟩
theorem j12 (x:Iv) (h1:x.lo.m.length<9223372036854775808) (h2:x.hi.m.length<9223372036854775808):Fn 12 [] [.agg (ivC x),.agg (ivC x)] (.bool true) []:=by
 have c1:=j37 x.lo h1
 have c2:=j37 x.hi h2
 obtain⟨a,b,c⟩:=x
 cases c
 all_goals
  refine fnT hTJ hmx Tryz.func12 rfl rfl (ex:= []) ?_;conv=>whnf
  refine gZn c1 ?_;conv=>whnf
  refine gZn c2 ?_;conv=>whnf
  exact⟨lr rfl,lh0⟩
theorem j32 (l:List Iv) (hl: ∀x∈l,RI x) (hlen:l.length<9223372036854775808):Fn 32 [] [.sl .iv l,.sl .iv l,.fn 12 []] (.bool true) []:=by
 refine fnT hTJ hmx Tryz.func32 rfl rfl (ex:= []) ?_;conv=>whnf
 refine brI (fun h1=>?_) (fun _=>?_)
 ·have h1:((l.length:Int) != (l.length:Int))=true:=h1
  simp at h1
 conv=>whnf
 refine⟨Nat,fun i=>i≤l.length,fun i=> [(17,.int .i64 i)],fun _=> [(8,.free),(9,.free)],fun i=>l.length-i,0,Nat.zero_le _,?_,fun i hi=>?_⟩
 ·((conv=>whnf);refine And.intro ?_ ?_;repeat' first|refine lc ?_ ?_|exact la0|exact lr rfl|exact ln0|refine lh1 ?_ ?_|exact lh0|exact bf0|exact bd0|refine bc0 ?_|exact bm0 rfl|exact bb0 rfl|exact bg0 rfl|exact li0 rfl|refine lg0 ?_|refine lt0 ?_|fail)
 (refine⟨by kernel_rfl,?_⟩;(conv=>whnf))
 refine brI (fun h1=>?_) (fun h1=>?_)
 ·have h1:=of_decide_eq_true h1
  have hi:i<l.length:=by omega
  conv=>whnf
  refine⟨⟨by omega,by omega⟩,fun(x:Iv) hx=>?_⟩
  have hx:l[i]? =some x:=by simpa using hx
  have hr:=hl x (List.mem_of_getElem? hx)
  have h20:=j12 x hr.l1 hr.l2
  conv=>whnf
  refine⟨⟨by omega,by omega⟩,fun(y:Iv) hy=>?_⟩
  have hy:l[i]? =some y:=by simpa using hy
  obtain rfl:x=y:=by rw[hx]at hy;exact Option.some.inj hy
  conv=>whnf
  refine gZn h20 ?_;conv=>whnf
  refine⟨i+1,by omega,by show l.length-(i+1)<l.length-i;omega,?_⟩
  ((conv=>whnf);refine And.intro ?_ ?_;repeat' first|refine lc ?_ ?_|exact la0|exact lr rfl|exact ln0|refine lh1 ?_ ?_|exact lh0|exact bf0|exact bd0|refine bc0 ?_|exact bm0 rfl|exact bb0 rfl|exact bg0 rfl|exact li0 rfl|refine lg0 ?_|refine lt0 ?_|fail)
  exact ai0 (by rw[wI (by omega)];omega)
 ·conv=>whnf
  exact⟨lr rfl,lh0⟩
theorem j10 (l:List Iv) (hl: ∀x∈l,RI x) (hlen:l.length<9223372036854775808):Fn 10 [] [.sl .iv l,.sl .iv l] (.bool true) []:=by
 refine fnT hTJ hmx Tryz.func10 rfl rfl (ex:= []) ?_;conv=>whnf
 refine gZn (j32 l hl hlen) ?_;conv=>whnf
 exact⟨lr rfl,lh0⟩
abbrev wNl:List AV:= [.bool false,.nilsl,.int .i64 0,.bool false,.nilsl,.int .i64 0,.bool true]
theorem R_wNl {ρ:Env} {v:Value} (h:R ρ (.agg wNl) v):R ρ (.agg (ivC wI0)) v:=by
 obtain⟨cs,rfl,h⟩:=h
 refine⟨cs,rfl,?_⟩
 match cs.toList,h with
 | [_,_,_,_,_,_,_],⟨a,b,c,d,e,f,g,_⟩=>exact⟨a,zpv b,c,d,zpv e,f,g,trivial⟩
theorem nilw {f:Nat} {H H':Hp} {a b c e r:AV} (h:Fn f H [a,b,c,.agg (ivC wI0),e] r H'):Fn f H [a,b,c,.agg wNl,e] r H':=
 h.arg fun _ vs hv=>match vs,hv with
  | [_,_,_,_,_],⟨h1,h2,h3,h4,h5,h6⟩=>⟨h1,h2,h3,R_wNl h4,h5,h6⟩
theorem j11 (c:Rt) (p:Int) (hc:rOk c=true):Fn 11 G0 [.agg [.int .i64 1,.int .i64 c.n,.int .i64 c.d,.str [],.int .i64 0,.nilsl],.nilsl,.nilsl,.int .i64 p] (.agg (ivC (zs2 c p))) G0:=by
 have hok:okT (zix c)=true:=(zde _).2 ⟨VT_VS (.num c hc),by simp[zix,qdx,qa9],by simp[zix,zdc,zea]⟩
 have e:zua fxA (zix c) [] [] p=zs2 c p:=by
  have hen:enB [] []=true:=rfl
  unfold zs2
  split
  ·rename_i hp
   rw[qbi hen hok hp (by rw[zn3]),zn3]
  ·rename_i hp
   exact qbg hp
 have h:=x16 (zix c) (qal (.num c hc)) [] [] (fun _ h=>by cases h) (by decide) (by decide) p
 rw[e]at h
 refine h.arg fun ρ vs hv=>?_
 match vs,hv with
 | [_,_,_,_],⟨⟨cs,e1,h1⟩,h2,h3,h4,h5⟩=>
   refine⟨⟨cs,e1,?_⟩,zpv h2,zpv h3,h4,h5⟩
   match cs.toList,h1 with
   | [_,_,_,_,_,_],⟨a,b,c,d,e,f,g⟩=>exact⟨a,b,c,d,e,zpv f,g⟩
end Go.Proofs.YtlocddfailmnpaaGreatDoor

namespace Go.Proofs.YtlocddfailmnpaaGreatDoor
open Go Go.Sx
set_option maxRecDepth 100000
set_option maxHeartbeats 8000000
theorem zcy {vs:List Iv} {k:Int} (h0:0≤k) (h:k<vs.length):vs[k.toNat]? =some (gI vs k):=by
 unfold gI
 rw[List.getElem?_eq_getElem (by omega)];rfl
theorem zgz {k:Int} (h:zgd k=1∨zgd k=2):Kt k:=by
 unfold zgd at h
 unfold Kt
 split at h
 ·omega
 split at h
 ·omega
 split at h<;>omega
theorem zjl: ∀ {l:List TOp} {n:Int} (i:Nat),zgc l n=true→zgc (l.take i) n=true
 | [],_,i,_=>by simp[zgc]
 |o::l,n,0,_=>rfl
 |o::l,n,i+1,h=>by
  simp only[List.take_succ_cons,zgc,Bool.and_eq_true]at h⊢
  exact⟨h.1,zjl i h.2⟩
theorem RI_st {p:Int} {o:TOp} {n:Int} {vs:List Iv} (ho:tB o n=true) (hv: ∀y∈vs,RI y) (hn:n=vs.length):RI (stO p o vs):=by
 have hg: ∀k,0≤k→k<n→RI (gI vs k):=fun k h0 h=>hv _ (List.mem_of_getElem? (zcy h0 (by omega)))
 unfold stO
 rcases zk9 ho with h1|⟨h1,h2,h3⟩|⟨h1,⟨h2,h3⟩,h4,h5⟩
 ·rw[if_pos h1];exact(qas o.c p).ri
 ·rw[if_neg (by rw[h1];decide),if_pos h1]
  exact(qat p o.k o.n (gI vs o.a) wI0 (zgz (.inl h1)) (hg _ h2 h3) zgs).2.ri
 ·rw[if_neg (by rw[h1];decide),if_neg (by rw[h1];decide)]
  exact(qat p o.k o.n (gI vs o.a) (gI vs o.b) (zgz (.inr h1)) (hg _ h2 h3) (hg _ h4 h5)).2.ri
theorem ztx {p:Int}: ∀ {l:List TOp} {vs:List Iv},zgc l vs.length=true→(∀y∈vs,RI y)→ ∀y∈zac p l vs,RI y
 | [],_,_,hv=>hv
 |o::l,vs,hb,hv=>by
  have hb':tB o vs.length=true∧zgc l (vs.length+1)=true:=by simpa[zgc]using hb
  rw[zac]
  refine ztx (by simpa using hb'.2) fun y hy=>?_
  rcases List.mem_append.1 hy with hy|hy
  ·exact hv y hy
  ·rw[List.mem_singleton.1 hy]
   exact RI_st hb'.1 hv rfl
theorem zur {p:Int} {l:List TOp} {vs:List Iv} {i:Nat} {o:TOp} (h:l[i]? =some o):zac p (l.take (i+1)) vs=zac p (l.take i) vs++ [stO p o (zac p (l.take i) vs)]:=by
 rw[List.take_add_one,h,Option.toList_some,zh3];rfl
noncomputable def body7:Code:=Tryz.f7.body.getD .skip
theorem j7 (t:Tp) (x:List Iv) (p:Int) (h1:t.ops.length<9223372036854775808) (h2:t.outs.length<9223372036854775808) (hx: ∀y∈x,RI y) (hxl:x.length<9223372036854775808):
 Fn 7 G0 [.agg (tpC t),.sl .iv x,.int .i64 p] (.sl .iv (zi0 t x p)) G0:=by
 have h21:=f41 t h1 h2
 by_cases hv:tvB t=true
 rotate_left
 ·have hv:tvB t=false:=by simpa using hv
  rw[hv]at h21
  have e:zi0 t x p= []:=by unfold zi0;rw[if_neg (by simp[hv])]
  rw[e]
  refine fnT hTJ hmx Tryz.func7 rfl rfl (ex:= []) ?_;conv=>whnf
  refine gZn h21 ?_;conv=>whnf
  exact⟨li0 rfl,leG⟩
 rw[hv]at h21
 by_cases hl:(x.length:Int)=t.ins
 rotate_left
 ·have e:zi0 t x p= []:=by unfold zi0;rw[if_neg (by simp[hl])]
  rw[e]
  refine fnT hTJ hmx Tryz.func7 rfl rfl (ex:= []) ?_;conv=>whnf
  refine gZn h21 ?_;conv=>whnf
  refine brI (fun _=>?_) (fun c=>?_)
  ·conv=>whnf
   exact⟨li0 rfl,leG⟩
  ·have c:((x.length:Int) != t.ins)=false:=c
   exact absurd (by simpa using c) hl
 have e:zi0 t x p=zac p t.ops x:=by unfold zi0;rw[if_pos ⟨hv,hl⟩]
 obtain⟨⟨a1,a2,a3,a4⟩,hob,_⟩:=zhu hv
 rw[←hl]at hob
 have h28:=j28 x (by omega)
 obtain⟨L,hL⟩: ∃L:Nat→List Iv,L=fun i=>zac p (t.ops.take i) x:=⟨_,rfl⟩
 have L0:x=L 0:=by rw[hL];rfl
 have Ln:L t.ops.length=zi0 t x p:=by rw[hL,e];simp
 have Ls: ∀i o,t.ops[i]? =some o→L (i+1)=L i++ [stO p o (L i)]:=fun i o h=>by rw[hL];exact zur h
 have Ll: ∀i,i≤t.ops.length→(L i).length =x.length+i:=fun i h=>by rw[hL];simp only;rw[zcg,List.length_take];omega
 have Lb: ∀i o,t.ops[i]? =some o→tB o (L i).length =true:=fun i o h=>by
  rw[Ll i (by have:=(List.getElem?_eq_some_iff.1 h).1;omega)]
  have:=zeg hob h
  simpa using this
 have Lr: ∀i,i≤t.ops.length→ ∀y∈L i,RI y:=fun i _=>by
  rw[hL]
  exact ztx (zjl _ hob) hx
 rw[←Ln]
 clear hL e Ln
 refine wl (code:=body7) hTJ hmx Tryz.func7 rfl rfl (ex:= []) ?_;conv=>whnf
 refine kf hTJ hmx 3 (fun _:Unit=>⟨[.any,.any,.int .i64 p,.ptr 3 0,.any,.any,.any,.own 22]++zd0 67,[(3,.cells (tpC t)),(22,.buf 35 .iv (L 0)),(9,.free),(10,.free),(72,.dead),(100072,.free),(1500072,.free),(qr,.gst JT)]⟩) (fun _=>by kernel_rfl) ?_ (fun _=>?_)
 ·conv=>whnf
  refine gZn h21 ?_;conv=>whnf
  refine brI (fun c=>?_) (fun _=>?_)
  ·have c:((x.length:Int) != t.ins)=true:=c
   rw[hl]at c;simp at c
  conv=>whnf
  refine⟨[],[.buf 35 .iv x],.own 2000000,h28,?_⟩;conv=>whnf
  refine⟨(),?_⟩
  ((conv=>whnf);refine And.intro ?_ ?_;repeat' first|refine lc ?_ ?_|exact la0|exact lr rfl|exact ln0|refine lh1 ?_ ?_|exact lh0|exact bf0|exact bd0|refine bc0 ?_|exact bm0 rfl|exact bb0 rfl|exact bg0 rfl|exact li0 rfl|refine lg0 ?_|refine lt0 ?_|fail)
  exact bb0 L0
 ·refine zec 72 22 (by kernel_rfl) ?_;conv=>whnf
  refine wj hTJ hmx ?_;conv=>whnf
  refine⟨Nat,fun i=>i≤t.ops.length,fun i=> [(26,.int .i64 i),(7,.own 72)],fun i=> [(9,.free),(10,.free),(72,.buf 35 .iv (L i))],fun i=>t.ops.length-i,0,Nat.zero_le _,?_,fun i hi=>?_⟩
  ·((conv=>whnf);refine And.intro ?_ ?_;repeat' first|refine lc ?_ ?_|exact la0|exact lr rfl|exact ln0|refine lh1 ?_ ?_|exact lh0|exact bf0|exact bd0|refine bc0 ?_|exact bm0 rfl|exact bb0 rfl|exact bg0 rfl|exact li0 rfl|refine lg0 ?_|refine lt0 ?_|fail)
  (refine⟨by kernel_rfl,?_⟩;(conv=>whnf))
  refine brI (fun c=>?_) (fun c=>?_)
  ·have c:=of_decide_eq_true c
   have hi:i<t.ops.length:=by omega
   conv=>whnf
   refine⟨⟨by omega,by omega⟩,fun(o:TOp) ho=>?_⟩
   have ho:t.ops[i]? =some o:=by simpa using ho
   have hb:=Lb i o ho
   have hs:=Ls i o ho
   have hr:=Lr i (by omega)
   have hn:=Ll i (by omega)
   have h29:=f129 o.k
   generalize L i=V at*
   obtain⟨V',hV'⟩: ∃V',L (i+1)=V':=⟨_,rfl⟩
   unfold stO at hs
   rcases zk9 hb with k1|⟨k1,k2,k3⟩|⟨k1,⟨k2,k3⟩,k4,k5⟩
   ·rw[if_pos k1]at hs
    rw[k1]at h29
    have h30:=j30 o.c p
    conv=>whnf
    refine gZn h29 ?_;conv=>whnf
    refine gZc h30 ?_;conv=>whnf
    refine⟨by simp;omega,?_⟩;conv=>whnf
    refine⟨i+1,by omega,by show t.ops.length-(i+1)<t.ops.length-i;omega,?_⟩
    ((conv=>whnf);refine And.intro ?_ ?_;repeat' first|refine lc ?_ ?_|exact la0|exact lr rfl|exact ln0|refine lh1 ?_ ?_|exact lh0|exact bf0|exact bd0|refine bc0 ?_|exact bm0 rfl|exact bb0 rfl|exact bg0 rfl|exact li0 rfl|refine lg0 ?_|refine lt0 ?_|fail)
    ·exact ai0 (by rw[wI (by omega)];omega)
    ·exact bb0 hs.symm
   ·rw[if_neg (by rw[k1];decide),if_pos k1]at hs
    rw[k1]at h29
    have ga:=zcy k2 k3
    have h13:=nilw (qat p o.k o.n (gI V o.a) wI0 (zgz (.inl k1)) (hr _ (List.mem_of_getElem? ga)) zgs).1
    generalize gI V o.a=A at*
    conv=>whnf
    refine gZn h29 ?_;conv=>whnf
    refine⟨⟨by omega,by omega⟩,?_⟩;conv=>whnf
    refine⟨by omega,fun(A':Iv) hA'=>?_⟩
    obtain rfl:A=A':=by
     have hA':V[o.a.toNat]? =some A':=hA'
     rw[ga]at hA';exact Option.some.inj hA'
    conv=>whnf
    refine gZc h13 ?_;conv=>whnf
    (refine⟨by kernel_rfl,by kernel_rfl,?_⟩;(conv=>whnf))
    refine⟨by simp;omega,?_⟩;conv=>whnf
    refine⟨i+1,by omega,by show t.ops.length-(i+1)<t.ops.length-i;omega,?_⟩
    ((conv=>whnf);refine And.intro ?_ ?_;repeat' first|refine lc ?_ ?_|exact la0|exact lr rfl|exact ln0|refine lh1 ?_ ?_|exact lh0|exact bf0|exact bd0|refine bc0 ?_|exact bm0 rfl|exact bb0 rfl|exact bg0 rfl|exact li0 rfl|refine lg0 ?_|refine lt0 ?_|fail)
    ·exact ai0 (by rw[wI (by omega)];omega)
    ·exact bb0 hs.symm
   ·rw[if_neg (by rw[k1];decide),if_neg (by rw[k1];decide)]at hs
    rw[k1]at h29
    have ga:=zcy k2 k3
    have gb:=zcy k4 k5
    have h13:=(qat p o.k o.n (gI V o.a) (gI V o.b) (zgz (.inr k1)) (hr _ (List.mem_of_getElem? ga)) (hr _ (List.mem_of_getElem? gb))).1
    generalize gI V o.a=A at*
    generalize gI V o.b=B at*
    conv=>whnf
    refine gZn h29 ?_;conv=>whnf
    refine⟨⟨by omega,by omega⟩,?_⟩;conv=>whnf
    refine⟨by omega,fun(A':Iv) hA'=>?_⟩
    obtain rfl:A=A':=by
     have hA':V[o.a.toNat]? =some A':=hA'
     rw[ga]at hA';exact Option.some.inj hA'
    conv=>whnf
    refine⟨⟨by omega,by omega⟩,?_⟩;conv=>whnf
    refine⟨by omega,fun(B':Iv) hB'=>?_⟩
    obtain rfl:B=B':=by
     have hB':V[o.b.toNat]? =some B':=hB'
     rw[gb]at hB';exact Option.some.inj hB'
    conv=>whnf
    refine gZc h13 ?_;conv=>whnf
    (refine⟨by kernel_rfl,by kernel_rfl,?_⟩;(conv=>whnf))
    refine⟨by simp;omega,?_⟩;conv=>whnf
    refine⟨i+1,by omega,by show t.ops.length-(i+1)<t.ops.length-i;omega,?_⟩
    ((conv=>whnf);refine And.intro ?_ ?_;repeat' first|refine lc ?_ ?_|exact la0|exact lr rfl|exact ln0|refine lh1 ?_ ?_|exact lh0|exact bf0|exact bd0|refine bc0 ?_|exact bm0 rfl|exact bb0 rfl|exact bg0 rfl|exact li0 rfl|refine lg0 ?_|refine lt0 ?_|fail)
    ·exact ai0 (by rw[wI (by omega)];omega)
    ·exact bb0 hs.symm
  ·have c:=of_decide_eq_false c
   obtain rfl:i=t.ops.length:=by omega
   conv=>whnf
   exact⟨lr rfl,leG⟩
end Go.Proofs.YtlocddfailmnpaaGreatDoor

namespace Go.Proofs.YtlocddfailmnpaaGreatDoor
open Go Go.Sx
set_option maxRecDepth 100000
set_option maxHeartbeats 8000000
theorem j8 (t:Tp) (x:List Iv) (p:Int) (h1:t.ops.length<9223372036854775808) (h2:t.outs.length<9223372036854775808) (hx: ∀y∈x,RI y) (hxl:x.length<9223372036854775808):
 Fn 8 G0 [.agg (tpC t),.sl .iv x,.int .i64 p] (.sl .iv (zra t x p)) G0:=by
 have h7:=j7 t x p h1 h2 hx hxl
 have h21:=f41 t h1 h2
 by_cases hv:tvB t=true∧(x.length:Int)=t.ins
 rotate_left
 ·have e:zra t x p= []:=by unfold zra;rw[if_neg hv]
  have e2:zi0 t x p= []:=by unfold zi0;rw[if_neg hv]
  rw[e]
  rw[e2]at h7
  obtain⟨b,hb⟩: ∃b,tvB t=b:=⟨_,rfl⟩
  rw[hb]at hv h21
  refine fnT hTJ hmx Tryz.func8 rfl rfl (ex:= []) ?_;conv=>whnf
  refine gZc h7 ?_;conv=>whnf
  refine brI (fun _=>?_) (fun _=>?_)
  ·conv=>whnf
   exact⟨li0 rfl,leG⟩
  conv=>whnf
  refine brI (fun _=>?_) (fun c=>?_)
  ·conv=>whnf
   exact⟨li0 rfl,leG⟩
  have c:((x.length:Int) != t.ins)=false:=c
  have c:(x.length:Int)=t.ins:=by simpa using c
  cases b with
  |true=>exact absurd ⟨rfl,c⟩ hv
  |false=>
   conv=>whnf
   refine gZn h21 ?_;conv=>whnf
   exact⟨li0 rfl,leG⟩
 rw[hv.1]at h21
 have e:zra t x p=t.outs.map (gI (zac p t.ops x)):=by unfold zra;rw[if_pos hv]
 have e2:zi0 t x p=zac p t.ops x:=by unfold zi0;rw[if_pos hv]
 obtain⟨⟨a1,a2,a3,a4⟩,hob,hout⟩:=zhu hv.1
 have hLl:(zac p t.ops x).length =x.length+t.ops.length:=zcg _ _ _
 rw[e2]at h7
 rw[e]
 have hl:=hv.2
 generalize zac p t.ops x=L at*
 obtain⟨M,hM⟩: ∃M,t.outs.map (gI L)=M:=⟨_,rfl⟩
 have hMl:M.length=t.outs.length:=by rw[←hM];simp
 have hMs: ∀i k,t.outs[i]? =some k→M.take (i+1)=M.take i++ [gI L k]:=fun i k h=>by
  rw[List.take_add_one,←hM,List.getElem?_map,h];rfl
 rw[hM]
 clear hM e e2 hob
 refine fnT hTJ hmx Tryz.func8 rfl rfl (ex:= []) ?_;conv=>whnf
 refine gZc h7 ?_;conv=>whnf
 refine brI (fun c=>?_) (fun _=>?_)
 ·have c:=of_decide_eq_true c
  rw[wI (by omega)]at c
  omega
 conv=>whnf
 refine brI (fun c=>?_) (fun _=>?_)
 ·have c:((x.length:Int) != t.ins)=true:=c
  rw[hl]at c;simp at c
 conv=>whnf
 refine gZn h21 ?_;conv=>whnf
 refine⟨Nat,fun i=>i≤t.outs.length,fun i=> [(39,.int .i64 i),(8,.own 49)],fun i=> [(49,.buf 35 .iv (M.take i))],fun i=>t.outs.length-i,0,Nat.zero_le _,?_,fun i hi=>?_⟩
 ·((conv=>whnf);refine And.intro ?_ ?_;repeat' first|refine lc ?_ ?_|exact la0|exact lr rfl|exact ln0|refine lh1 ?_ ?_|exact lh0|exact bf0|exact bd0|refine bc0 ?_|exact bm0 rfl|exact bb0 rfl|exact bg0 rfl|exact li0 rfl|refine lg0 ?_|refine lt0 ?_|fail)
  ·exact trivial
  ·exact⟨rfl,rfl⟩
 (refine⟨by kernel_rfl,?_⟩;(conv=>whnf))
 refine brI (fun c=>?_) (fun c=>?_)
 ·have c:=of_decide_eq_true c
  have hi:i<t.outs.length:=by omega
  conv=>whnf
  refine⟨⟨by omega,by omega⟩,fun(k:Int) hk=>?_⟩
  have hk:t.outs[i]? =some k:=by simpa using hk
  have hs:=hMs i k hk
  obtain⟨k1,k2⟩:=hout k (List.mem_of_getElem? hk)
  have gk:=zcy (vs:=L) k1 (by omega)
  generalize gI L k=A at*
  conv=>whnf
  refine⟨⟨by omega,by omega⟩,fun(A':Iv) hA'=>?_⟩
  obtain rfl:A=A':=by
   have hA':L[k.toNat]? =some A':=hA'
   rw[gk]at hA';exact Option.some.inj hA'
  conv=>whnf
  refine⟨by simp;omega,?_⟩;conv=>whnf
  refine⟨i+1,by omega,by show t.outs.length-(i+1)<t.outs.length-i;omega,?_⟩
  ((conv=>whnf);refine And.intro ?_ ?_;repeat' first|refine lc ?_ ?_|exact la0|exact lr rfl|exact ln0|refine lh1 ?_ ?_|exact lh0|exact bf0|exact bd0|refine bc0 ?_|exact bm0 rfl|exact bb0 rfl|exact bg0 rfl|exact li0 rfl|refine lg0 ?_|refine lt0 ?_|fail)
  ·exact ai0 (by rw[wI (by omega)];omega)
  ·exact bb0 hs.symm
 ·have c:=of_decide_eq_false c
  conv=>whnf
  exact⟨yt (by rw[List.take_of_length_le (by omega)]),leG⟩
end Go.Proofs.YtlocddfailmnpaaGreatDoor

namespace Go.Proofs.YtlocddfailmnpaaGreatDoor
open Go Go.Sx
set_option maxRecDepth 100000
set_option maxHeartbeats 8000000
noncomputable def zxh:Code:=Tryz.f3.body.getD .skip
theorem k_of {o:TOp} {n:Int} (h:tB o n=true):(o.k=1∧rOk o.c=true)∨((o.k=3∨o.k=4∨o.k=5∨o.k=6)∧((0≤o.a∧o.a<n)∧0≤o.b∧o.b<n))∨((7≤o.k∧o.k≤13)∧0≤o.a∧o.a<n):=by
 unfold tB at h
 split at h
 ·rename_i h1
  simp only[Bool.and_eq_true]at h
  exact .inl ⟨h1,h.2.2.2⟩
 split at h
 ·rename_i h1
  simp only[Bool.and_eq_true,ibO,decide_eq_true_eq]at h
  exact .inr (.inl ⟨h1,h.1,h.2.1⟩)
 split at h
 ·rename_i h1
  simp only[Bool.and_eq_true,ibO,decide_eq_true_eq]at h
  exact .inr (.inr ⟨by omega,h.1⟩)
 split at h
 ·rename_i h1
  simp only[Bool.and_eq_true,ibO,decide_eq_true_eq]at h
  exact .inr (.inr ⟨by omega,h.1⟩)
 ·cases h
theorem j3r (t:Tp) (x:List Iv) (p:Int) (h1:t.ops.length<9223372036854775808) (h2:t.outs.length<9223372036854775808) (hx: ∀y∈x,RI y) (hxl:x.length<9223372036854775808):
 SemOK Tryz.prog TJ Tryz.f3.results.toList [] (.bool true) G0 (zkk 3 zxh) ⟨[.any,.sl .iv x,.int .i64 p,.ptr 3 0]++zd0 177,[(3,.cells (tpC t)),(9,.free),(11,.free),(12,.free),(13,.free),(qr,.gst JT)]⟩:=by
 have h7:=j7 t x p h1 h2 hx hxl
 have h8:=j8 t x p h1 h2 hx hxl
 have h9:=f42 t h1 h2
 by_cases hv:tvB t=true
 rotate_left
 ·have hv:tvB t=false:=by simpa using hv
  rw[show zi0 t x p= [] by unfold zi0;rw[if_neg (by simp[hv])]]at h7
  rw[show zra t x p= [] by unfold zra;rw[if_neg (by simp[hv])]]at h8
  rw[hv]at h9
  refine wj hTJ hmx ?_;conv=>whnf
  refine gZc h7 ?_;conv=>whnf
  refine gZc h8 ?_;conv=>whnf
  (refine⟨by kernel_rfl,by kernel_rfl,?_⟩;(conv=>whnf))
  refine gZn h9 ?_;conv=>whnf
  exact⟨lr rfl,leG⟩
 rw[hv]at h9
 by_cases hl:(x.length:Int)=t.ins
 rotate_left
 ·rw[show zi0 t x p= [] by unfold zi0;rw[if_neg (by simp[hl])]]at h7
  rw[show zra t x p= [] by unfold zra;rw[if_neg (by simp[hl])]]at h8
  refine wj hTJ hmx ?_;conv=>whnf
  refine gZc h7 ?_;conv=>whnf
  refine gZc h8 ?_;conv=>whnf
  (refine⟨by kernel_rfl,by kernel_rfl,?_⟩;(conv=>whnf))
  refine gZn h9 ?_;conv=>whnf
  refine brI (fun _=>?_) (fun c=>?_)
  ·conv=>whnf
   exact⟨lr rfl,leG⟩
  ·have c:((x.length:Int) != t.ins)=false:=c
   exact absurd (by simpa using c) hl
 obtain⟨⟨a1,a2,a3,a4⟩,hob,hout⟩:=zhu hv
 rw[←hl]at hob
 rw[show zi0 t x p=zac p t.ops x by unfold zi0;rw[if_pos ⟨hv,hl⟩]]at h7
 rw[show zra t x p=t.outs.map (gI (zac p t.ops x)) by unfold zra;rw[if_pos ⟨hv,hl⟩]]at h8
 have hLl:(zac p t.ops x).length =x.length+t.ops.length:=zcg _ _ _
 have hLr:=ztx (p:=p) hob hx
 have htk:=zrb p t.ops x
 have hst: ∀(i:Nat) (o:TOp),t.ops[i]? =some o→(zac p t.ops x)[x.length+i]? =some (stO p o (zac p t.ops x)):=fun i o h=>zyl h hob
 have htb: ∀(i:Nat) (o:TOp),t.ops[i]? =some o→tB o (x.length+i:Int)=true:=fun i o h=>zeg hob h
 generalize zac p t.ops x=L at*
 obtain⟨M,hM⟩: ∃M,t.outs.map (gI L)=M:=⟨_,rfl⟩
 have hMl:M.length=t.outs.length:=by rw[←hM];simp
 have hMi: ∀i k,t.outs[i]? =some k→M[i]? =some (gI L k):=fun i k h=>by
  rw[←hM,List.getElem?_map,h];rfl
 rw[hM]at h8
 have h10:=j10 x hx hxl
 clear hM hob
 refine wj hTJ hmx ?_;conv=>whnf
 refine gZc h7 ?_;conv=>whnf
 refine gZc h8 ?_;conv=>whnf
 (refine⟨by kernel_rfl,by kernel_rfl,?_⟩;(conv=>whnf))
 refine gZn h9 ?_;conv=>whnf
 refine brI (fun c=>?_) (fun _=>?_)
 ·have c:((x.length:Int) != t.ins)=true:=c
  rw[hl]at c;simp at c
 conv=>whnf
 refine brI (fun c=>?_) (fun _=>?_)
 ·have c:((L.length:Int) != IntKind.i64.wrap (t.ins+(t.ops.length:Int)))=true:=c
  rw[wI (by omega),hLl,←hl]at c;simp at c
 conv=>whnf
 refine brI (fun c=>?_) (fun _=>?_)
 ·have c:((M.length:Int) != (t.outs.length:Int))=true:=c
  rw[hMl]at c;simp at c
 conv=>whnf
 refine⟨⟨by omega,by omega,by omega⟩,?_⟩;conv=>whnf
 rw[show L.take t.ins.toNat=x by rw[←hl,Int.toNat_natCast];exact htk]
 refine gZn h10 ?_;conv=>whnf
 refine⟨Nat,fun i=>i≤t.ops.length,fun i=> [(97,.int .i64 i)],fun _=> [(11,.free),(12,.free),(13,.free)],fun i=>t.ops.length-i,0,Nat.zero_le _,?_,fun i hi=>?_⟩
 ·((conv=>whnf);refine And.intro ?_ ?_;repeat' first|refine lc ?_ ?_|exact la0|exact lr rfl|exact ln0|refine lh1 ?_ ?_|exact lh0|exact bf0|exact bd0|refine bc0 ?_|exact bm0 rfl|exact bb0 rfl|exact bg0 rfl|exact li0 rfl|refine lg0 ?_|refine lt0 ?_|fail)
 (refine⟨by kernel_rfl,?_⟩;(conv=>whnf))
 refine brI (fun c=>?_) (fun c=>?_)
 ·have c:=of_decide_eq_true c
  have hi:i<t.ops.length:=by omega
  conv=>whnf
  refine⟨⟨by omega,by omega⟩,fun(o:TOp) ho=>?_⟩
  have ho:t.ops[i]? =some o:=by simpa using ho
  have hs:=hst i o ho
  have hb:=htb i o ho
  have hw:IntKind.i64.wrap (t.ins+(i:Int))=((x.length+i:Nat):Int):=by rw[wI (by omega)];omega
  conv=>whnf
  rw[hw]
  refine⟨⟨by omega,by omega⟩,fun(Y:Iv) hY=>?_⟩
  have hY:L[((x.length+i:Nat):Int).toNat]? =some Y:=hY
  rw[Int.toNat_natCast]at hY
  obtain rfl:stO p o L=Y:=by rw[hs]at hY;exact Option.some.inj hY
  have hr:=hLr _ (List.mem_of_getElem? hs)
  have h12:=j12 _ hr.l1 hr.l2
  rcases k_of hb with ⟨k1,k2⟩|⟨k1,⟨k2,k3⟩,k4,k5⟩|⟨k1,k2,k3⟩
  ·have e:stO p o L=zs2 o.c p:=by unfold stO;rw[if_pos (by rw[k1];rfl)]
   rw[e]at h12⊢
   have h11:=j11 o.c p k2
   generalize zs2 o.c p=Y at*
   conv=>whnf
   refine brI (fun _=>?_) (fun c=>absurd (show(o.k==1)=false from c) (by rw[k1];simp))
   conv=>whnf
   refine gZc h11 ?_;conv=>whnf
   refine gZn h12 ?_;conv=>whnf
   refine⟨i+1,by omega,by show t.ops.length-(i+1)<t.ops.length-i;omega,?_⟩
   ((conv=>whnf);refine And.intro ?_ ?_;repeat' first|refine lc ?_ ?_|exact la0|exact lr rfl|exact ln0|refine lh1 ?_ ?_|exact lh0|exact bf0|exact bd0|refine bc0 ?_|exact bm0 rfl|exact bb0 rfl|exact bg0 rfl|exact li0 rfl|refine lg0 ?_|refine lt0 ?_|fail)
   exact ai0 (by rw[wI (by omega)];omega)
  ·have ok:zgd o.k=2:=by unfold zgd;rw[if_neg (by omega),if_pos k1]
   have e:stO p o L=apI fxA o.k o.n (gI L o.a) (gI L o.b) p:=by unfold stO;rw[if_neg (by rw[ok];decide),if_neg (by rw[ok];decide)]
   have ga:=zcy (vs:=L) k2 (by omega)
   have gb:=zcy (vs:=L) k4 (by omega)
   have h13:=(qat p o.k o.n (gI L o.a) (gI L o.b) (zgz (.inr ok)) (hLr _ (List.mem_of_getElem? ga)) (hLr _ (List.mem_of_getElem? gb))).1
   rw[←e]at h13
   clear e
   generalize stO p o L=Y at*
   generalize gI L o.a=A at*
   generalize gI L o.b=B at*
   obtain⟨k,a,b,n,q⟩:=o
   simp only at k1 k2 k3 k4 k5 ga gb h13
   have fin: ∀k',k=k'→k'=3∨k'=4∨k'=5∨k'=6:=fun k' h=>by omega
   rcases k1 with rfl|rfl|rfl|rfl
   all_goals
    conv=>whnf
    refine⟨⟨by first|omega|(simp only;omega),by first|omega|(simp only;omega)⟩,fun(A':Iv) hA'=>?_⟩
    obtain rfl:A=A':=by
     have hA':L[a.toNat]? =some A':=hA'
     rw[ga]at hA';exact Option.some.inj hA'
    conv=>whnf
    refine⟨⟨by first|omega|(simp only;omega),by first|omega|(simp only;omega)⟩,fun(B':Iv) hB'=>?_⟩
    obtain rfl:B=B':=by
     have hB':L[b.toNat]? =some B':=hB'
     rw[gb]at hB';exact Option.some.inj hB'
    conv=>whnf
    refine gZc h13 ?_;conv=>whnf
    refine gZn h12 ?_;conv=>whnf
    (refine⟨by kernel_rfl,by kernel_rfl,?_⟩;(conv=>whnf))
    refine⟨i+1,by omega,by show t.ops.length-(i+1)<t.ops.length-i;omega,?_⟩
    ((conv=>whnf);refine And.intro ?_ ?_;repeat' first|refine lc ?_ ?_|exact la0|exact lr rfl|exact ln0|refine lh1 ?_ ?_|exact lh0|exact bf0|exact bd0|refine bc0 ?_|exact bm0 rfl|exact bb0 rfl|exact bg0 rfl|exact li0 rfl|refine lg0 ?_|refine lt0 ?_|fail)
    exact ai0 (by rw[wI (by omega)];omega)
  ·have ok:zgd o.k=1:=by unfold zgd;rw[if_neg (by omega),if_neg (by omega),if_pos (by omega)]
   have e:stO p o L=apI fxA o.k o.n (gI L o.a) wI0 p:=by unfold stO;rw[if_neg (by rw[ok];decide),if_pos ok]
   have ga:=zcy (vs:=L) k2 (by omega)
   have h13:=nilw (qat p o.k o.n (gI L o.a) wI0 (zgz (.inl ok)) (hLr _ (List.mem_of_getElem? ga)) zgs).1
   rw[←e]at h13
   clear e
   generalize stO p o L=Y at*
   generalize gI L o.a=A at*
   have n1:o.k≠1:=by omega
   have n3:o.k≠3:=by omega
   have n4:o.k≠4:=by omega
   have n5:o.k≠5:=by omega
   have n6:o.k≠6:=by omega
   conv=>whnf
   refine brI (fun c=>absurd (by simpa using(show(o.k==1)=true from c)) n1) (fun _=>?_)
   conv=>whnf
   refine brI (fun c=>absurd (by simpa using(show(o.k==3)=true from c)) n3) (fun _=>?_)
   conv=>whnf
   refine brI (fun c=>absurd (by simpa using(show(o.k==4)=true from c)) n4) (fun _=>?_)
   conv=>whnf
   refine brI (fun c=>absurd (by simpa using(show(o.k==5)=true from c)) n5) (fun _=>?_)
   conv=>whnf
   refine brI (fun c=>absurd (by simpa using(show(o.k==6)=true from c)) n6) (fun _=>?_)
   conv=>whnf
   refine⟨⟨by omega,by omega⟩,fun(A':Iv) hA'=>?_⟩
   obtain rfl:A=A':=by
    have hA':L[o.a.toNat]? =some A':=hA'
    rw[ga]at hA';exact Option.some.inj hA'
   conv=>whnf
   refine gZc h13 ?_;conv=>whnf
   refine gZn h12 ?_;conv=>whnf
   (refine⟨by kernel_rfl,by kernel_rfl,?_⟩;(conv=>whnf))
   refine⟨i+1,by omega,by show t.ops.length-(i+1)<t.ops.length-i;omega,?_⟩
   ((conv=>whnf);refine And.intro ?_ ?_;repeat' first|refine lc ?_ ?_|exact la0|exact lr rfl|exact ln0|refine lh1 ?_ ?_|exact lh0|exact bf0|exact bd0|refine bc0 ?_|exact bm0 rfl|exact bb0 rfl|exact bg0 rfl|exact li0 rfl|refine lg0 ?_|refine lt0 ?_|fail)
   exact ai0 (by rw[wI (by omega)];omega)
 ·conv=>whnf
  refine⟨Nat,fun i=>i≤t.outs.length,fun i=> [(165,.int .i64 i)],fun _=> [],fun i=>t.outs.length-i,0,Nat.zero_le _,?_,fun i hi=>?_⟩
  ·((conv=>whnf);refine And.intro ?_ ?_;repeat' first|refine lc ?_ ?_|exact la0|exact lr rfl|exact ln0|refine lh1 ?_ ?_|exact lh0|exact bf0|exact bd0|refine bc0 ?_|exact bm0 rfl|exact bb0 rfl|exact bg0 rfl|exact li0 rfl|refine lg0 ?_|refine lt0 ?_|fail)
  (refine⟨by kernel_rfl,?_⟩;(conv=>whnf))
  refine brI (fun c=>?_) (fun c=>?_)
  ·have c:=of_decide_eq_true c
   have hi:i<t.outs.length:=by omega
   conv=>whnf
   refine⟨⟨by omega,by omega⟩,fun(k:Int) hk=>?_⟩
   have hk:t.outs[i]? =some k:=by simpa using hk
   have hm:=hMi i k hk
   obtain⟨k1,k2⟩:=hout k (List.mem_of_getElem? hk)
   have gk:=zcy (vs:=L) k1 (by omega)
   have hr:=hLr _ (List.mem_of_getElem? gk)
   have h12:=j12 _ hr.l1 hr.l2
   generalize gI L k=A at*
   conv=>whnf
   refine⟨⟨by omega,by omega⟩,fun(A':Iv) hA'=>?_⟩
   obtain rfl:A=A':=by
    have hA':M[i]? =some A':=by simpa using hA'
    rw[hm]at hA';exact Option.some.inj hA'
   conv=>whnf
   refine⟨⟨by omega,by omega⟩,fun(B':Iv) hB'=>?_⟩
   obtain rfl:A=B':=by
    have hB':L[k.toNat]? =some B':=hB'
    rw[gk]at hB';exact Option.some.inj hB'
   conv=>whnf
   refine gZn h12 ?_;conv=>whnf
   (refine⟨by kernel_rfl,by kernel_rfl,?_⟩;(conv=>whnf))
   refine⟨i+1,by omega,by show t.outs.length-(i+1)<t.outs.length-i;omega,?_⟩
   ((conv=>whnf);refine And.intro ?_ ?_;repeat' first|refine lc ?_ ?_|exact la0|exact lr rfl|exact ln0|refine lh1 ?_ ?_|exact lh0|exact bf0|exact bd0|refine bc0 ?_|exact bm0 rfl|exact bb0 rfl|exact bg0 rfl|exact li0 rfl|refine lg0 ?_|refine lt0 ?_|fail)
   exact ai0 (by rw[wI (by omega)];omega)
  ·conv=>whnf
   exact⟨lr rfl,leG⟩
theorem j3 (t:Tp) (x:List Iv) (p:Int) (h1:t.ops.length<9223372036854775808) (h2:t.outs.length<9223372036854775808) (hx: ∀y∈x,RI y) (hxl:x.length<9223372036854775808):
 Fn 3 G0 [.agg (tpC t),.sl .iv x,.int .i64 p] (.bool true) G0:=by
 refine wl (code:=zxh) hTJ hmx Tryz.func3 rfl rfl (ex:= []) ?_;conv=>whnf
 refine kf hTJ hmx 3 (fun _:Unit=>⟨[.any,.sl .iv x,.int .i64 p,.ptr 3 0]++zd0 177,[(3,.cells (tpC t)),(9,.free),(11,.free),(12,.free),(13,.free),(qr,.gst JT)]⟩) (fun _=>by kernel_rfl) ?_ (fun _=>j3r t x p h1 h2 hx hxl)
 conv=>whnf
 refine gZn f40 ?_;conv=>whnf
 repeat' first
  |(refine brI (fun h=>?_) (fun h=>?_)<;>(conv=>whnf))
  |exact⟨lr rfl,leG⟩
  |refine⟨(),?_⟩
  |fail
 all_goals ((conv=>whnf);refine And.intro ?_ ?_;repeat' first|refine lc ?_ ?_|exact la0|exact lr rfl|exact ln0|refine lh1 ?_ ?_|exact lh0|exact bf0|exact bd0|refine bc0 ?_|exact bm0 rfl|exact bb0 rfl|exact bg0 rfl|exact li0 rfl|refine lg0 ?_|refine lt0 ?_|fail)
end Go.Proofs.YtlocddfailmnpaaGreatDoor
