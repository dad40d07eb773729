/-
  Running a tape: plain laws.
-/
import Derived.Test.YtlocddfailmnpaaGreatDoorQTc
import Derived.Test.YtlocddfailmnpaaGreatDoorQXi
set_option linter.unusedVariables false
set_option linter.unusedSimpArgs false
namespace Go.Proofs.YtlocddfailmnpaaGreatDoor
open Go Go.Sx
set_option maxHeartbeats 2000000
def qaq (r:Rt) (p:Int):Iv:=if pcB p=true then zwg r p else wI0
def gI (vs:List Iv) (k:Int):Iv:=(vs[k.toNat]?).getD zI
def stO (p:Int) (o:TOp) (vs:List Iv):Iv:=
 if zb5 o.k=0 then qaq o.c p else if zb5 o.k=1 then apI fxA o.k o.n (gI vs o.a) wI0 p else apI fxA o.k o.n (gI vs o.a) (gI vs o.b) p
def zbt (p:Int):List TOp→List Iv→List Iv
 | [],vs=>vs
 |o::l,vs=>zbt p l (vs++ [stO p o vs])
def zo9 (t:Tp) (x:List Iv) (p:Int):List Iv:=if tvB t=true∧(x.length:Int)=t.ins then zbt p t.ops x else []
def zqk (t:Tp) (x:List Iv) (p:Int):List Iv:=if tvB t=true∧(x.length:Int)=t.ins then t.outs.map (gI (zbt p t.ops x))else []
theorem zet (p:Int): ∀(l:List TOp) (vs:List Iv),(zbt p l vs).length =vs.length+l.length
 | [],vs=>by simp[zbt]
 |o::l,vs=>by rw[zbt,zet p l];simp;omega
theorem zif (p:Int): ∀(l l':List TOp) (vs:List Iv),zbt p (l++l') vs=zbt p l' (zbt p l vs)
 | [],_,_=>rfl
 |o::l,l',vs=>by rw[List.cons_append,zbt,zbt,zif p l l']
theorem zie (p:Int): ∀(l:List TOp) (vs:List Iv) (i:Nat),i<vs.length→(zbt p l vs)[i]? =vs[i]?
 | [],_,_,_=>rfl
 |o::l,vs,i,h=>by rw[zbt,zie p l _ i (by simp;omega),List.getElem?_append_left h]
theorem zrw {p:Int} {l:List TOp} {vs:List Iv} {k:Int} (h:k<vs.length) (h0:0≤k):gI (zbt p l vs) k=gI vs k:=by
 unfold gI;rw[zie p l vs _ (by omega)]
theorem zyw {p:Int} {o:TOp} {n:Int} {vs ws:List Iv} (h:tB o n=true) (hv: ∀k,0≤k→k<n→gI vs k=gI ws k):stO p o vs=stO p o ws:=by
 unfold stO
 rcases zdp h with h1|⟨h1,h2,h3⟩|⟨h1,⟨h2,h3⟩,h4,h5⟩
 ·rw[if_pos h1,if_pos h1]
 ·rw[if_neg (by rw[h1];decide),if_pos h1,if_neg (by rw[h1];decide),if_pos h1,hv _ h2 h3]
 ·rw[if_neg (by rw[h1];decide),if_neg (by rw[h1];decide),if_neg (by rw[h1];decide),if_neg (by rw[h1];decide),hv _ h2 h3,hv _ h4 h5]
theorem zy8 {p:Int} {l:List TOp} {vs:List Iv} {j:Nat} {o:TOp} (h:l[j]? =some o) (hb:zds l vs.length=true):(zbt p l vs)[vs.length+j]? =some (stO p o (zbt p l vs)):=by
 have hj:=(List.getElem?_eq_some_iff.1 h).1
 have e:l=l.take j++o::l.drop (j+1):=by
  rw[←qp h,List.take_append_drop]
 have ht:=zev hb h
 have hl:(zbt p (l.take j) vs).length =vs.length+j:=by rw[zet,List.length_take];omega
 rw[e,zif,zbt]
 generalize zbt p (l.take j) vs=ws at*
 rw[zie _ _ _ _ (by simp;omega),List.getElem?_append_right (by omega),hl]
 simp only[Nat.sub_self,List.getElem?_cons_zero,Option.some.injEq]
 refine zyw ht fun k h1 h2=>?_
 rw[zrw (by simp;omega) h1]
 unfold gI
 rw[List.getElem?_append_left (by omega)]
theorem zlr {p:Int} {l:List TOp} {vs:List Iv} {j:Nat} {o:TOp} (h:l[j]? =some o) (hb:zds l vs.length=true):gI (zbt p l vs) (vs.length+j:Nat)=stO p o (zbt p l vs):=by
 unfold gI
 rw[Int.toNat_natCast,zy8 h hb];rfl
theorem qen {ns:List zf} {xs:List Iv} {ops:List TOp} {p:Int} (hp:pcB p=true) (hx: ∀x∈xs,viB x=true) (hl:xs.length=ns.length) (hE:(yt ns xs []).length =xs.length) (hb:zds ops ns.length=true)
 {k:Int} {e:Ex} (h:Dn ns.length ns ops k e):VT e→(∀y∈xw e,y.k=2→y.s∈ns)→gI (zbt p ops xs) k=(evE fxA p (yt ns xs []) e).1:=by
 have hb':zds ops xs.length=true:=by rw[hl];exact hb
 have hkn: ∀ {e:Ex},VT e→(∀y∈xw e,y.k=2→y.s∈ns)→(evE fxA p (yt ns xs []) e).2=true:=fun hv hm=>zop (zx9 hv) fun y hy h2=>zmg ns xs [] (hm y hy h2) (by omega)
 induction h with
 |var i s h1 h2=>
  intro _ _
  have hi:i<xs.length:=by omega
  rw[zon,zrw (by omega) (by omega)]
  have hg:xs[i]? =some xs[i]:=List.getElem?_eq_getElem hi
  rw[zxv ns xs [] i h1 hg (by rw[hE];simp;omega)]
  unfold gI okI
  rw[Int.toNat_natCast,hg,if_pos (hx _ (List.getElem_mem hi))];rfl
 |num j r h1=>
  intro _ _
  rw[zoo,show((ns.length:Int)+(j:Int))=((xs.length+j:Nat):Int) by omega,zlr h1 hb']
  simp[stO,zb5,qaq,hp]
 |one j k n A a h1 h2 h3 h4 _ ih=>
  intro hv hm
  have hk:k≠1∧k≠2:=by
   constructor
   ·rintro rfl;simp[zb5]at h2
   ·rintro rfl;simp[zb5]at h2
  have hva:VT a:=by
   cases hv with
   |un _ _ _ h=>exact h
   |pow _ _ _ _ h=>exact h
  have hma: ∀y∈xw a,y.k=2→y.s∈ns:=fun y hy=>hm y (by simp only[opE,xw,zb4,List.append_nil];exact List.mem_cons_of_mem _ hy)
  rw[zkq _ _ _ _ _ _ hk,if_pos (hkn hva hma),show((ns.length:Int)+(j:Int))=((xs.length+j:Nat):Int) by omega,zlr h1 hb']
  unfold stO
  rw[if_neg (by rw[h2];decide),if_pos h2,ih hva hma]
  have hk1:K1 k∨k=8:=by
   cases hv with
   |un _ _ h _=>exact .inl h
   |pow _ _ _ _ _=>exact .inr rfl
  exact qe8 hk1
 |two j k A B a b h1 h2 h3 h4 h5 h6 _ _ ih1 ih2=>
  intro hv hm
  have hk:k≠1∧k≠2:=by
   constructor
   ·rintro rfl;simp[zb5]at h2
   ·rintro rfl;simp[zb5]at h2
  obtain⟨hva,hvb⟩:VT a∧VT b:=by
   cases hv with
   |bin _ _ _ _ h h'=>exact⟨h,h'⟩
  have hma: ∀y∈xw a,y.k=2→y.s∈ns:=fun y hy=>hm y (by simp only[opE,xw,zb4,List.append_nil];exact List.mem_cons_of_mem _ (List.mem_append_left _ hy))
  have hmb: ∀y∈xw b,y.k=2→y.s∈ns:=fun y hy=>hm y (by simp only[opE,xw,zb4,List.append_nil];exact List.mem_cons_of_mem _ (List.mem_append_right _ hy))
  rw[ztj _ _ _ _ _ _ _ hk,if_pos (hkn hva hma),if_pos (hkn hvb hmb),show((ns.length:Int)+(j:Int))=((xs.length+j:Nat):Int) by omega,zlr h1 hb']
  unfold stO
  rw[if_neg (by rw[h2];decide),if_neg (by rw[h2];decide),ih1 hva hma,ih2 hvb hmb]
theorem zwl {l:List Ex} {ns:List zf} {t:Tp} (h:cpE l ns=(t,0)):ns.any zk5=false∧twB ns=false∧ns.length≤8∧(∀x∈l,∀y∈xw x,y.k=2→y.s∈ns):=by
 have hok:=(ze5 h).2.2.1
 unfold cpE at h
 split at h
 ·simp at h
 rename_i c1
 split at h
 ·simp at h
 rename_i c2
 split at h
 ·simp at h
 rename_i c3
 split at h
 ·simp at h
 rename_i c4
 refine⟨by cases e:ns.any zk5<;>simp_all,by simpa using c3,by omega,fun x hx=>?_⟩
 have c4:l.any (zsk ns)=false:=by simpa using c4
 have:=(List.any_eq_false.1 c4) x hx
 exact(znp (hok x hx)).1 (by simpa using this)
theorem zm5: ∀ {ns l:List zf} {i:Nat},ns.drop i=l→twS ns i l=false→(ns.take i).Nodup →ns.Nodup
 |ns,[],i,h,_,hn=>by
  have:ns.length≤i:=by simpa using h
  rwa [List.take_of_length_le this]at hn
 |ns,n::l,i,h,ht,hn=>by
  have hi:ns[i]? =some n:=by
   have:=congrArg (fun z=>z[0]?) h
   simpa using this
  simp only[twS,Bool.or_eq_false_iff]at ht
  refine zm5 (i:=i+1) (l:=l) ?_ ht.2 ?_
  ·rw[qp hi]at h
   exact(List.cons.inj h).2
  ·rw[List.take_add_one,hi]
   simp only[Option.toList_some]
   rw[List.nodup_append]
   refine⟨hn,by simp,fun a ha b hb=>?_⟩
   have hb:b=n:=by simpa using hb
   subst hb
   rintro rfl
   have:=(List.any_eq_false.1 ht.1) a ha
   simp[eqS]at this
theorem zvd {l:List Ex} {ns:List zf} {t:Tp} {xs:List Iv} {p:Int} (h:cpE l ns=(t,0)) (hl:xs.length=ns.length) (hp:pcB p=true) (hx: ∀x∈xs,viB x=true):zqk t xs p=l.map fun e=>zmy fxA e ns xs p:=by
 obtain⟨b1,b2,b3,_,b5,b6⟩:=ze5 h
 obtain⟨c1,c2,c3,c4⟩:=zwl h
 have hnd:ns.Nodup:=zm5 (i:=0) (l:=ns) rfl c2 (by simp)
 have hE:=zsx ns xs [] hnd (fun s _=>rfl) (by omega)
 have hE:(yt ns xs []).length =xs.length:=by rw[hE,hl];simp
 have hen:enB ns xs=true:=by unfold enB;exact decide_eq_true ⟨hl.symm,by omega,hE⟩
 have h0:zup ns.length (([],[]):BS):=⟨rfl,fun x hx=>by simp[yr]at hx,fun x hx=>by cases hx⟩
 obtain⟨a1,_,a3⟩:=zl0 l (fun x hx=>⟨zcy (b3 x hx),c4 x hx⟩) h0
 have hins:t.ins=ns.length:=by rw[b6]
 have houts:t.outs=(ndL ns.length ns l ([],[])).1:=by rw[b6]
 have hops:t.ops=(ndL ns.length ns l ([],[])).2.1:=by rw[b6]
 rw[←houts,←hops]at a3
 have hob:zds t.ops ns.length=true:=by rw[hops];exact a1.1
 unfold zqk
 rw[if_pos ⟨b1,by rw[hins];omega⟩]
 apply List.ext_getElem?
 intro i
 rw[List.getElem?_map,List.getElem?_map]
 cases hi:l[i]? with
 |none=>
  have:l.length≤i:=by simpa using hi
  rw[List.getElem?_eq_none (by omega)];rfl
 |some e=>
  obtain⟨k,d1,d2,d3,d4⟩:=a3 i e hi
  have he:=List.mem_of_getElem? hi
  rw[d1]
  simp only[Option.map_some,Option.some.injEq]
  have hm:=c4 e he
  have hv:=zcy (b3 e he)
  rw[qen hp hx hl hE hob d4 hv hm,qb8 hen (b3 e he) hp (zop (zx9 hv) fun y hy h2=>zmg ns xs [] (hm y hy h2) (by omega))]
theorem zy7 {t:Tp} {xs:List Iv} {p:Int} (h: ¬(xs.length:Int)=t.ins):zqk t xs p= []∧zo9 t xs p= []:=by
 unfold zqk zo9
 rw[if_neg fun c=>h c.2,if_neg fun c=>h c.2];exact⟨rfl,rfl⟩
theorem zvc {l:List Ex} {ns:List zf} {t:Tp} {xs:List Iv} {p:Int} (h:cpE l ns=(t,0)) (hl:xs.length=ns.length):(zqk t xs p).length =l.length:=by
 obtain⟨b1,b2,_,_,_,b6⟩:=ze5 h
 have hins:t.ins=ns.length:=by rw[b6]
 unfold zqk
 rw[if_pos ⟨b1,by rw[hins];omega⟩,List.length_map,b2]
theorem qer {l:List Ex} {ns:List zf} (h:(cpE l ns).2≠0):(cpE l ns).1=tp0:=by
 unfold cpE at h⊢
 split
 ·rfl
 rename_i c1;rw[if_neg c1]at h
 split
 ·rfl
 rename_i c2;rw[if_neg c2]at h
 split
 ·rfl
 rename_i c3;rw[if_neg c3]at h
 split
 ·rfl
 rename_i c4;rw[if_neg c4]at h
 split
 ·rfl
 rename_i c5;rw[if_neg c5]at h
 exact absurd rfl h
end Go.Proofs.YtlocddfailmnpaaGreatDoor

namespace Go.Proofs.YtlocddfailmnpaaGreatDoor
open Go Go.Sx
set_option maxHeartbeats 2000000
theorem zh3 {t:Tp} (h:tvB t=true):(0≤t.ins∧t.ins≤8∧t.ops.length≤200∧t.outs.length≤200)∧zds t.ops t.ins=true∧ ∀k∈t.outs,0≤k∧k<t.ins+t.ops.length:=by
 unfold tvB at h
 simp only[Bool.and_eq_true,decide_eq_true_eq,Bool.not_eq_true',List.any_eq_false]at h
 refine⟨h.1,h.2.1,fun k hk=>?_⟩
 have:=h.2.2 k hk
 simp only[zqf,Bool.or_eq_true,decide_eq_true_eq,not_or]at this;omega
end Go.Proofs.YtlocddfailmnpaaGreatDoor

namespace Go.Proofs.YtlocddfailmnpaaGreatDoor
open Go Go.Sx
set_option maxRecDepth 100000
set_option maxHeartbeats 8000000
def TJ:Tab:= {T8 with gl:=7::8::19::T8.gl}
theorem hTJ:TabOK Tryz.prog TJ:=zg2 (by kernel_rfl) (by kernel_rfl)
theorem j28 (l:List Iv) (hl:l.length≤1000000):Fn 28 [] [.sl .iv l] (.own 2000000) [(2000000,.buf 35 .iv l)]:=by
 by_cases h0:l= []
 ·subst h0
  refine fnT hTJ hmx Tryz.func28 rfl rfl (ex:= [7]) ?_;conv=>whnf
  refine⟨fun h=>?_,fun _=>?_⟩
  ·conv=>whnf
   exact⟨trivial,lh1 ⟨rfl,rfl⟩ lh0⟩
  ·conv=>whnf
   refine⟨by simp,?_⟩;conv=>whnf
   exact⟨lr rfl,lh1 (bb0 (by simp)) lh0⟩
 ·exact x13 l hl h0
theorem j119 {a b:Dy} (ha:VD a) (hb:VD b) (p:Int) (up:Bool) (hp: ¬pcB p=true):Fn 119 G0 [.agg (dyC a),.agg (dyC b),.int .i64 p,.bool up] (dyV (d0,2)) G0:=by
 have h:=y164 p [a,b] (by
  have:=ha.len
  have:=hb.len
  intro d hd
  have hd:d=a∨d=b:=by simpa using hd
  rcases hd with rfl|rfl
  ·exact⟨ha.lb,by omega⟩
  ·exact⟨hb.lb,by omega⟩) (by simp)
 have e:ftD p [a,b]=2:=by
  unfold ftD
  rw[if_neg (by simp[(zah ha.lb).2 ha,(zah hb.lb).2 hb]),if_pos (by simpa using hp)]
 rw[e]at h
 refine fnT hT6 hmx Tryz.func119 rfl rfl (ex:= []) ?_;conv=>whnf
 refine gZn h ?_;conv=>whnf
 exact⟨zqo,leG⟩
theorem j73 {a b:Dy} (ha:VD a) (hb:VD b) (p:Int) (hp: ¬pcB p=true):Fn 73 G0 [.agg (dyC a),.agg (dyC b),.int .i64 p] (dyV (d0,2)) G0:=by
 have h:=j119 ha hb p false hp
 refine fnT hT6 hmx Tryz.func73 rfl rfl (ex:= []) ?_;conv=>whnf
 refine gZc h ?_;conv=>whnf
 exact⟨lr rfl,leG⟩
theorem j75 {a b:Dy} (ha:VD a) (hb:VD b) (p:Int) (hp: ¬pcB p=true):Fn 75 G0 [.agg (dyC a),.agg (dyC b),.int .i64 p] (dyV (d0,2)) G0:=by
 have h:=j119 ha hb p true hp
 refine fnT hT6 hmx Tryz.func75 rfl rfl (ex:= []) ?_;conv=>whnf
 refine gZc h ?_;conv=>whnf
 exact⟨lr rfl,leG⟩
theorem j30 (r:Rt) (p:Int):Fn 30 G0 [.agg [.int .i64 r.n,.int .i64 r.d],.int .i64 p] (.agg (ivC (qaq r p))) G0:=by
 by_cases hp:pcB p=true
 ·unfold qaq
  rw[if_pos hp]
  exact i50 r p hp
 ·have h15:=f54 r.n r.d
  have hr:rOk ⟨r.n,r.d⟩=rOk r:=rfl
  rw[hr]at h15
  unfold qaq
  rw[if_neg hp]
  by_cases h:rOk r=true
  ·rw[h]at h15
   have hb:=zxh h
   unfold rIn at hb
   have n1:=v77 r.n (by omega)
   have n2:=v77 r.d (by omega)
   have vn:=kd r.n (by omega)
   have vd:=kd r.d (by omega)
   have n3:=j73 vn vd p hp
   have n4:=j75 vn vd p hp
   generalize ke r.n=N at*
   generalize ke r.d=D at*
   refine fnT hT6 hmx Tryz.func30 rfl rfl (ex:= []) ?_;conv=>whnf
   refine gZn h15 ?_;conv=>whnf
   refine gZc n1 ?_;conv=>whnf
   refine gZc n2 ?_;conv=>whnf
   refine gZc n3 ?_;conv=>whnf
   (refine⟨by kernel_rfl,by kernel_rfl,?_⟩;(conv=>whnf))
   refine gZc n1 ?_;conv=>whnf
   refine gZc n2 ?_;conv=>whnf
   refine gZc n4 ?_;conv=>whnf
   (refine⟨by kernel_rfl,by kernel_rfl,?_⟩;(conv=>whnf))
   exact⟨leW,leG⟩
  ·rw[show rOk r=false by simpa using h]at h15
   refine fnT hT6 hmx Tryz.func30 rfl rfl (ex:= []) ?_;conv=>whnf
   refine gZn h15 ?_;conv=>whnf
   exact⟨leW,leG⟩
theorem qbj (r:Rt) (p:Int):CI (qaq r p):=by
 unfold qaq
 split
 ·rename_i h;exact zye r h
 ·exact zgq
theorem j79 (a:List Int) (ha:a.length<9223372036854775808):Fn 79 [] [.sl .u32 a,.sl .u32 a] (.bool true) []:=by
 refine fnT hTJ hmx Tryz.func79 rfl rfl (ex:= []) ?_;conv=>whnf
 refine brI (fun h1=>?_) (fun _=>?_)
 ·have h1:((a.length:Int) != (a.length:Int))=true:=h1
  simp at h1
 conv=>whnf
 refine⟨Nat,fun i=>i≤a.length,fun i=> [(13,.int .i64 i)],fun _=> [],fun i=>a.length-i,0,Nat.zero_le _,?_,fun i hi=>?_⟩
 ·((conv=>whnf);refine And.intro ?_ ?_;repeat' first|refine lc ?_ ?_|exact la0|exact lr rfl|exact ln0|refine lh1 ?_ ?_|exact lh0|exact bf0|exact bd0|refine bc0 ?_|exact bm0 rfl|exact bb0 rfl|exact bg0 rfl|exact li0 rfl|refine lg0 ?_|refine lt0 ?_|fail)
 (refine⟨by kernel_rfl,?_⟩;(conv=>whnf))
 refine brI (fun h1=>?_) (fun h1=>?_)
 ·have h1:=of_decide_eq_true h1
  have hi:i<a.length:=by omega
  conv=>whnf
  refine⟨⟨by omega,by omega⟩,fun(x:Int) hx=>?_⟩
  have hx:a[i]? =some x:=by simpa using hx
  conv=>whnf
  refine⟨⟨by omega,by omega⟩,fun(y:Int) hy=>?_⟩
  have hy:a[i]? =some y:=by simpa using hy
  obtain rfl:x=y:=by rw[hx]at hy;exact Option.some.inj hy
  conv=>whnf
  (refine⟨by kernel_rfl,by kernel_rfl,?_⟩;(conv=>whnf))
  refine brI (fun h2=>?_) (fun _=>?_)
  ·have h2:(x != x)=true:=h2
   simp at h2
  conv=>whnf
  refine⟨i+1,by omega,by show a.length-(i+1)<a.length-i;omega,?_⟩
  ((conv=>whnf);refine And.intro ?_ ?_;repeat' first|refine lc ?_ ?_|exact la0|exact lr rfl|exact ln0|refine lh1 ?_ ?_|exact lh0|exact bf0|exact bd0|refine bc0 ?_|exact bm0 rfl|exact bb0 rfl|exact bg0 rfl|exact li0 rfl|refine lg0 ?_|refine lt0 ?_|fail)
  exact ai0 (by rw[wI (by omega)];omega)
 ·conv=>whnf
  exact⟨lr rfl,lh0⟩
theorem j37 (d:Dy) (hl:d.m.length<9223372036854775808):Fn 37 [] [.agg (dyC d),.agg (dyC d)] (.bool true) []:=by
 have h:=j79 d.m hl
 obtain⟨s,m,e⟩:=d
 cases s
 all_goals
  refine fnT hTJ hmx Tryz.func37 rfl rfl (ex:= []) ?_;conv=>whnf
  refine brI (fun _=>?_) (fun c=>?_)
  rotate_left
  ·exact absurd (show(e==e)=true by simp) (by rw[show(e==e)=false from c];simp)
  conv=>whnf
  refine gZn h ?_;conv=>whnf
  exact⟨lr rfl,lh0⟩
theorem j12 (x:Iv) (h1:x.lo.m.length<9223372036854775808) (h2:x.hi.m.length<9223372036854775808):Fn 12 [] [.agg (ivC x),.agg (ivC x)] (.bool true) []:=by
 have c1:=j37 x.lo h1
 have c2:=j37 x.hi h2
 obtain⟨a,b,c⟩:=x
 cases c
 all_goals
  refine fnT hTJ hmx Tryz.func12 rfl rfl (ex:= []) ?_;conv=>whnf
  refine gZn c1 ?_;conv=>whnf
  refine gZn c2 ?_;conv=>whnf
  exact⟨lr rfl,lh0⟩
theorem j32 (l:List Iv) (hl: ∀x∈l,RI x) (hlen:l.length<9223372036854775808):Fn 32 [] [.sl .iv l,.sl .iv l,.fn 12 []] (.bool true) []:=by
 refine fnT hTJ hmx Tryz.func32 rfl rfl (ex:= []) ?_;conv=>whnf
 refine brI (fun h1=>?_) (fun _=>?_)
 ·have h1:((l.length:Int) != (l.length:Int))=true:=h1
  simp at h1
 conv=>whnf
 refine⟨Nat,fun i=>i≤l.length,fun i=> [(17,.int .i64 i)],fun _=> [(8,.free),(9,.free)],fun i=>l.length-i,0,Nat.zero_le _,?_,fun i hi=>?_⟩
 ·((conv=>whnf);refine And.intro ?_ ?_;repeat' first|refine lc ?_ ?_|exact la0|exact lr rfl|exact ln0|refine lh1 ?_ ?_|exact lh0|exact bf0|exact bd0|refine bc0 ?_|exact bm0 rfl|exact bb0 rfl|exact bg0 rfl|exact li0 rfl|refine lg0 ?_|refine lt0 ?_|fail)
 (refine⟨by kernel_rfl,?_⟩;(conv=>whnf))
 refine brI (fun h1=>?_) (fun h1=>?_)
 ·have h1:=of_decide_eq_true h1
  have hi:i<l.length:=by omega
  conv=>whnf
  refine⟨⟨by omega,by omega⟩,fun(x:Iv) hx=>?_⟩
  have hx:l[i]? =some x:=by simpa using hx
  have hr:=hl x (List.mem_of_getElem? hx)
  have h20:=j12 x hr.l1 hr.l2
  conv=>whnf
  refine⟨⟨by omega,by omega⟩,fun(y:Iv) hy=>?_⟩
  have hy:l[i]? =some y:=by simpa using hy
  obtain rfl:x=y:=by rw[hx]at hy;exact Option.some.inj hy
  conv=>whnf
  refine gZn h20 ?_;conv=>whnf
  refine⟨i+1,by omega,by show l.length-(i+1)<l.length-i;omega,?_⟩
  ((conv=>whnf);refine And.intro ?_ ?_;repeat' first|refine lc ?_ ?_|exact la0|exact lr rfl|exact ln0|refine lh1 ?_ ?_|exact lh0|exact bf0|exact bd0|refine bc0 ?_|exact bm0 rfl|exact bb0 rfl|exact bg0 rfl|exact li0 rfl|refine lg0 ?_|refine lt0 ?_|fail)
  exact ai0 (by rw[wI (by omega)];omega)
 ·conv=>whnf
  exact⟨lr rfl,lh0⟩
theorem j10 (l:List Iv) (hl: ∀x∈l,RI x) (hlen:l.length<9223372036854775808):Fn 10 [] [.sl .iv l,.sl .iv l] (.bool true) []:=by
 refine fnT hTJ hmx Tryz.func10 rfl rfl (ex:= []) ?_;conv=>whnf
 refine gZn (j32 l hl hlen) ?_;conv=>whnf
 exact⟨lr rfl,lh0⟩
abbrev wNl:List AV:= [.bool false,.nilsl,.int .i64 0,.bool false,.nilsl,.int .i64 0,.bool true]
theorem R_wNl {ρ:Env} {v:Value} (h:R ρ (.agg wNl) v):R ρ (.agg (ivC wI0)) v:=by
 obtain⟨cs,rfl,h⟩:=h
 refine⟨cs,rfl,?_⟩
 match cs.toList,h with
 | [_,_,_,_,_,_,_],⟨a,b,c,d,e,f,g,_⟩=>exact⟨a,qbd b,c,d,qbd e,f,g,trivial⟩
theorem nilw {f:Nat} {H H':Hp} {a b c e r:AV} (h:Fn f H [a,b,c,.agg (ivC wI0),e] r H'):Fn f H [a,b,c,.agg wNl,e] r H':=
 h.arg fun _ vs hv=>match vs,hv with
  | [_,_,_,_,_],⟨h1,h2,h3,h4,h5,h6⟩=>⟨h1,h2,h3,R_wNl h4,h5,h6⟩
end Go.Proofs.YtlocddfailmnpaaGreatDoor

namespace Go.Proofs.YtlocddfailmnpaaGreatDoor
open Go Go.Sx
set_option maxRecDepth 100000
set_option maxHeartbeats 8000000
theorem zki {vs:List Iv} {k:Int} (h0:0≤k) (h:k<vs.length):vs[k.toNat]? =some (gI vs k):=by
 unfold gI
 rw[List.getElem?_eq_getElem (by omega)];rfl
theorem zno {k:Int} (h:zb5 k=1∨zb5 k=2):Kt k:=by
 unfold zb5 at h
 unfold Kt
 split at h
 ·omega
 split at h
 ·omega
 split at h<;>omega
theorem zjw: ∀ {l:List TOp} {n:Int} (i:Nat),zds l n=true→zds (l.take i) n=true
 | [],_,i,_=>by simp[zds]
 |o::l,n,0,_=>rfl
 |o::l,n,i+1,h=>by
  simp only[List.take_succ_cons,zds,Bool.and_eq_true]at h⊢
  exact⟨h.1,zjw i h.2⟩
theorem RI_st {p:Int} {o:TOp} {n:Int} {vs:List Iv} (ho:tB o n=true) (hv: ∀y∈vs,RI y) (hn:n=vs.length):RI (stO p o vs):=by
 have hg: ∀k,0≤k→k<n→RI (gI vs k):=fun k h0 h=>hv _ (List.mem_of_getElem? (zki h0 (by omega)))
 unfold stO
 rcases zdp ho with h1|⟨h1,h2,h3⟩|⟨h1,⟨h2,h3⟩,h4,h5⟩
 ·rw[if_pos h1];exact(qbj o.c p).ri
 ·rw[if_neg (by rw[h1];decide),if_pos h1]
  exact(qb1 p o.k o.n (gI vs o.a) wI0 (zno (.inl h1)) (hg _ h2 h3) zg1).2.ri
 ·rw[if_neg (by rw[h1];decide),if_neg (by rw[h1];decide)]
  exact(qb1 p o.k o.n (gI vs o.a) (gI vs o.b) (zno (.inr h1)) (hg _ h2 h3) (hg _ h4 h5)).2.ri
theorem zyb {p:Int}: ∀ {l:List TOp} {vs:List Iv},zds l vs.length=true→(∀y∈vs,RI y)→ ∀y∈zbt p l vs,RI y
 | [],_,_,hv=>hv
 |o::l,vs,hb,hv=>by
  have hb':tB o vs.length=true∧zds l (vs.length+1)=true:=by simpa[zds]using hb
  rw[zbt]
  refine zyb (by simpa using hb'.2) fun y hy=>?_
  rcases List.mem_append.1 hy with hy|hy
  ·exact hv y hy
  ·rw[List.mem_singleton.1 hy]
   exact RI_st hb'.1 hv rfl
theorem zve {p:Int} {l:List TOp} {vs:List Iv} {i:Nat} {o:TOp} (h:l[i]? =some o):zbt p (l.take (i+1)) vs=zbt p (l.take i) vs++ [stO p o (zbt p (l.take i) vs)]:=by
 rw[List.take_add_one,h,Option.toList_some,zif];rfl
noncomputable def body7:Code:=Tryz.f7.body.getD .skip
theorem j7 (t:Tp) (x:List Iv) (p:Int) (h1:t.ops.length<9223372036854775808) (h2:t.outs.length<9223372036854775808) (hx: ∀y∈x,RI y) (hxl:x.length<9223372036854775808):
 Fn 7 G0 [.agg (tpC t),.sl .iv x,.int .i64 p] (.sl .iv (zo9 t x p)) G0:=by
 have h21:=f41 t h1 h2
 by_cases hv:tvB t=true
 rotate_left
 ·have hv:tvB t=false:=by simpa using hv
  rw[hv]at h21
  have e:zo9 t x p= []:=by unfold zo9;rw[if_neg (by simp[hv])]
  rw[e]
  refine fnT hTJ hmx Tryz.func7 rfl rfl (ex:= []) ?_;conv=>whnf
  refine gZn h21 ?_;conv=>whnf
  exact⟨li0 rfl,leG⟩
 rw[hv]at h21
 by_cases hl:(x.length:Int)=t.ins
 rotate_left
 ·have e:zo9 t x p= []:=by unfold zo9;rw[if_neg (by simp[hl])]
  rw[e]
  refine fnT hTJ hmx Tryz.func7 rfl rfl (ex:= []) ?_;conv=>whnf
  refine gZn h21 ?_;conv=>whnf
  refine brI (fun _=>?_) (fun c=>?_)
  ·conv=>whnf
   exact⟨li0 rfl,leG⟩
  ·have c:((x.length:Int) != t.ins)=false:=c
   exact absurd (by simpa using c) hl
 have e:zo9 t x p=zbt p t.ops x:=by unfold zo9;rw[if_pos ⟨hv,hl⟩]
 obtain⟨⟨a1,a2,a3,a4⟩,hob,_⟩:=zh3 hv
 rw[←hl]at hob
 have h28:=j28 x (by omega)
 obtain⟨L,hL⟩: ∃L:Nat→List Iv,L=fun i=>zbt p (t.ops.take i) x:=⟨_,rfl⟩
 have L0:x=L 0:=by rw[hL];rfl
 have Ln:L t.ops.length=zo9 t x p:=by rw[hL,e];simp
 have Ls: ∀i o,t.ops[i]? =some o→L (i+1)=L i++ [stO p o (L i)]:=fun i o h=>by rw[hL];exact zve h
 have Ll: ∀i,i≤t.ops.length→(L i).length =x.length+i:=fun i h=>by rw[hL];simp only;rw[zet,List.length_take];omega
 have Lb: ∀i o,t.ops[i]? =some o→tB o (L i).length =true:=fun i o h=>by
  rw[Ll i (by have:=(List.getElem?_eq_some_iff.1 h).1;omega)]
  have:=zev hob h
  simpa using this
 have Lr: ∀i,i≤t.ops.length→ ∀y∈L i,RI y:=fun i _=>by
  rw[hL]
  exact zyb (zjw _ hob) hx
 rw[←Ln]
 clear hL e Ln
 refine wv (code:=body7) hTJ hmx Tryz.func7 rfl rfl (ex:= []) ?_;conv=>whnf
 refine ku hTJ hmx 3 (fun _:Unit=>⟨[.any,.any,.int .i64 p,.ptr 3 0,.any,.any,.any,.own 22]++zen 67,[(3,.cells (tpC t)),(22,.buf 35 .iv (L 0)),(9,.free),(10,.free),(72,.dead),(100072,.free),(1500072,.free),(qt,.gst JT)]⟩) (fun _=>by kernel_rfl) ?_ (fun _=>?_)
 ·conv=>whnf
  refine gZn h21 ?_;conv=>whnf
  refine brI (fun c=>?_) (fun _=>?_)
  ·have c:((x.length:Int) != t.ins)=true:=c
   rw[hl]at c;simp at c
  conv=>whnf
  refine⟨[],[.buf 35 .iv x],.own 2000000,h28,?_⟩;conv=>whnf
  refine⟨(),?_⟩
  ((conv=>whnf);refine And.intro ?_ ?_;repeat' first|refine lc ?_ ?_|exact la0|exact lr rfl|exact ln0|refine lh1 ?_ ?_|exact lh0|exact bf0|exact bd0|refine bc0 ?_|exact bm0 rfl|exact bb0 rfl|exact bg0 rfl|exact li0 rfl|refine lg0 ?_|refine lt0 ?_|fail)
  exact bb0 L0
 ·refine zer 72 22 (by kernel_rfl) ?_;conv=>whnf
  refine jr hTJ hmx ?_;conv=>whnf
  refine⟨Nat,fun i=>i≤t.ops.length,fun i=> [(26,.int .i64 i),(7,.own 72)],fun i=> [(9,.free),(10,.free),(72,.buf 35 .iv (L i))],fun i=>t.ops.length-i,0,Nat.zero_le _,?_,fun i hi=>?_⟩
  ·((conv=>whnf);refine And.intro ?_ ?_;repeat' first|refine lc ?_ ?_|exact la0|exact lr rfl|exact ln0|refine lh1 ?_ ?_|exact lh0|exact bf0|exact bd0|refine bc0 ?_|exact bm0 rfl|exact bb0 rfl|exact bg0 rfl|exact li0 rfl|refine lg0 ?_|refine lt0 ?_|fail)
  (refine⟨by kernel_rfl,?_⟩;(conv=>whnf))
  refine brI (fun c=>?_) (fun c=>?_)
  ·have c:=of_decide_eq_true c
   have hi:i<t.ops.length:=by omega
   conv=>whnf
   refine⟨⟨by omega,by omega⟩,fun(o:TOp) ho=>?_⟩
   have ho:t.ops[i]? =some o:=by simpa using ho
   have hb:=Lb i o ho
   have hs:=Ls i o ho
   have hr:=Lr i (by omega)
   have hn:=Ll i (by omega)
   have h29:=f129 o.k
   generalize L i=V at*
   obtain⟨V',hV'⟩: ∃V',L (i+1)=V':=⟨_,rfl⟩
   unfold stO at hs
   rcases zdp hb with k1|⟨k1,k2,k3⟩|⟨k1,⟨k2,k3⟩,k4,k5⟩
   ·rw[if_pos k1]at hs
    rw[k1]at h29
    have h30:=j30 o.c p
    conv=>whnf
    refine gZn h29 ?_;conv=>whnf
    refine gZc h30 ?_;conv=>whnf
    refine⟨by simp;omega,?_⟩;conv=>whnf
    refine⟨i+1,by omega,by show t.ops.length-(i+1)<t.ops.length-i;omega,?_⟩
    ((conv=>whnf);refine And.intro ?_ ?_;repeat' first|refine lc ?_ ?_|exact la0|exact lr rfl|exact ln0|refine lh1 ?_ ?_|exact lh0|exact bf0|exact bd0|refine bc0 ?_|exact bm0 rfl|exact bb0 rfl|exact bg0 rfl|exact li0 rfl|refine lg0 ?_|refine lt0 ?_|fail)
    ·exact ai0 (by rw[wI (by omega)];omega)
    ·exact bb0 hs.symm
   ·rw[if_neg (by rw[k1];decide),if_pos k1]at hs
    rw[k1]at h29
    have ga:=zki k2 k3
    have h13:=nilw (qb1 p o.k o.n (gI V o.a) wI0 (zno (.inl k1)) (hr _ (List.mem_of_getElem? ga)) zg1).1
    generalize gI V o.a=A at*
    conv=>whnf
    refine gZn h29 ?_;conv=>whnf
    refine⟨⟨by omega,by omega⟩,?_⟩;conv=>whnf
    refine⟨by omega,fun(A':Iv) hA'=>?_⟩
    obtain rfl:A=A':=by
     have hA':V[o.a.toNat]? =some A':=hA'
     rw[ga]at hA';exact Option.some.inj hA'
    conv=>whnf
    refine gZc h13 ?_;conv=>whnf
    (refine⟨by kernel_rfl,by kernel_rfl,?_⟩;(conv=>whnf))
    refine⟨by simp;omega,?_⟩;conv=>whnf
    refine⟨i+1,by omega,by show t.ops.length-(i+1)<t.ops.length-i;omega,?_⟩
    ((conv=>whnf);refine And.intro ?_ ?_;repeat' first|refine lc ?_ ?_|exact la0|exact lr rfl|exact ln0|refine lh1 ?_ ?_|exact lh0|exact bf0|exact bd0|refine bc0 ?_|exact bm0 rfl|exact bb0 rfl|exact bg0 rfl|exact li0 rfl|refine lg0 ?_|refine lt0 ?_|fail)
    ·exact ai0 (by rw[wI (by omega)];omega)
    ·exact bb0 hs.symm
   ·rw[if_neg (by rw[k1];decide),if_neg (by rw[k1];decide)]at hs
    rw[k1]at h29
    have ga:=zki k2 k3
    have gb:=zki k4 k5
    have h13:=(qb1 p o.k o.n (gI V o.a) (gI V o.b) (zno (.inr k1)) (hr _ (List.mem_of_getElem? ga)) (hr _ (List.mem_of_getElem? gb))).1
    generalize gI V o.a=A at*
    generalize gI V o.b=B at*
    conv=>whnf
    refine gZn h29 ?_;conv=>whnf
    refine⟨⟨by omega,by omega⟩,?_⟩;conv=>whnf
    refine⟨by omega,fun(A':Iv) hA'=>?_⟩
    obtain rfl:A=A':=by
     have hA':V[o.a.toNat]? =some A':=hA'
     rw[ga]at hA';exact Option.some.inj hA'
    conv=>whnf
    refine⟨⟨by omega,by omega⟩,?_⟩;conv=>whnf
    refine⟨by omega,fun(B':Iv) hB'=>?_⟩
    obtain rfl:B=B':=by
     have hB':V[o.b.toNat]? =some B':=hB'
     rw[gb]at hB';exact Option.some.inj hB'
    conv=>whnf
    refine gZc h13 ?_;conv=>whnf
    (refine⟨by kernel_rfl,by kernel_rfl,?_⟩;(conv=>whnf))
    refine⟨by simp;omega,?_⟩;conv=>whnf
    refine⟨i+1,by omega,by show t.ops.length-(i+1)<t.ops.length-i;omega,?_⟩
    ((conv=>whnf);refine And.intro ?_ ?_;repeat' first|refine lc ?_ ?_|exact la0|exact lr rfl|exact ln0|refine lh1 ?_ ?_|exact lh0|exact bf0|exact bd0|refine bc0 ?_|exact bm0 rfl|exact bb0 rfl|exact bg0 rfl|exact li0 rfl|refine lg0 ?_|refine lt0 ?_|fail)
    ·exact ai0 (by rw[wI (by omega)];omega)
    ·exact bb0 hs.symm
  ·have c:=of_decide_eq_false c
   obtain rfl:i=t.ops.length:=by omega
   conv=>whnf
   exact⟨lr rfl,leG⟩
end Go.Proofs.YtlocddfailmnpaaGreatDoor

namespace Go.Proofs.YtlocddfailmnpaaGreatDoor
open Go Go.Sx
set_option maxRecDepth 100000
set_option maxHeartbeats 8000000
theorem j8 (t:Tp) (x:List Iv) (p:Int) (h1:t.ops.length<9223372036854775808) (h2:t.outs.length<9223372036854775808) (hx: ∀y∈x,RI y) (hxl:x.length<9223372036854775808):
 Fn 8 G0 [.agg (tpC t),.sl .iv x,.int .i64 p] (.sl .iv (zqk t x p)) G0:=by
 have h7:=j7 t x p h1 h2 hx hxl
 have h21:=f41 t h1 h2
 by_cases hv:tvB t=true∧(x.length:Int)=t.ins
 rotate_left
 ·have e:zqk t x p= []:=by unfold zqk;rw[if_neg hv]
  have e2:zo9 t x p= []:=by unfold zo9;rw[if_neg hv]
  rw[e]
  rw[e2]at h7
  obtain⟨b,hb⟩: ∃b,tvB t=b:=⟨_,rfl⟩
  rw[hb]at hv h21
  refine fnT hTJ hmx Tryz.func8 rfl rfl (ex:= []) ?_;conv=>whnf
  refine gZc h7 ?_;conv=>whnf
  refine brI (fun _=>?_) (fun _=>?_)
  ·conv=>whnf
   exact⟨li0 rfl,leG⟩
  conv=>whnf
  refine brI (fun _=>?_) (fun c=>?_)
  ·conv=>whnf
   exact⟨li0 rfl,leG⟩
  have c:((x.length:Int) != t.ins)=false:=c
  have c:(x.length:Int)=t.ins:=by simpa using c
  cases b with
  |true=>exact absurd ⟨rfl,c⟩ hv
  |false=>
   conv=>whnf
   refine gZn h21 ?_;conv=>whnf
   exact⟨li0 rfl,leG⟩
 rw[hv.1]at h21
 have e:zqk t x p=t.outs.map (gI (zbt p t.ops x)):=by unfold zqk;rw[if_pos hv]
 have e2:zo9 t x p=zbt p t.ops x:=by unfold zo9;rw[if_pos hv]
 obtain⟨⟨a1,a2,a3,a4⟩,hob,hout⟩:=zh3 hv.1
 have hLl:(zbt p t.ops x).length =x.length+t.ops.length:=zet _ _ _
 rw[e2]at h7
 rw[e]
 have hl:=hv.2
 generalize zbt p t.ops x=L at*
 obtain⟨M,hM⟩: ∃M,t.outs.map (gI L)=M:=⟨_,rfl⟩
 have hMl:M.length=t.outs.length:=by rw[←hM];simp
 have hMs: ∀i k,t.outs[i]? =some k→M.take (i+1)=M.take i++ [gI L k]:=fun i k h=>by
  rw[List.take_add_one,←hM,List.getElem?_map,h];rfl
 rw[hM]
 clear hM e e2 hob
 refine fnT hTJ hmx Tryz.func8 rfl rfl (ex:= []) ?_;conv=>whnf
 refine gZc h7 ?_;conv=>whnf
 refine brI (fun c=>?_) (fun _=>?_)
 ·have c:=of_decide_eq_true c
  rw[wI (by omega)]at c
  omega
 conv=>whnf
 refine brI (fun c=>?_) (fun _=>?_)
 ·have c:((x.length:Int) != t.ins)=true:=c
  rw[hl]at c;simp at c
 conv=>whnf
 refine gZn h21 ?_;conv=>whnf
 refine⟨Nat,fun i=>i≤t.outs.length,fun i=> [(39,.int .i64 i),(8,.own 49)],fun i=> [(49,.buf 35 .iv (M.take i))],fun i=>t.outs.length-i,0,Nat.zero_le _,?_,fun i hi=>?_⟩
 ·((conv=>whnf);refine And.intro ?_ ?_;repeat' first|refine lc ?_ ?_|exact la0|exact lr rfl|exact ln0|refine lh1 ?_ ?_|exact lh0|exact bf0|exact bd0|refine bc0 ?_|exact bm0 rfl|exact bb0 rfl|exact bg0 rfl|exact li0 rfl|refine lg0 ?_|refine lt0 ?_|fail)
  ·exact trivial
  ·exact⟨rfl,rfl⟩
 (refine⟨by kernel_rfl,?_⟩;(conv=>whnf))
 refine brI (fun c=>?_) (fun c=>?_)
 ·have c:=of_decide_eq_true c
  have hi:i<t.outs.length:=by omega
  conv=>whnf
  refine⟨⟨by omega,by omega⟩,fun(k:Int) hk=>?_⟩
  have hk:t.outs[i]? =some k:=by simpa using hk
  have hs:=hMs i k hk
  obtain⟨k1,k2⟩:=hout k (List.mem_of_getElem? hk)
  have gk:=zki (vs:=L) k1 (by omega)
  generalize gI L k=A at*
  conv=>whnf
  refine⟨⟨by omega,by omega⟩,fun(A':Iv) hA'=>?_⟩
  obtain rfl:A=A':=by
   have hA':L[k.toNat]? =some A':=hA'
   rw[gk]at hA';exact Option.some.inj hA'
  conv=>whnf
  refine⟨by simp;omega,?_⟩;conv=>whnf
  refine⟨i+1,by omega,by show t.outs.length-(i+1)<t.outs.length-i;omega,?_⟩
  ((conv=>whnf);refine And.intro ?_ ?_;repeat' first|refine lc ?_ ?_|exact la0|exact lr rfl|exact ln0|refine lh1 ?_ ?_|exact lh0|exact bf0|exact bd0|refine bc0 ?_|exact bm0 rfl|exact bb0 rfl|exact bg0 rfl|exact li0 rfl|refine lg0 ?_|refine lt0 ?_|fail)
  ·exact ai0 (by rw[wI (by omega)];omega)
  ·exact bb0 hs.symm
 ·have c:=of_decide_eq_false c
  conv=>whnf
  exact⟨yj (by rw[List.take_of_length_le (by omega)]),leG⟩
end Go.Proofs.YtlocddfailmnpaaGreatDoor

namespace Go.Proofs.YtlocddfailmnpaaGreatDoor
open Go Go.Sx
set_option maxRecDepth 100000
set_option maxHeartbeats 8000000
def bdV (y:Iv):Bool:= !viB y
theorem j17 (y:Iv) (hy:RI y):Fn 17 [] [.agg (ivC y)] (.bool (bdV y)) []:=by
 have h:=i51 y hy
 unfold bdV
 generalize viB y=b at*
 cases b
 all_goals
  refine fnT hTJ hmx Tryz.func17 rfl rfl (ex:= []) ?_;conv=>whnf
  refine gZn h ?_;conv=>whnf
  exact⟨lr rfl,lh0⟩
theorem j61 (l:List Iv) (hl: ∀y∈l,RI y) (hlen:l.length<9223372036854775808):Fn 61 [] [.sl .iv l,.fn 17 []] (.int .i64 (ixP bdV l 0)) []:=by
 refine fnT hTJ hmx Tryz.func61 rfl rfl (ex:= []) ?_;conv=>whnf
 refine⟨Nat,fun i=>i≤l.length∧ixP bdV (l.drop i) i=ixP bdV l 0,fun i=> [(8,.int .i64 i)],fun _=> [],fun i=>l.length-i,0,⟨by simp,rfl⟩,?_,fun i hi=>?_⟩
 ·((conv=>whnf);refine And.intro ?_ ?_;repeat' first|refine lc ?_ ?_|exact la0|exact lr rfl|exact ln0|refine lh1 ?_ ?_|exact lh0|exact bf0|exact bd0|refine bc0 ?_|exact bm0 rfl|exact bg0 rfl|exact li0 rfl|refine lg0 ?_|refine lt0 ?_|fail)
 (refine⟨by kernel_rfl,?_⟩;(conv=>whnf))
 obtain⟨hi1,hi2⟩:=hi
 refine brI (fun h1=>?_) (fun h1=>?_)
 ·conv=>whnf
  have hi:i<l.length:=by simp only[decide_eq_true_eq]at h1;omega
  refine⟨⟨by omega,by omega⟩,fun(x:Iv) hx=>?_⟩
  have hx:l[i]? =some x:=by simpa using hx
  have hm:=List.mem_of_getElem? hx
  rw[qp hx]at hi2
  simp only[ixP]at hi2
  conv=>whnf
  refine cbI [] (bdV x) (j17 x (hl x hm)) (fun h2=>?_) (fun h2=>?_)
  ·conv=>whnf
   rw[if_pos h2]at hi2
   exact⟨ai0 hi2,lh0⟩
  ·conv=>whnf
   rw[if_neg (by rw[h2];simp)]at hi2
   refine⟨i+1,⟨by omega,hi2⟩,by show l.length-(i+1)<l.length-i;omega,?_⟩
   ((conv=>whnf);refine And.intro ?_ ?_;repeat' first|refine lc ?_ ?_|exact la0|exact lr rfl|exact ln0|refine lh1 ?_ ?_|exact lh0|exact bf0|exact bd0|refine bc0 ?_|exact bm0 rfl|exact bg0 rfl|exact li0 rfl|refine lg0 ?_|refine lt0 ?_|fail)
   exact ai0 (by rw[wI (by omega)];omega)
 ·conv=>whnf
  have hi: ¬i<l.length:=by simp only[decide_eq_false_iff_not]at h1;omega
  rw[List.drop_of_length_le (by omega)]at hi2
  exact⟨ai0 hi2,lh0⟩
theorem j16 (l:List Iv) (hl: ∀y∈l,RI y) (hlen:l.length<9223372036854775808):Fn 16 [] [.sl .iv l,.fn 17 []] (.bool (l.any bdV)) []:=by
 refine fnT hTJ hmx Tryz.func16 rfl rfl (ex:= []) ?_;conv=>whnf
 refine gZn (j61 l hl hlen) ?_;conv=>whnf
 exact⟨ab0 (by rw[Bool.eq_iff_iff,decide_eq_true_eq];exact zac bdV l 0),lh0⟩
noncomputable def zx2:Code:=Tryz.f4.body.getD .skip
theorem j4r (l:List Ex) (ns:List zf) (x:List Iv) (p:Int) (hl: ∀y∈l,Sm y) (hll:l.length<9223372036854775808) (hns: ∀s∈ns,s.length<9223372036854775808) (hnl:ns.length<9223372036854775808)
 (hx: ∀y∈x,RI y) (hxl:x.length<9223372036854775808):
 SemOK Tryz.prog TJ Tryz.f4.results.toList [] (.bool true) G0 (zkt 3 zx2) ⟨[.sl .ex l,.sl .str ns,.sl .iv x,.int .i64 p]++zen 91,[(9,.free),(qt,.gst JT)]⟩:=by
 have h15:=f46 l ns hl hll hns hnl
 obtain⟨t,e,hA⟩: ∃t e,cpE l ns=(t,e):=⟨_,_,rfl⟩
 by_cases he:e=0
 rotate_left
 ·have ht:=qer (l:=l) (ns:=ns) (by rw[hA];exact he)
  rw[hA]at ht h15
  have ht:t=tp0:=ht
  subst ht
  clear hA
  refine jr hTJ hmx ?_;conv=>whnf
  refine gZn h15 ?_;conv=>whnf
  refine brI (fun _=>?_) (fun c=>?_)
  ·conv=>whnf
   exact⟨lr rfl,leG⟩
  ·have c:(e != 0)=false:=c
   exact absurd (by simpa using c) he
 subst he
 rw[hA]at h15
 obtain⟨b1,b2,b3,b4,b5,b6⟩:=ze5 hA
 have hins:t.ins=ns.length:=by rw[b6]
 obtain⟨⟨a1,a2,a3,a4⟩,_,_⟩:=zh3 b1
 have h7:=j7 t x p (by omega) (by omega) hx hxl
 have h8:=j8 t x p (by omega) (by omega) hx hxl
 by_cases hn:x.length=ns.length
 rotate_left
 ·obtain⟨e1,e2⟩:=zy7 (p:=p) (t:=t) (xs:=x) (by rw[hins];omega)
  rw[e1]at h8
  rw[e2]at h7
  refine jr hTJ hmx ?_;conv=>whnf
  refine gZn h15 ?_;conv=>whnf
  refine gZc h8 ?_;conv=>whnf
  refine brI (fun _=>?_) (fun c=>?_)
  ·conv=>whnf
   refine gZc h7 ?_;conv=>whnf
   exact⟨lr rfl,leG⟩
  ·have c:((x.length:Int) != (ns.length:Int))=false:=c
   have c:(x.length:Int)=ns.length:=by simpa using c
   omega
 have hrl:=zvc (p:=p) hA hn
 have hlaw:=fun hp hv=>zvd (p:=p) hA hn hp hv
 have h16:=j16 x hx hxl
 have h19:=fun hp=>x18 l hl hp ns x hx hnl hxl p
 have h10:=j10 (l.map fun e=>zmy fxA e ns x p) (fun y hy=>by
  obtain⟨w,_,rfl⟩:=List.mem_map.1 hy
  exact qfo w ns x hx p) (by simpa using hll)
 clear hA b6
 generalize zqk t x p=G at*
 generalize (l.map fun e=>zmy fxA e ns x p)=V at*
 refine jr hTJ hmx ?_;conv=>whnf
 refine gZn h15 ?_;conv=>whnf
 refine gZc h8 ?_;conv=>whnf
 refine brI (fun c=>?_) (fun _=>?_)
 ·have c:((x.length:Int) != (ns.length:Int))=true:=c
  rw[hn]at c;simp at c
 conv=>whnf
 refine brI (fun c=>?_) (fun _=>?_)
 ·have c:((G.length:Int) != (l.length:Int))=true:=c
  rw[hrl]at c;simp at c
 conv=>whnf
 refine brI (fun c1=>?_) (fun c1=>?_)
 rotate_left
 ·conv=>whnf
  exact⟨lr rfl,leG⟩
 conv=>whnf
 refine brI (fun c2=>?_) (fun c2=>?_)
 rotate_left
 ·conv=>whnf
  exact⟨lr rfl,leG⟩
 conv=>whnf
 refine cbI [] (x.any bdV) h16 (fun c3=>?_) (fun c3=>?_)
 ·conv=>whnf
  exact⟨lr rfl,leG⟩
 have c1:=of_decide_eq_true c1
 have c2:=of_decide_eq_true c2
 have hp:pcB p=true:=by unfold pcB;simp;omega
 have hv: ∀y∈x,viB y=true:=fun y hy=>by
  have:=List.any_eq_false.1 c3 y hy
  simpa[bdV]using this
 obtain rfl:=hlaw hp hv
 conv=>whnf
 refine gZc (h19 (by omega)) ?_;conv=>whnf
 refine gZn h10 ?_;conv=>whnf
 exact⟨lr rfl,leG⟩
theorem j4 (l:List Ex) (ns:List zf) (x:List Iv) (p:Int) (hl: ∀y∈l,Sm y) (hll:l.length<9223372036854775808) (hns: ∀s∈ns,s.length<9223372036854775808) (hnl:ns.length<9223372036854775808)
 (hx: ∀y∈x,RI y) (hxl:x.length<9223372036854775808):
 Fn 4 G0 [.sl .ex l,.sl .str ns,.sl .iv x,.int .i64 p] (.bool true) G0:=by
 have h14:=f45 l
 generalize (decide (8<l.length)&&decide (l.length≤200))=b at h14
 refine wv (code:=zx2) hTJ hmx Tryz.func4 rfl rfl (ex:= []) ?_;conv=>whnf
 refine ku hTJ hmx 3 (fun _:Unit=>⟨[.sl .ex l,.sl .str ns,.sl .iv x,.int .i64 p]++zen 91,[(9,.free),(qt,.gst JT)]⟩) (fun _=>by kernel_rfl) ?_ (fun _=>j4r l ns x p hl hll hns hnl hx hxl)
 conv=>whnf
 refine gZn f40 ?_;conv=>whnf
 refine cbI [] b h14 (fun _=>?_) (fun _=>?_)
 all_goals conv=>whnf
 ·exact⟨lr rfl,leG⟩
 repeat' first
  |(refine brI (fun h=>?_) (fun h=>?_)<;>(conv=>whnf))
  |exact⟨lr rfl,leG⟩
  |refine⟨(),?_⟩
  |fail
 all_goals ((conv=>whnf);refine And.intro ?_ ?_;repeat' first|refine lc ?_ ?_|exact la0|exact lr rfl|exact ln0|refine lh1 ?_ ?_|exact lh0|exact bf0|exact bd0|refine bc0 ?_|exact bm0 rfl|exact bb0 rfl|exact bg0 rfl|exact li0 rfl|refine lg0 ?_|refine lt0 ?_|fail)
end Go.Proofs.YtlocddfailmnpaaGreatDoor
