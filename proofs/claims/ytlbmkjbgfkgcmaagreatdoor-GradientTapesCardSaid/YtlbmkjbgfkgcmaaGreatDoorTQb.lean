/- gradient.rules: the rule of each kind of operation. -/
import Derived.Test.YtlbmkjbgfkgcmaaGreatDoorTZy
import Derived.Test.YtlbmkjbgfkgcmaaGreatDoorTJa
set_option linter.all false
open And renaming intro->q2
open Bool renaming and_eq_true->q1
open List renaming mem_of_getElem?->q0,length_append->q3,length_cons->q4,length_take->qA,take_add_one->qB,length_nil->qC
namespace Go.Proofs.YtlbmkjbgfkgcmaaGreatDoor
open Go Go.Sx
set_option maxRecDepth 100000
set_option maxHeartbeats 8000000
def TQ:Tab:= {TJ with ty:=(88,⟨9,1,[],3,0,93,none,.i64,[.nilm],8,false⟩)::TJ.ty,gl:=4::5::55::8::21::22::28::35::51::69::121::122::123::124::125::126::127::128::129::130::131::132::TJ.gl,nb:=(68,1)::TJ.nb}
theorem hTQ:TabOK Tryz.prog TQ:=zmp qa3 key3 Z Z
def nuI(n:Int):Iv:=qt (wg n)
def ndC(o:TOp)(v a b da db:Iv)(p:Int):List AV:=Elt.op.cells o++ivC v++ivC a++ivC b++ivC da++ivC db++ [.int .i64 p]
theorem zq0{n:Int}(h: -4611686018427387904<=n/\n<=4611686018427387904):RI (nuI n):=(show CI (nuI n)from .inr ⟨rfl,wu n h,wu n h⟩).ri
theorem q69(n:Int)(h: -4611686018427387904<=n/\n<=4611686018427387904):Fn 69 G0 [.int .i64 n] (.agg (ivC (nuI n))) G0:=by
 have h1:=v77 n h;have h2:=zyr (wu n h);refine fnT hTQ hmx Tryz.func69 rfl rfl (ex:= []) ?_;conv=>whnf
 refine gYc h1 ?_;refine gYn h2 ?_;exact⟨lr rfl,leG⟩
section
variable (o:TOp) (v a b da db:Iv) (p:Int) (rv:RI v) (ra:RI a) (rb:RI b) (rda:RI da) (rdb:RI db)
include rda rdb in
theorem q122:Fn 122 G0 [.agg (ndC o v a b da db p),.rp .f0 57 0] (.agg (ivC (kp da db p))) G0:=by
 have h0:=i82 da db rda rdb p;refine fnT hTQ hmx Tryz.func122 rfl rfl (ex:= []) ?_;conv=>whnf
 refine gYc h0 ?_;exact⟨lr rfl,leG⟩
include rda rdb in
theorem q123:Fn 123 G0 [.agg (ndC o v a b da db p),.rp .f0 59 0] (.agg (ivC (zes da db p))) G0:=by
 have h0:=i83 da db rda rdb p;refine fnT hTQ hmx Tryz.func123 rfl rfl (ex:= []) ?_;conv=>whnf
 refine gYc h0 ?_;exact⟨lr rfl,leG⟩
include rda in
theorem q124:Fn 124 G0 [.agg (ndC o v a b da db p)] (.agg (ivC (zbm da))) G0:=by
 have h0:=i86 da rda;refine fnT hTQ hmx Tryz.func124 rfl rfl (ex:= []) ?_;conv=>whnf
 refine gYn h0 ?_;exact⟨lr rfl,leG⟩
include ra rb rda rdb in
theorem q125:Fn 125 G0 [.agg (ndC o v a b da db p),.rp .f0 57 0,.rp .f0 58 0] (.agg (ivC (kp (ja da b p) (ja a db p) p))) G0:=by
 have h0:=i84 da b rda rb p;have h1:=i84 a db ra rdb p;have h2:=i82 _ _ (zbd da b p).ri (zbd a db p).ri p;refine fnT hTQ hmx Tryz.func125 rfl rfl (ex:= []) ?_;conv=>whnf
 refine gYc h0 ?_;refine gYc h1 ?_;refine gYc h2 ?_;refine gYd ?_;exact⟨lr rfl,leG⟩
include rv rb rda rdb in
theorem q126:Fn 126 G0 [.agg (ndC o v a b da db p),.rp .f0 114 0,.rp .f0 59 0,.rp .f0 58 0] (.agg (ivC (uq (zes da (ja v db p) p) b p))) G0:=by
 have h0:=i84 v db rv rdb p;have h1:=i83 da _ rda (zbd v db p).ri p;have h2:=i85 (zes da (ja v db p) p) b (zax _ _ _).ri rb p;refine fnT hTQ hmx Tryz.func126 rfl rfl (ex:= []) ?_;conv=>whnf
 refine gYc h0 ?_;refine gYc h1 ?_;refine gYc h2 ?_;refine gYd ?_;exact⟨lr rfl,leG⟩
include rv rda in
theorem q128:Fn 128 G0 [.agg (ndC o v a b da db p),.rp .f0 58 0] (.agg (ivC (ja v da p))) G0:=by
 have h0:=i84 v da rv rda p;refine fnT hTQ hmx Tryz.func128 rfl rfl (ex:= []) ?_;conv=>whnf
 refine gYc h0 ?_;exact⟨lr rfl,leG⟩
include ra rda in
theorem q129:Fn 129 G0 [.agg (ndC o v a b da db p),.rp .f0 114 0] (.agg (ivC (uq da a p))) G0:=by
 have h0:=i85 da a rda ra p;refine fnT hTQ hmx Tryz.func129 rfl rfl (ex:= []) ?_;conv=>whnf
 refine gYc h0 ?_;exact⟨lr rfl,leG⟩
include ra rda in
theorem q130:Fn 130 G0 [.agg (ndC o v a b da db p),.rp .f0 58 0] (.agg (ivC (ja (ciI a true p) da p))) G0:=by
 have h0:=c36 a ra p;have h1:=i84 _ da (zx0 ra true p).ri rda p;refine fnT hTQ hmx Tryz.func130 rfl rfl (ex:= []) ?_;conv=>whnf
 refine gYc h0 ?_;refine gYc h1 ?_;refine gYd ?_;exact⟨lr rfl,leG⟩
include ra rda in
theorem q131:Fn 131 G0 [.agg (ndC o v a b da db p),.rp .f0 58 0] (.agg (ivC (zbm (ja (ciI a false p) da p)))) G0:=by
 have h0:=c35 a ra p;have h1:=i84 _ da (zx0 ra false p).ri rda p;have h2:=i86 _ (zbd (ciI a false p) da p).ri;refine fnT hTQ hmx Tryz.func131 rfl rfl (ex:= []) ?_;conv=>whnf
 refine gYc h0 ?_;refine gYc h1 ?_;refine gYn h2 ?_;refine gYd ?_;exact⟨lr rfl,leG⟩
include rv rda in
theorem q132:Fn 132 G0 [.agg (ndC o v a b da db p),.rp .f0 114 0] (.agg (ivC (uq da (wj v 1) p))) G0:=by
 have h0:=i191 v rv 1;have h1:=i85 da _ rda (zp4 v 1).ri p;refine fnT hTQ hmx Tryz.func132 rfl rfl (ex:= []) ?_;conv=>whnf
 refine gYc h0 ?_;refine gYc h1 ?_;refine gYd ?_;exact⟨lr rfl,leG⟩
include ra rda in
theorem q127(hn:0<=o.n/\o.n<=1000000):Fn 127 G0 [.agg (ndC o v a b da db p),.rp .f0 58 0] (.agg (ivC (if o.n=0 then ja (nuI 0) da p else ja (ja (nuI o.n) (zhw a (o.n-1) p) p) da p))) G0:=by
 by_cases h0:o.n=0
 .rw[Z6 h0];have h1:=q69 0 O;have h2:=i84 _ da (zq0 (n:=0) O) rda p;obtain⟨k,oa,ob,n,c⟩:=o;have h0:n=0:=h0;subst h0;refine fnT hTQ hmx Tryz.func127 rfl rfl (ex:= []) ?_;conv=>whnf
  refine gYc h1 ?_;refine gYc h2 ?_;refine gYd ?_;exact⟨lr rfl,leG⟩
 .rw[Z7 h0];have h1:=q69 o.n O;have h2:=i87 a ra (o.n-1) p;have h3:=i84 _ _ (zq0 (n:=o.n) O) (zu7 a (o.n-1) p).ri p;have h4:=i84 _ da (zbd (nuI o.n) (zhw a (o.n-1) p) p).ri rda p;have hw:IntKind.i64.wrap (o.n-1)=o.n-1:=wI O;refine fnT hTQ hmx Tryz.func127 rfl rfl (ex:= []) ?_;conv=>whnf
  refine brI (fun h=>absurd (Z0 h) h0) (fun _=>?_);conv=>whnf
  refine gYc h1 ?_;rw[hw];refine gYc h2 ?_;refine gYc h3 ?_;refine gYc h4 ?_;refine gYd ?_;exact⟨lr rfl,leG⟩
end
def ruL:List (Int×Option (Nat×List Nat)):= [(1,some (121,[])),(3,some (122,[57])),(4,some (123,[59])),(7,some (124,[])),(5,some (125,[57,58])),(6,some (126,[114,59,58])),(8,some (127,[58])),(9,some (128,[58])),(10,some (129,[114])),(11,some (130,[58])),(12,some (131,[58])),(13,some (132,[114]))]
noncomputable def qfy:Code:=Tryz.f68.body.getD .skip
theorem q68:Fn 68 [] [] (.mp 2000000) [(2000000,.map .int .fk ruL)]:=by
 refine qr (code:=qfy) hTQ hmx Tryz.func68 rfl rfl (ex:= [5]) ?_;conv=>whnf
 refine jm hTQ hmx 2 (fun _:Unit=>⟨[.any,.ptr 1 0,.ptr 2 0,.ptr 3 0,.ptr 4 0]++uo 12,[(1,.cells [.fn 58 []]),(2,.cells [.fn 114 []]),(3,.cells [.fn 57 []]),(4,.cells [.fn 59 []]),(5,.free)]⟩) (fun _=>Z) ?_ (fun _=>?_)
 .conv=>whnf
  refine⟨(),?_⟩;exact KZ0
 refine za1 1 1 58 Z ?_;refine za1 2 2 114 Z ?_;refine za1 3 3 57 Z ?_;refine za1 4 4 59 Z ?_;refine ww hTQ hmx ?_;conv=>whnf
 exact⟨lr rfl,lh1 (bm0 rfl) lh0⟩
def ruS(k n:Int)(v a b da db:Iv)(p:Int):Iv:=
 if k=3 then kp da db p else if k=4 then zes da db p else if k=5 then kp (ja da b p) (ja a db p) p else if k=6 then uq (zes da (ja v db p) p) b p else if k=7 then zbm da else
 if k=8 then(if n=0 then ja (nuI 0) da p else ja (ja (nuI n) (zhw a (n-1) p) p) da p)else if k=9 then ja v da p else if k=10 then uq da a p else if k=11 then ja (ciI a true p) da p else
 if k=12 then zbm (ja (ciI a false p) da p)else uq da (wj v 1) p
def coO(p:Int)(vs:List Iv)(o:TOp)(cs:List Iv):Iv:=
 if(gI vs cs.length).all =true then wI0 else if o.k=1 then nuI 0 else ruS o.k o.n (gI vs cs.length) (gI vs o.a) (gI vs o.b) (gI cs o.a) (gI cs o.b) p
def coL(p:Int)(vs:List Iv):List TOp->List Iv->List Iv
 | [],cs=>cs
 |o::l,cs=>coL p vs l (cs++ [coO p vs o cs])
def coI(n:Nat)(i:Int):List Iv:=(List.range n).map fun(k:Nat)=>nuI (if(k:Int)=i then 1 else 0)
def coS(t:Tp)(vs:List Iv)(i p:Int):List Iv:=coL p vs t.ops (coI t.ins.toNat i)
theorem zkm(p:Int)(vs:List Iv)(o:TOp):∀(l:List TOp)(cs:List Iv),coL p vs (l++ [o]) cs=coL p vs l cs++ [coO p vs o (coL p vs l cs)]
 | [],cs=>rfl
 |x::l,cs=>by simp only[List.cons_append,coL,zkm p vs o l]
theorem ze6(p:Int)(vs:List Iv):∀(l:List TOp)(cs:List Iv),(coL p vs l cs).length =cs.length+l.length
 | [],cs=>rfl
 |x::l,cs=>by simp only[coL,ze6 p vs l,q3,q4,qC];omega
theorem RI_ru(k n:Int)(v a b:Iv){da:Iv}(db:Iv)(p:Int)(ra:RI a)(rda:RI da):RI (ruS k n v a b da db p):=by
 unfold ruS
 repeat' split
 all_goals first|exact(zax _ _ _).ri |exact(zbd _ _ _).ri |exact(zva _ _ _).ri |exact(zp5 rda).ri |exact(zp5 (zbd _ _ _).ri).ri
theorem qgg(b:Prop)[Decidable b]:RI (nuI (if b then 1 else 0)):=by split<;>exact zq0 O
theorem zug(n:Nat)(i:Int):∀y∈coI n i,RI y:=fun y hy=>by
 obtain⟨k,_,rfl⟩:=List.mem_map.1 hy;exact qgg _
theorem zto{o:TOp}{n:Int}(h:tB o n=true):o.k=1\/((o.k=3\/o.k=4\/o.k=5\/o.k=6\/o.k=7\/o.k=8\/o.k=9\/o.k=10\/o.k=11\/o.k=12\/o.k=13)/\(0<=o.a/\o.a<n)/\(0<=o.b/\o.b<n)/\0<=o.n/\o.n<=16):=by
 unfold tB at h;split at h
 .rename_i h1;exact .inl h1
 split at h
 .simp only[q1,ibO,Z4,beq_iff_eq]at h;exact .inr ⟨O,h.1,h.2.1,O,O⟩
 split at h
 .simp only[q1,ibO,Z4,beq_iff_eq]at h;exact .inr ⟨O,h.1,⟨O,O⟩,O,O⟩
 split at h
 .simp only[q1,ibO,Z4,beq_iff_eq]at h;exact .inr ⟨O,h.1,⟨O,O⟩,O,O⟩
 .cases h
theorem RI_co{p:Int}{vs:List Iv}{o:TOp}{cs:List Iv}(hv:∀y∈vs,RI y)(hc:∀y∈cs,RI y)(ho:tB o cs.length=true)(hl:cs.length<=vs.length):RI (coO p vs o cs):=by
 unfold coO;split
 .exact zhu.ri
 split
 .exact zq0 O
 .rename_i h1;have ha:0<=o.a/\o.a<cs.length:=((zto ho).resolve_left h1).2.1;exact RI_ru _ _ _ _ _ _ _ (hv _ (q0 (wx ha.1 O))) (hc _ (q0 (wx ha.1 ha.2)))
theorem zps{p:Int}{vs:List Iv}(hv:∀y∈vs,RI y):∀ {l:List TOp}{cs:List Iv},zfm l cs.length=true->(∀y∈cs,RI y)->cs.length+l.length<=vs.length->∀y∈coL p vs l cs,RI y
 | [],cs,_,hc,_=>hc
 |o::l,cs,ho,hc,hl=>by
  simp only[zfm,q1]at ho;simp only[q4]at hl;refine zps hv (l:=l) (cs:=cs++ [coO p vs o cs]) ?_ ?_ ?_
  .rw[q3];simpa using ho.2
  .intro y hy;rcases List.mem_append.1 hy with h|h
   .exact hc y h
   .obtain rfl:=List.mem_singleton.1 h;exact RI_co hv hc ho.1 O
  .simp only[q3,q4,qC];omega
abbrev z7C:List AV:= [.bool false,.nilsl,.int .i64 0,.bool false,.nilsl,.int .i64 0,.bool false]
theorem q121z(o:TOp)(v:Iv)(p:Int):Fn 121 G0 [.agg (Elt.op.cells o++ivC v++z7C++z7C++z7C++z7C++ [.int .i64 p])] (.agg (ivC (nuI 0))) G0:=by
 have h1:=q69 0 O;refine fnT hTQ hmx Tryz.func121 rfl rfl (ex:= []) ?_;conv=>whnf
 refine gYc h1 ?_;exact⟨lr rfl,leG⟩
theorem qdy{o:TOp}(hk:o.k=3\/o.k=4\/o.k=5\/o.k=6\/o.k=7\/o.k=8\/o.k=9\/o.k=10\/o.k=11\/o.k=12\/o.k=13)(hn:0<=o.n/\o.n<=16)(v a b da db:Iv)(p:Int)(rv:RI v)(ra:RI a)(rb:RI b)(rda:RI da)(rdb:RI db):
 (zj3 .int o.k none ruL=some (122,[57])/\Fn 122 G0 [.agg (ndC o v a b da db p),.rp .f0 57 0] (.agg (ivC (ruS o.k o.n v a b da db p))) G0)\/
 (zj3 .int o.k none ruL=some (123,[59])/\Fn 123 G0 [.agg (ndC o v a b da db p),.rp .f0 59 0] (.agg (ivC (ruS o.k o.n v a b da db p))) G0)\/
 (zj3 .int o.k none ruL=some (125,[57,58])/\Fn 125 G0 [.agg (ndC o v a b da db p),.rp .f0 57 0,.rp .f0 58 0] (.agg (ivC (ruS o.k o.n v a b da db p))) G0)\/
 (zj3 .int o.k none ruL=some (126,[114,59,58])/\Fn 126 G0 [.agg (ndC o v a b da db p),.rp .f0 114 0,.rp .f0 59 0,.rp .f0 58 0] (.agg (ivC (ruS o.k o.n v a b da db p))) G0)\/
 (zj3 .int o.k none ruL=some (124,[])/\Fn 124 G0 [.agg (ndC o v a b da db p)] (.agg (ivC (ruS o.k o.n v a b da db p))) G0)\/
 (zj3 .int o.k none ruL=some (127,[58])/\Fn 127 G0 [.agg (ndC o v a b da db p),.rp .f0 58 0] (.agg (ivC (ruS o.k o.n v a b da db p))) G0)\/
 (zj3 .int o.k none ruL=some (128,[58])/\Fn 128 G0 [.agg (ndC o v a b da db p),.rp .f0 58 0] (.agg (ivC (ruS o.k o.n v a b da db p))) G0)\/
 (zj3 .int o.k none ruL=some (129,[114])/\Fn 129 G0 [.agg (ndC o v a b da db p),.rp .f0 114 0] (.agg (ivC (ruS o.k o.n v a b da db p))) G0)\/
 (zj3 .int o.k none ruL=some (130,[58])/\Fn 130 G0 [.agg (ndC o v a b da db p),.rp .f0 58 0] (.agg (ivC (ruS o.k o.n v a b da db p))) G0)\/
 (zj3 .int o.k none ruL=some (131,[58])/\Fn 131 G0 [.agg (ndC o v a b da db p),.rp .f0 58 0] (.agg (ivC (ruS o.k o.n v a b da db p))) G0)\/
 (zj3 .int o.k none ruL=some (132,[114])/\Fn 132 G0 [.agg (ndC o v a b da db p),.rp .f0 114 0] (.agg (ivC (ruS o.k o.n v a b da db p))) G0):=by
 rcases hk with hk|hk|hk|hk|hk|hk|hk|hk|hk|hk|hk
 .exact .inl ⟨by rw[hk];rfl,by unfold ruS;rw[hk];exact q122 o v a b da db p rda rdb⟩
 .exact .inr (.inl ⟨by rw[hk];rfl,by unfold ruS;rw[hk];exact q123 o v a b da db p rda rdb⟩)
 .exact .inr (.inr (.inl ⟨by rw[hk];rfl,by unfold ruS;rw[hk];exact q125 o v a b da db p ra rb rda rdb⟩))
 .exact .inr (.inr (.inr (.inl ⟨by rw[hk];rfl,by unfold ruS;rw[hk];exact q126 o v a b da db p rv rb rda rdb⟩)))
 .exact .inr (.inr (.inr (.inr (.inl ⟨by rw[hk];rfl,by unfold ruS;rw[hk];exact q124 o v a b da db p rda⟩))))
 .exact .inr (.inr (.inr (.inr (.inr (.inl ⟨by rw[hk];rfl,by unfold ruS;rw[hk];exact q127 o v a b da db p ra rda ⟨hn.1,O⟩⟩)))))
 .exact .inr (.inr (.inr (.inr (.inr (.inr (.inl ⟨by rw[hk];rfl,by unfold ruS;rw[hk];exact q128 o v a b da db p rv rda⟩))))))
 .exact .inr (.inr (.inr (.inr (.inr (.inr (.inr (.inl ⟨by rw[hk];rfl,by unfold ruS;rw[hk];exact q129 o v a b da db p ra rda⟩)))))))
 .exact .inr (.inr (.inr (.inr (.inr (.inr (.inr (.inr (.inl ⟨by rw[hk];rfl,by unfold ruS;rw[hk];exact q130 o v a b da db p ra rda⟩))))))))
 .exact .inr (.inr (.inr (.inr (.inr (.inr (.inr (.inr (.inr (.inl ⟨by rw[hk];rfl,by unfold ruS;rw[hk];exact q131 o v a b da db p ra rda⟩)))))))))
 .exact .inr (.inr (.inr (.inr (.inr (.inr (.inr (.inr (.inr (.inr (⟨by rw[hk];rfl,by unfold ruS;rw[hk];exact q132 o v a b da db p rv rda⟩))))))))))
noncomputable def zy3:Code:=Tryz.f35.body.getD .skip
section
variable (t:Tp) (ht:tvB t=true) (vs:List Iv) (i p:Int) (hv:∀y∈vs,RI y) (hl:(vs.length:Int)=t.ins+t.ops.length)
include ht hv hl in
theorem q35b(n:Nat)(hn:n=4):SemOK Tryz.prog TQ Tryz.f35.results.toList [] (.sl .iv (coS t vs i p)) G0 (zh4 n zy3)
 ⟨[.any,.sl .iv vs,.any,.int .i64 p,.ptr 4 0,.any,.any,.any,.any,.mp 17,.own 31]++uo 84,[(4,.cells (tpC t)),(17,.map .int .fk ruL),(12,.free),(31,.buf 48 .iv (coI t.ins.toNat i)),(100031,.free),(1500031,.free),(14,.free),(15,.free),(16,.free),(92,.dead),(100092,.free),(1500092,.free)]++G0⟩:=by
 subst hn;obtain⟨⟨a1,a2,a3,a4⟩,a5,a6⟩:=wo ht;obtain⟨m,hm⟩:∃m:Nat,t.ins=m:=⟨t.ins.toNat,O⟩;have hm2:t.ins.toNat=m:=O;rw[hm2];obtain⟨L,hL⟩:∃L:Nat->List Iv,L=fun k=>coL p vs (t.ops.take k) (coI m i):=⟨_,rfl⟩
 have cl:(coI m i).length =m:=by simp[coI]
 have L0:coI m i=L 0:=by rw[hL];rfl
 have Ln:coS t vs i p=L t.ops.length:=by rw[hL];simp only[List.take_length];unfold coS;rw[hm2]
 have Ls:∀k o,t.ops[k]? =some o->L (k+1)=L k++ [coO p vs o (L k)]:=fun k o h=>by rw[hL];simp only;rw[qB,h,Option.toList_some,zkm]
 have Ll:∀k,k<=t.ops.length->(L k).length =m+k:=fun k h=>by rw[hL];simp only;rw[ze6,cl,qA];omega
 have Lr:∀k,k<=t.ops.length->∀y∈L k,RI y:=fun k h=>by
  rw[hL];exact zps hv (zal k (by rw[cl,<-hm];exact a5)) (zug _ _) (by rw[cl,qA];omega)
 have Lb:∀k o,t.ops[k]? =some o->tB o (L k).length =true:=fun k o h=>by
  have h1:=(List.getElem?_eq_some_iff.1 h).1;rw[Ll k O];have:=zcd a5 h;rw[hm]at this;simpa using this
 have hru:=fun {o:TOp}hk hn v a b da db rv ra rb rda rdb=> @qdy o hk hn v a b da db p rv ra rb rda rdb
 obtain⟨R,hR⟩:∃R,ruL=R:=⟨_,rfl⟩;have hR1:zj3 .int 1 none R=some (121,[]):=by rw[<-hR];rfl
 rw[hR]at hru;rw[hR,Ln,L0];clear Ln L0 hL cl hR;refine zdt 92 31 Z ?_;conv=>whnf
 refine ww hTQ hmx ?_;conv=>whnf
 refine⟨Nat,fun k=>k<=t.ops.length,fun k=> [(36,.int .i64 k),(10,.own 92)],fun k=> [(14,.free),(15,.free),(16,.free),(92,.buf 48 .iv (L k))],fun k=>t.ops.length-k,0,Nat.zero_le _,?_,fun k hk=>?_⟩
 .exact KZ0
 have hk:k<=t.ops.length:=hk;refine gYe ?_;refine brI (fun c=>?_) (fun c=>?_)
 .have c:=Z0 c;have hk:k<t.ops.length:=O;conv=>whnf
  refine⟨⟨O,O⟩,fun(o:TOp)ho=>?_⟩;have ho:t.ops[k]? =some o:=by simpa using ho
  have hb:=Lb k o ho;have hs:=Ls k o ho;have hr:=Lr k O;have hn:=Ll k O;have hw:IntKind.i64.wrap (t.ins+(k:Int))=t.ins+k:=wI O;obtain⟨V',hV'⟩:∃V',L (k+1)=V':=⟨_,rfl⟩;rw[hV']at hs;generalize L k=V at*;have gv:vs[(t.ins+(k:Int)).toNat]? =some (gI vs V.length):=by
   rw[(O:t.ins+(k:Int)=(V.length:Int))];exact wx O O
  have rv:=hv _ (q0 gv);unfold coO at hs;by_cases k1:o.k=1
  .rw[Z6 k1]at hs;generalize gI vs V.length=v at*;obtain⟨v1,v2,v3⟩:=v;have h0:=q121z o ⟨v1,v2,v3⟩ p;have hg:zj3 .int o.k none R=some (121,[]):=by rw[k1];exact hR1
   cases v3
   .rw[Z7 (OA:¬(false=true))]at hs;conv=>whnf
    rw[hw];refine⟨⟨O,O⟩,fun(y:Iv)hy=>?_⟩;obtain rfl:(⟨v1,v2,false⟩:Iv)=y:=by
     have hy:vs[(t.ins+(k:Int)).toNat]? =some y:=hy;rw[gv]at hy;exact Option.some.inj hy
    conv=>whnf
    refine gYd ?_;refine brI (fun c=>?_) (fun _=>?_)
    .have c:(o.k != 1)=true:=c;rw[k1]at c;simp at c
    conv=>whnf
    rw[hg];conv=>whnf
    refine gYc h0 ?_;refine⟨OE,?_⟩;conv=>whnf
    refine⟨k+1,hk,by show t.ops.length-(k+1)<t.ops.length-k;omega,?_⟩
    ((conv=>whnf);refine q2 ?_ ?_;repeat' first|refine lc ?_ ?_|refine lh1 ?_ ?_|refine bc0 ?_|exact KXZ|refine lg0 ?_|refine lt0 ?_)
    .exact ai0 (by rw[wI O];omega)
    .exact bb0 (by rw[hV'];exact hs.symm)
   .rw[Z6 rfl]at hs;conv=>whnf
    rw[hw];refine⟨⟨O,O⟩,fun(y:Iv)hy=>?_⟩;obtain rfl:(⟨v1,v2,true⟩:Iv)=y:=by
     have hy:vs[(t.ins+(k:Int)).toNat]? =some y:=hy;rw[gv]at hy;exact Option.some.inj hy
    conv=>whnf
    refine gYd ?_;refine brI (fun c=>?_) (fun _=>?_)
    .have c:(o.k != 1)=true:=c;rw[k1]at c;simp at c
    conv=>whnf
    refine⟨OE,?_⟩;conv=>whnf
    refine⟨k+1,hk,by show t.ops.length-(k+1)<t.ops.length-k;omega,?_⟩
    ((conv=>whnf);refine q2 ?_ ?_;repeat' first|refine lc ?_ ?_|refine lh1 ?_ ?_|refine bc0 ?_|exact KXZ|refine lg0 ?_|refine lt0 ?_)
    .exact ai0 (by rw[wI O];omega)
    .exact bb0 (by rw[hV'];exact hs.symm)
  .rw[Z7 k1]at hs;obtain⟨hkk,hoa,hob,hnn⟩:=(zto hb).resolve_left k1;have ga:=wx (vs:=vs) hoa.1 O;have gb:=wx (vs:=vs) hob.1 O;have ca:=wx (vs:=V) hoa.1 hoa.2;have cb:=wx (vs:=V) hob.1 hob.2;have H:=hru hkk hnn (gI vs V.length) (gI vs o.a) (gI vs o.b) (gI V o.a) (gI V o.b) rv (hv _ (q0 ga)) (hv _ (q0 gb)) (hr _ (q0 ca)) (hr _ (q0 cb));generalize gI vs V.length=v at*;generalize gI vs o.a=a at*;generalize gI vs o.b=b at*;generalize gI V o.a=da at*;generalize gI V o.b=db at*;obtain⟨v1,v2,v3⟩:=v;cases v3
   .rw[Z7 (OA:¬(false=true))]at hs;generalize ruS o.k o.n ⟨v1,v2,false⟩ a b da db p=D at*;conv=>whnf
    rw[hw];refine⟨⟨O,O⟩,fun(y:Iv)hy=>?_⟩;obtain rfl:(⟨v1,v2,false⟩:Iv)=y:=by
     have hy:vs[(t.ins+(k:Int)).toNat]? =some y:=hy;rw[gv]at hy;exact Option.some.inj hy
    conv=>whnf
    refine gYd ?_;refine brI (fun _=>?_) (fun c=>?_)
    rotate_left
    .have c:(o.k != 1)=false:=c;exact absurd (by simpa using c) k1
    conv=>whnf
    refine⟨⟨O,O⟩,fun(y:Iv)hy=>?_⟩;obtain rfl:a=y:=by
     have hy:vs[o.a.toNat]? =some y:=hy;rw[ga]at hy;exact Option.some.inj hy
    conv=>whnf
    refine⟨⟨O,O⟩,fun(y:Iv)hy=>?_⟩;obtain rfl:b=y:=by
     have hy:vs[o.b.toNat]? =some y:=hy;rw[gb]at hy;exact Option.some.inj hy
    conv=>whnf
    refine⟨⟨O,O⟩,?_⟩;conv=>whnf
    refine⟨O,fun(y:Iv)hy=>?_⟩;obtain rfl:da=y:=by
     have hy:V[o.a.toNat]? =some y:=hy;rw[ca]at hy;exact Option.some.inj hy
    conv=>whnf
    refine⟨⟨O,O⟩,?_⟩;conv=>whnf
    refine⟨O,fun(y:Iv)hy=>?_⟩;obtain rfl:db=y:=by
     have hy:V[o.b.toNat]? =some y:=hy;rw[cb]at hy;exact Option.some.inj hy
    conv=>whnf
    refine gYd ?_;rcases H with ⟨hm,hq⟩|⟨hm,hq⟩|⟨hm,hq⟩|⟨hm,hq⟩|⟨hm,hq⟩|⟨hm,hq⟩|⟨hm,hq⟩|⟨hm,hq⟩|⟨hm,hq⟩|⟨hm,hq⟩|⟨hm,hq⟩
    all_goals
     rw[hm];conv=>whnf
     refine gYc hq ?_;refine⟨OE,?_⟩;conv=>whnf
     refine⟨k+1,hk,by show t.ops.length-(k+1)<t.ops.length-k;omega,?_⟩
     ((conv=>whnf);refine q2 ?_ ?_;repeat' first|refine lc ?_ ?_|refine lh1 ?_ ?_|refine bc0 ?_|exact KXZ|refine lg0 ?_|refine lt0 ?_)
     .exact ai0 (by rw[wI O];omega)
     .exact bb0 (by rw[hV'];exact hs.symm)
   .rw[Z6 rfl]at hs;clear H;conv=>whnf
    rw[hw];refine⟨⟨O,O⟩,fun(y:Iv)hy=>?_⟩;obtain rfl:(⟨v1,v2,true⟩:Iv)=y:=by
     have hy:vs[(t.ins+(k:Int)).toNat]? =some y:=hy;rw[gv]at hy;exact Option.some.inj hy
    conv=>whnf
    refine gYd ?_;refine brI (fun _=>?_) (fun c=>?_)
    rotate_left
    .have c:(o.k != 1)=false:=c;exact absurd (by simpa using c) k1
    conv=>whnf
    refine⟨⟨O,O⟩,fun(y:Iv)hy=>?_⟩;obtain rfl:a=y:=by
     have hy:vs[o.a.toNat]? =some y:=hy;rw[ga]at hy;exact Option.some.inj hy
    conv=>whnf
    refine⟨⟨O,O⟩,fun(y:Iv)hy=>?_⟩;obtain rfl:b=y:=by
     have hy:vs[o.b.toNat]? =some y:=hy;rw[gb]at hy;exact Option.some.inj hy
    conv=>whnf
    refine⟨⟨O,O⟩,?_⟩;conv=>whnf
    refine⟨O,fun(y:Iv)hy=>?_⟩;obtain rfl:da=y:=by
     have hy:V[o.a.toNat]? =some y:=hy;rw[ca]at hy;exact Option.some.inj hy
    conv=>whnf
    refine⟨⟨O,O⟩,?_⟩;conv=>whnf
    refine⟨O,fun(y:Iv)hy=>?_⟩;obtain rfl:db=y:=by
     have hy:V[o.b.toNat]? =some y:=hy;rw[cb]at hy;exact Option.some.inj hy
    conv=>whnf
    refine gYd ?_;refine⟨OE,?_⟩;conv=>whnf
    refine⟨k+1,hk,by show t.ops.length-(k+1)<t.ops.length-k;omega,?_⟩
    ((conv=>whnf);refine q2 ?_ ?_;repeat' first|refine lc ?_ ?_|refine lh1 ?_ ?_|refine bc0 ?_|exact KXZ|refine lg0 ?_|refine lt0 ?_)
    .exact ai0 (by rw[wI O];omega)
    .exact bb0 (by rw[hV'];exact hs.symm)
 .have c:=Z3 c;obtain rfl:k=t.ops.length:=O;conv=>whnf
  exact⟨lr rfl,leG⟩
include ht hv hl in
theorem q35:Fn 35 G0 [.agg (tpC t),.sl .iv vs,.int .i64 i,.int .i64 p] (.sl .iv (coS t vs i p)) G0:=by
 obtain⟨⟨a1,a2,a3,a4⟩,a5,a6⟩:=wo ht;have rest:=q35b t ht vs i p hv hl 4 rfl;obtain⟨m,hm⟩:∃m:Nat,t.ins=m:=⟨t.ins.toNat,O⟩;have hm2:t.ins.toNat=m:=O;rw[hm2]at rest;obtain⟨C,hC⟩:∃C:Nat->List Iv,C=fun k=>(coI m i).take k:=⟨_,rfl⟩
 have cl:(coI m i).length =m:=by simp[coI]
 have Cn:C m=coI m i:=by rw[hC];exact List.take_of_length_le O
 have C0:C 0= []:=by rw[hC];rfl
 have Cl:∀k,(C k).length <=8:=fun k=>by rw[hC];simp only[qA];omega
 have Cs:∀k,k<m->C (k+1)=C k++ [nuI (if(k:Int)=i then 1 else 0)]:=fun k h=>by
  rw[hC];simp only;rw[qB];congr 1;simp[coI,h]
 clear hC;have h68:=q68;have h0:=q69 0 O;have h1:=q69 1 O;generalize ruL=R at*;generalize coS t vs i p=S at*;rw[<-Cn]at rest;refine qr (code:=zy3) hTQ hmx Tryz.func35 rfl rfl (ex:= []) ?_;conv=>whnf
 refine jm hTQ hmx 4 (fun _:Unit=>⟨[.any,.sl .iv vs,.any,.int .i64 p,.ptr 4 0,.any,.any,.any,.any,.mp 17,.own 31]++uo 84,[(4,.cells (tpC t)),(17,.map .int .fk R),(12,.free),(31,.buf 48 .iv (C m)),(100031,.free),(1500031,.free),(14,.free),(15,.free),(16,.free),(92,.dead),(100092,.free),(1500092,.free)]++G0⟩) (fun _=>Z) ?_ (fun _=>rest);clear rest Cn;conv=>whnf
 refine⟨[],[.map .int .fk R],.mp 2000000,h68,?_⟩;conv=>whnf
 refine⟨Nat,fun k=>k<=m,fun k=> [(20,.int .i64 k),(10,.own 31)],fun k=> [(12,.free),(31,.buf 48 .iv (C k))],fun k=>m-k,0,Nat.zero_le _,?_,fun k hk=>?_⟩
 ·((conv=>whnf);refine q2 ?_ ?_;repeat' first|refine lc ?_ ?_|refine lh1 ?_ ?_|refine bc0 ?_|exact KXZ|refine lg0 ?_|refine lt0 ?_)
  .exact trivial
  .exact⟨rfl,by rw[C0]⟩
 have hk:k<=m:=hk;refine gYe ?_;refine brI (fun c=>?_) (fun c=>?_)
 .have c:k<m:=by have:=Z0 c;omega
  have hs:=Cs k c;have hl:=Cl k;obtain⟨D,hD⟩:∃D,C (k+1)=D:=⟨_,rfl⟩;rw[hD]at hs;generalize C k=V at*;conv=>whnf
  refine gYc h0 ?_;refine brI (fun c2=>?_) (fun c2=>?_)
  .have c2:((k:Int)==i)=true:=c2;rw[Z6 (by simpa using c2)]at hs;conv=>whnf
   refine gYc h1 ?_;refine⟨OE,?_⟩;conv=>whnf
   refine⟨k+1,O,by show m-(k+1)<m-k;omega,?_⟩
   ((conv=>whnf);refine q2 ?_ ?_;repeat' first|refine lc ?_ ?_|refine lh1 ?_ ?_|refine bc0 ?_|exact KXZ|refine lg0 ?_|refine lt0 ?_)
   .exact ai0 (by rw[wI O];omega)
   .exact bb0 (by rw[hD,hs])
  .have c2:((k:Int)==i)=false:=c2;rw[Z7 (by simpa using c2)]at hs;conv=>whnf
   refine⟨OE,?_⟩;conv=>whnf
   refine⟨k+1,O,by show m-(k+1)<m-k;omega,?_⟩
   ((conv=>whnf);refine q2 ?_ ?_;repeat' first|refine lc ?_ ?_|refine lh1 ?_ ?_|refine bc0 ?_|exact KXZ|refine lg0 ?_|refine lt0 ?_)
   .exact ai0 (by rw[wI O];omega)
   .exact bb0 (by rw[hD,hs])
 .have c:k=m:=by have:=Z3 c;omega
  subst c;conv=>whnf
  refine⟨(),?_⟩;exact KZ0
end
