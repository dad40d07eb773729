/- gradient.Tape: the values and the derivatives of the results. -/
import Derived.Test.YtlbmkjbgfkgcmaaGreatDoorSQc
import Derived.Shelf.Spec.SlicesGrow
set_option linter.all false
open Bool renaming and_eq_true->qJ
open List renaming getElem?_eq_some_iff->qA,getElem?_mapIdx->qB,mem_of_getElem?->qC,ext_getElem?->qD,replicate->qF,length_append->qG,take_add_one->qH,take_of_length_le->qK,take_append_drop->qL,getElem?_map->qM,length_take->qN,take_length->qO
open Nat renaming zero_le->qE,le_refl->qI,zero_add->qP
open Go.Builtin renaming zeroCells->qQ
open Go.Region renaming binds->qR
namespace Go.Proofs.YtlbmkjbgfkgcmaaGreatDoor
open Go Go.Sx
set_option maxRecDepth 100000
set_option maxHeartbeats 8000000
def rwC(G:List (List Iv))(i k:Nat):List (List Iv):=G.mapIdx fun a r=>if a<k then r.take (i+1)else r.take i
theorem zzq(G:List (List Iv))(i k:Nat):(rwC G i k).length =G.length:=by simp[rwC]
theorem zzr{G:List (List Iv)}{i k:Nat}{r:List Iv}(h:G[k]? =some r):(rwC G i k)[k]? =some (r.take i):=by simp[rwC,h]
theorem zzp{G:List (List Iv)}{i k:Nat}{r:List Iv}{y:Iv}(h:G[k]? =some r)(hy:r[i]? =some y):(rwC G i k).set k (r.take i++ [y])=rwC G i (k+1):=by
 apply qD;intro a;have hk:=(qA.1 h).1;by_cases e:k=a
 .subst e;rw[List.getElem?_set_self (by rw[zzq];exact hk)];simp[rwC,h,qH,hy]
 .rw[List.getElem?_set_ne e];simp only[rwC,qB]
  congr 1
  funext r
  by_cases h1:a<k
  .rw[Z6 h1,Z6 O]
  .rw[Z7 h1,Z7 O]
theorem zvm(G:List (List Iv))(i:Nat):rwC G i G.length=rwC G (i+1) 0:=by
 apply qD;intro a;simp only[rwC,qB]
 cases ha:G[a]? with
 |none=>rfl
 |some s=>
  have:=(qA.1 ha).1;simp only[Option.map_some,Option.some.injEq];rw[Z6 this,Z7 O]
theorem zvl(G:List (List Iv)):rwC G 0 0=qF G.length []:=by
 apply qD;intro a;simp only[rwC,qB,List.getElem?_replicate]
 cases ha:G[a]? with
 |none=>rw[Z7 (by have:=List.getElem?_eq_none_iff.1 ha;omega)];rfl
 |some s=>rw[Z6 (qA.1 ha).1];simp
theorem zzs{G:List (List Iv)}{m:Nat}(h:∀r∈G,r.length=m):rwC G m 0=G:=by
 apply qD;intro a;simp only[rwC,qB]
 cases ha:G[a]? with
 |none=>rfl
 |some s=>
  simp only[Option.map_some,Option.some.injEq];rw[Z7 O,qK (by rw[h s (qC ha)];exact qI _)]
theorem zuf:zhh JT:=fun _ _ _ _ _ _ hV hj j hl=>(hj j hl).cmono hV
theorem i26t:Tryz.prog.info? 26=some Tryz.t26:=Tryz.type26
theorem ti26:TIOK Tryz.prog 26 ⟨3,1,[],48,7,0,some .vs,.i64,[.nilsl],24,false⟩:=hTQ.ti 26 _ (qC (i:=9) rfl)
theorem spl{α:Type}{l:List α}{o:α}(i:Nat)(h:l[i]? =some o):l=l.take i++o::l.drop (i+1):=by
 have h1:=(qA.1 h).2;rw[<-h1,List.getElem_cons_drop,qL]
theorem zlb{v:Value}{y:AV}:∀l:List AV,endL v y l l
 | []=>trivial
 | _::l=>⟨.inr (.inl rfl),zlb l⟩
noncomputable def oG:Array Oper:=Go.Sx.opsOf 12 (Tryz.f8.body.getD .skip)
def SGb(t:Tp)(vs:List Iv)(p:Int)(m ci:Nat)(c:List Iv)(k0:Int)(n b0 i:Nat)(hs:List Value)(rows:List (List Iv))(hv:Value)(y:Iv)(rw0:List Iv)(h':Value)(q0 q1 q2 q3 q4 q5 q6 q7 q8 q9 q10 q11 q12 q13:Bool):St:=
 ⟨[.any,.any,.any,.int .i64 p,.ptr 4 0,.any,.any,.any,.any,.any,.sl .iv vs,.val (.slice (some ⟨b0,0,none⟩) n n),.int .i64 ci,.sl .iv c,.int .i64 i,.int .i64 k0,.any,.any,.any,.any,.any,.any,.any,.any,.any,.any,.any,.any,.any,.any,.any,.any,.any,.any,.any,.any,.any,.any,.any,.any,.any,.any,.int .i64 m,.int .i64 ci,.any,.any,.any,.any,.any,.any,.any,.any,.sl .int t.outs,.int .i64 n,.int .i64 i,.any,.any,.any,.any,(bif q0 then .val (.slice (some ⟨b0,0,none⟩) n n)else .any),(bif q1 then .int .i64 i else .any),(bif q2 then .val (.slice (some ⟨b0,0,none⟩) n n)else .any),(bif q3 then .int .i64 i else .any),(bif q4 then .val (.pointer (some ⟨b0,i,none⟩))else .any),(bif q5 then .val hv else .any),(bif q6 then .sl .iv c else .any),(bif q7 then .int .i64 k0 else .any),(bif q8 then .rp .iv y 0 else .any),(bif q9 then .agg (ivC y)else .any),(bif q10 then .sl .iv [y]else .any),(bif q11 then .val h' else .any),(bif q12 then .val (.pointer (some ⟨b0,i,none⟩))else .any),.any,.any,.any,.any,.any,.any,.any,.any,.any,.any,.any,.any,.any,.any,.any,.any,.any,.any,.any],
  [(4,.cells (tpC t)),(41,.free),(70,.free),(100070,.free),(1500070,.free),(87,.free),(100087,.free),(1500087,.free),(qo,.gst (bif q13 then zbh JT 26 48 .iv b0 n (hs.set i h') (rows.set i (rw0++ [y])) none else bif q11 then zbh JT 26 48 .iv b0 n hs rows (some (i,h',rw0++ [y]))else zbh JT 26 48 .iv b0 n hs rows none))]⟩
def SG(t:Tp)(vs:List Iv)(p:Int)(m ci:Nat)(c:List Iv)(k0:Int)(n b0 i:Nat)(hs:List Value)(rows:List (List Iv))(hv:Value)(y:Iv)(rw0:List Iv)(L:Nat->Bool)(K:St):Prop:=∃h':Value,K=SGb t vs p m ci c k0 n b0 i hs rows hv y rw0 h' (L 0) (L 1) (L 2) (L 3) (L 4) (L 5) (L 6) (L 7) (L 8) (L 9) (L 10) (L 11) (L 12) (L 13)
section
variable (t:Tp) (vs:List Iv) (p:Int) (m ci:Nat) (c:List Iv) (k0:Int) (n b0 i:Nat) (hs:List Value) (rows:List (List Iv)) (hv:Value) (y:Iv) (rw0:List Iv) (h':Value) (L:Nat->Bool)
theorem Go0:∀o,oG[0]? =some o->OpT Tryz.prog o (SGb t vs p m ci c k0 n b0 i hs rows hv y rw0 h' false (L 1) (L 2) (L 3) (L 4) (L 5) (L 6) (L 7) (L 8) (L 9) (L 10) (L 11) (L 12) (L 13)) (SGb t vs p m ci c k0 n b0 i hs rows hv y rw0 h' true (L 1) (L 2) (L 3) (L 4) (L 5) (L 6) (L 7) (L 8) (L 9) (L 10) (L 11) (L 12) (L 13)):=by
 intro o ho;have ho:some _=some o:=ho;cases ho
 refine zdk hTQ rfl ?_;conv=>whnf
 exact rfl
theorem Go1:∀o,oG[1]? =some o->OpT Tryz.prog o (SGb t vs p m ci c k0 n b0 i hs rows hv y rw0 h' (L 0) false (L 2) (L 3) (L 4) (L 5) (L 6) (L 7) (L 8) (L 9) (L 10) (L 11) (L 12) (L 13)) (SGb t vs p m ci c k0 n b0 i hs rows hv y rw0 h' (L 0) true (L 2) (L 3) (L 4) (L 5) (L 6) (L 7) (L 8) (L 9) (L 10) (L 11) (L 12) (L 13)):=by
 intro o ho;have ho:some _=some o:=ho;cases ho
 refine zdk hTQ rfl ?_;conv=>whnf
 exact rfl
theorem Go2:∀o,oG[2]? =some o->OpT Tryz.prog o (SGb t vs p m ci c k0 n b0 i hs rows hv y rw0 h' (L 0) (L 1) false (L 3) (L 4) (L 5) (L 6) (L 7) (L 8) (L 9) (L 10) (L 11) (L 12) (L 13)) (SGb t vs p m ci c k0 n b0 i hs rows hv y rw0 h' (L 0) (L 1) true (L 3) (L 4) (L 5) (L 6) (L 7) (L 8) (L 9) (L 10) (L 11) (L 12) (L 13)):=by
 intro o ho;have ho:some _=some o:=ho;cases ho
 refine zdk hTQ rfl ?_;conv=>whnf
 exact rfl
theorem Go3:∀o,oG[3]? =some o->OpT Tryz.prog o (SGb t vs p m ci c k0 n b0 i hs rows hv y rw0 h' (L 0) (L 1) (L 2) false (L 4) (L 5) (L 6) (L 7) (L 8) (L 9) (L 10) (L 11) (L 12) (L 13)) (SGb t vs p m ci c k0 n b0 i hs rows hv y rw0 h' (L 0) (L 1) (L 2) true (L 4) (L 5) (L 6) (L 7) (L 8) (L 9) (L 10) (L 11) (L 12) (L 13)):=by
 intro o ho;have ho:some _=some o:=ho;cases ho
 refine zdk hTQ rfl ?_;conv=>whnf
 exact rfl
theorem Go4(hin:i<n):∀o,oG[4]? =some o->OpT Tryz.prog o (SGb t vs p m ci c k0 n b0 i hs rows hv y rw0 h' (L 0) (L 1) true true false (L 5) (L 6) (L 7) (L 8) (L 9) (L 10) (L 11) (L 12) (L 13)) (SGb t vs p m ci c k0 n b0 i hs rows hv y rw0 h' (L 0) (L 1) true true true (L 5) (L 6) (L 7) (L 8) (L 9) (L 10) (L 11) (L 12) (L 13)):=by
 intro o ho;have ho:some _=some o:=ho;cases ho
 exact(zn5 (j:=(i:Int)) rfl rfl rfl Tryz.underlying30 Tryz.type26 rfl rfl rfl O O).to rfl
theorem Go5(hh:hs[i]? =some hv):∀o,oG[5]? =some o->OpT Tryz.prog o (SGb t vs p m ci c k0 n b0 i hs rows hv y rw0 h' (L 0) (L 1) (L 2) (L 3) true false (L 6) (L 7) (L 8) (L 9) (L 10) false (L 12) false) (SGb t vs p m ci c k0 n b0 i hs rows hv y rw0 h' (L 0) (L 1) (L 2) (L 3) true true (L 6) (L 7) (L 8) (L 9) (L 10) false (L 12) false):=by
 intro o ho;have ho:some _=some o:=ho;cases ho
 exact(zv0 (j:=i) rfl rfl rfl ti26 rfl rfl rfl rfl hh).to rfl
theorem Go6:∀o,oG[6]? =some o->OpT Tryz.prog o (SGb t vs p m ci c k0 n b0 i hs rows hv y rw0 h' (L 0) (L 1) (L 2) (L 3) (L 4) (L 5) false (L 7) (L 8) (L 9) (L 10) (L 11) (L 12) (L 13)) (SGb t vs p m ci c k0 n b0 i hs rows hv y rw0 h' (L 0) (L 1) (L 2) (L 3) (L 4) (L 5) true (L 7) (L 8) (L 9) (L 10) (L 11) (L 12) (L 13)):=by
 intro o ho;have ho:some _=some o:=ho;cases ho
 refine zdk hTQ rfl ?_;conv=>whnf
 exact rfl
theorem Go7:∀o,oG[7]? =some o->OpT Tryz.prog o (SGb t vs p m ci c k0 n b0 i hs rows hv y rw0 h' (L 0) (L 1) (L 2) (L 3) (L 4) (L 5) (L 6) false (L 8) (L 9) (L 10) (L 11) (L 12) (L 13)) (SGb t vs p m ci c k0 n b0 i hs rows hv y rw0 h' (L 0) (L 1) (L 2) (L 3) (L 4) (L 5) (L 6) true (L 8) (L 9) (L 10) (L 11) (L 12) (L 13)):=by
 intro o ho;have ho:some _=some o:=ho;cases ho
 refine zdk hTQ rfl ?_;conv=>whnf
 exact rfl
theorem Go8(hk:0<=k0)(hy:c[k0.toNat]? =some y):∀o,oG[8]? =some o->OpT Tryz.prog o (SGb t vs p m ci c k0 n b0 i hs rows hv y rw0 h' (L 0) (L 1) (L 2) (L 3) (L 4) (L 5) true true false (L 9) (L 10) false (L 12) false) (SGb t vs p m ci c k0 n b0 i hs rows hv y rw0 h' (L 0) (L 1) (L 2) (L 3) (L 4) (L 5) true true true (L 9) (L 10) false (L 12) false):=by
 intro o ho;have ho:some _=some o:=ho;cases ho
 refine zdk hTQ rfl ?_;conv=>whnf
 have hlt:=(qA.1 hy).1;refine⟨⟨O,O⟩,fun(x:Iv)hx=>?_⟩;obtain rfl:y=x:=by
  have hx:c[k0.toNat]? =some x:=hx;rw[hy]at hx;exact Option.some.inj hx
 conv=>whnf
 exact rfl
theorem Go9:∀o,oG[9]? =some o->OpT Tryz.prog o (SGb t vs p m ci c k0 n b0 i hs rows hv y rw0 h' (L 0) (L 1) (L 2) (L 3) (L 4) (L 5) (L 6) (L 7) true false (L 10) (L 11) (L 12) (L 13)) (SGb t vs p m ci c k0 n b0 i hs rows hv y rw0 h' (L 0) (L 1) (L 2) (L 3) (L 4) (L 5) (L 6) (L 7) true true (L 10) (L 11) (L 12) (L 13)):=by
 intro o ho;have ho:some _=some o:=ho;cases ho
 refine zdk hTQ rfl ?_;conv=>whnf
 exact rfl
theorem Go10:∀o,oG[10]? =some o->OpT Tryz.prog o (SGb t vs p m ci c k0 n b0 i hs rows hv y rw0 h' (L 0) (L 1) (L 2) (L 3) (L 4) (L 5) (L 6) (L 7) (L 8) true false (L 11) (L 12) (L 13)) (SGb t vs p m ci c k0 n b0 i hs rows hv y rw0 h' (L 0) (L 1) (L 2) (L 3) (L 4) (L 5) (L 6) (L 7) (L 8) true true (L 11) (L 12) (L 13)):=by
 intro o ho;have ho:some _=some o:=ho;cases ho
 refine zdk hTQ rfl ?_;conv=>whnf
 exact rfl
theorem Go11(hh:hs[i]? =some hv)(hr:rows[i]? =some rw0)(hlr:rw0.length<=100000):∀o,oG[11]? =some o->OpX Tryz.prog o (SGb t vs p m ci c k0 n b0 i hs rows hv y rw0 h' (L 0) (L 1) (L 2) (L 3) (L 4) true (L 6) (L 7) (L 8) (L 9) true false (L 12) false) fun K=>∃h'',K=SGb t vs p m ci c k0 n b0 i hs rows hv y rw0 h'' (L 0) (L 1) (L 2) (L 3) (L 4) true (L 6) (L 7) (L 8) (L 9) true true (L 12) false:=by
 intro o ho;have ho:some _=some o:=ho;cases ho
 refine(zvy (k:=.iv) (i:=i) (row:=rw0) (y:=y) rfl rfl rfl rfl rfl rfl zuf rfl rfl rfl rfl rfl rfl rfl rfl hh hr ?_ ?_).mono fun K h=>?_
 .show(_+1)*88<=_;omega
 .decide
 .obtain⟨h'',rfl⟩:=h;exact⟨h'',rfl⟩
theorem Go12(hin:i<n):∀o,oG[12]? =some o->OpT Tryz.prog o (SGb t vs p m ci c k0 n b0 i hs rows hv y rw0 h' true true (L 2) (L 3) (L 4) (L 5) (L 6) (L 7) (L 8) (L 9) (L 10) (L 11) false (L 13)) (SGb t vs p m ci c k0 n b0 i hs rows hv y rw0 h' true true (L 2) (L 3) (L 4) (L 5) (L 6) (L 7) (L 8) (L 9) (L 10) (L 11) true (L 13)):=by
 intro o ho;have ho:some _=some o:=ho;cases ho
 exact(zn5 (j:=(i:Int)) rfl rfl rfl Tryz.underlying30 Tryz.type26 rfl rfl rfl O O).to rfl
theorem Go13(hi:i<hs.length):∀o,oG[13]? =some o->OpT Tryz.prog o (SGb t vs p m ci c k0 n b0 i hs rows hv y rw0 h' (L 0) (L 1) (L 2) (L 3) (L 4) (L 5) (L 6) (L 7) (L 8) (L 9) (L 10) true true false) (SGb t vs p m ci c k0 n b0 i hs rows hv y rw0 h' (L 0) (L 1) (L 2) (L 3) (L 4) (L 5) (L 6) (L 7) (L 8) (L 9) (L 10) true true true):=by
 intro o ho;have ho:some _=some o:=ho;cases ho
 exact(zvz (i:=i) rfl rfl rfl zuf i26t rfl rfl rfl rfl hi).to rfl
theorem Gstep(hin:i<n)(hh:hs[i]? =some hv)(hk:0<=k0)(hy:c[k0.toNat]? =some y)(hr:rows[i]? =some rw0)(hlr:rw0.length<=100000)(hi:i<hs.length)
 (q:Nat) (o:Oper) (hcl:∀j oj,oG[j]? =some oj->L j=true->∀e∈oj.after,qR .any e=true->L e.on=true) (ho:oG[q]? =some o) (hL:L q=false)
 (hd:∀e∈o.after,qR .any e=true->L e.on=true):∀K,SG t vs p m ci c k0 n b0 i hs rows hv y rw0 L K->OpX Tryz.prog o K (SG t vs p m ci c k0 n b0 i hs rows hv y rw0 (setF L q)):=by
 rintro K ⟨h',rfl⟩;have dpq:∀ {j:Nat},oG[j]? =some o->∀q,((oG[j]?.map fun o=>o.after.toList.any fun e=>qR .any e&&Nat.beq e.on q)=some true)->L q=true:=fun {j}ho q hq=>zyg ho hd q hq
 have cl:∀a q,((oG[a]?.map fun o=>o.after.toList.any fun e=>qR .any e&&Nat.beq e.on q)=some true)->L a=true->L q=true:=fun a q hq ha=>qe5 hcl hq ha
 match q,ho,hL with
 |0,ho,hL=>
  have hall:=Go0 t vs p m ci c k0 n b0 i hs rows hv y rw0 h' L o ho;refine OpT.x (σ':=SGb t vs p m ci c k0 n b0 i hs rows hv y rw0 h' true (L 1) (L 2) (L 3) (L 4) (L 5) (L 6) (L 7) (L 8) (L 9) (L 10) (L 11) (L 12) (L 13)) ?_ ⟨h',rfl⟩;show OpT Tryz.prog o (SGb t vs p m ci c k0 n b0 i hs rows hv y rw0 h' (L 0) (L 1) (L 2) (L 3) (L 4) (L 5) (L 6) (L 7) (L 8) (L 9) (L 10) (L 11) (L 12) (L 13)) _;rw[hL];exact hall
 |1,ho,hL=>
  have hall:=Go1 t vs p m ci c k0 n b0 i hs rows hv y rw0 h' L o ho;refine OpT.x (σ':=SGb t vs p m ci c k0 n b0 i hs rows hv y rw0 h' (L 0) true (L 2) (L 3) (L 4) (L 5) (L 6) (L 7) (L 8) (L 9) (L 10) (L 11) (L 12) (L 13)) ?_ ⟨h',rfl⟩;show OpT Tryz.prog o (SGb t vs p m ci c k0 n b0 i hs rows hv y rw0 h' (L 0) (L 1) (L 2) (L 3) (L 4) (L 5) (L 6) (L 7) (L 8) (L 9) (L 10) (L 11) (L 12) (L 13)) _;rw[hL];exact hall
 |2,ho,hL=>
  have hall:=Go2 t vs p m ci c k0 n b0 i hs rows hv y rw0 h' L o ho;refine OpT.x (σ':=SGb t vs p m ci c k0 n b0 i hs rows hv y rw0 h' (L 0) (L 1) true (L 3) (L 4) (L 5) (L 6) (L 7) (L 8) (L 9) (L 10) (L 11) (L 12) (L 13)) ?_ ⟨h',rfl⟩;show OpT Tryz.prog o (SGb t vs p m ci c k0 n b0 i hs rows hv y rw0 h' (L 0) (L 1) (L 2) (L 3) (L 4) (L 5) (L 6) (L 7) (L 8) (L 9) (L 10) (L 11) (L 12) (L 13)) _;rw[hL];exact hall
 |3,ho,hL=>
  have hall:=Go3 t vs p m ci c k0 n b0 i hs rows hv y rw0 h' L o ho;refine OpT.x (σ':=SGb t vs p m ci c k0 n b0 i hs rows hv y rw0 h' (L 0) (L 1) (L 2) true (L 4) (L 5) (L 6) (L 7) (L 8) (L 9) (L 10) (L 11) (L 12) (L 13)) ?_ ⟨h',rfl⟩;show OpT Tryz.prog o (SGb t vs p m ci c k0 n b0 i hs rows hv y rw0 h' (L 0) (L 1) (L 2) (L 3) (L 4) (L 5) (L 6) (L 7) (L 8) (L 9) (L 10) (L 11) (L 12) (L 13)) _;rw[hL];exact hall
 |4,ho,hL=>
  have hall:=Go4 t vs p m ci c k0 n b0 i hs rows hv y rw0 h' L hin o ho;have g2:L 2=true:=dpq ho 2 OB;have g3:L 3=true:=dpq ho 3 OB;refine OpT.x (σ':=SGb t vs p m ci c k0 n b0 i hs rows hv y rw0 h' (L 0) (L 1) (L 2) (L 3) true (L 5) (L 6) (L 7) (L 8) (L 9) (L 10) (L 11) (L 12) (L 13)) ?_ ⟨h',rfl⟩;show OpT Tryz.prog o (SGb t vs p m ci c k0 n b0 i hs rows hv y rw0 h' (L 0) (L 1) (L 2) (L 3) (L 4) (L 5) (L 6) (L 7) (L 8) (L 9) (L 10) (L 11) (L 12) (L 13)) _;rw[hL,g2,g3];exact hall
 |5,ho,hL=>
  have hall:=Go5 t vs p m ci c k0 n b0 i hs rows hv y rw0 h' L hh o ho;have g4:L 4=true:=dpq ho 4 OB;have g11:L 11=false:=by
   cases h:L 11 with
   |false=>rfl
   |true=>have:=cl 11 5 OB (h);rw[hL]at this;cases this
  have g13:L 13=false:=by
   cases h:L 13 with
   |false=>rfl
   |true=>have:=cl 11 5 OB (cl 13 11 OB (h));rw[hL]at this;cases this
  refine OpT.x (σ':=SGb t vs p m ci c k0 n b0 i hs rows hv y rw0 h' (L 0) (L 1) (L 2) (L 3) (L 4) true (L 6) (L 7) (L 8) (L 9) (L 10) (L 11) (L 12) (L 13)) ?_ ⟨h',rfl⟩;show OpT Tryz.prog o (SGb t vs p m ci c k0 n b0 i hs rows hv y rw0 h' (L 0) (L 1) (L 2) (L 3) (L 4) (L 5) (L 6) (L 7) (L 8) (L 9) (L 10) (L 11) (L 12) (L 13)) _;rw[hL,g4,g11,g13];exact hall
 |6,ho,hL=>
  have hall:=Go6 t vs p m ci c k0 n b0 i hs rows hv y rw0 h' L o ho;refine OpT.x (σ':=SGb t vs p m ci c k0 n b0 i hs rows hv y rw0 h' (L 0) (L 1) (L 2) (L 3) (L 4) (L 5) true (L 7) (L 8) (L 9) (L 10) (L 11) (L 12) (L 13)) ?_ ⟨h',rfl⟩;show OpT Tryz.prog o (SGb t vs p m ci c k0 n b0 i hs rows hv y rw0 h' (L 0) (L 1) (L 2) (L 3) (L 4) (L 5) (L 6) (L 7) (L 8) (L 9) (L 10) (L 11) (L 12) (L 13)) _;rw[hL];exact hall
 |7,ho,hL=>
  have hall:=Go7 t vs p m ci c k0 n b0 i hs rows hv y rw0 h' L o ho;refine OpT.x (σ':=SGb t vs p m ci c k0 n b0 i hs rows hv y rw0 h' (L 0) (L 1) (L 2) (L 3) (L 4) (L 5) (L 6) true (L 8) (L 9) (L 10) (L 11) (L 12) (L 13)) ?_ ⟨h',rfl⟩;show OpT Tryz.prog o (SGb t vs p m ci c k0 n b0 i hs rows hv y rw0 h' (L 0) (L 1) (L 2) (L 3) (L 4) (L 5) (L 6) (L 7) (L 8) (L 9) (L 10) (L 11) (L 12) (L 13)) _;rw[hL];exact hall
 |8,ho,hL=>
  have hall:=Go8 t vs p m ci c k0 n b0 i hs rows hv y rw0 h' L hk hy o ho;have g6:L 6=true:=dpq ho 6 OB;have g7:L 7=true:=dpq ho 7 OB;have g11:L 11=false:=by
   cases h:L 11 with
   |false=>rfl
   |true=>have:=cl 9 8 OB (cl 10 9 OB (cl 11 10 OB (h)));rw[hL]at this;cases this
  have g13:L 13=false:=by
   cases h:L 13 with
   |false=>rfl
   |true=>have:=cl 9 8 OB (cl 10 9 OB (cl 11 10 OB (cl 13 11 OB (h))));rw[hL]at this;cases this
  refine OpT.x (σ':=SGb t vs p m ci c k0 n b0 i hs rows hv y rw0 h' (L 0) (L 1) (L 2) (L 3) (L 4) (L 5) (L 6) (L 7) true (L 9) (L 10) (L 11) (L 12) (L 13)) ?_ ⟨h',rfl⟩;show OpT Tryz.prog o (SGb t vs p m ci c k0 n b0 i hs rows hv y rw0 h' (L 0) (L 1) (L 2) (L 3) (L 4) (L 5) (L 6) (L 7) (L 8) (L 9) (L 10) (L 11) (L 12) (L 13)) _;rw[hL,g6,g7,g11,g13];exact hall
 |9,ho,hL=>
  have hall:=Go9 t vs p m ci c k0 n b0 i hs rows hv y rw0 h' L o ho;have g8:L 8=true:=dpq ho 8 OB;refine OpT.x (σ':=SGb t vs p m ci c k0 n b0 i hs rows hv y rw0 h' (L 0) (L 1) (L 2) (L 3) (L 4) (L 5) (L 6) (L 7) (L 8) true (L 10) (L 11) (L 12) (L 13)) ?_ ⟨h',rfl⟩;show OpT Tryz.prog o (SGb t vs p m ci c k0 n b0 i hs rows hv y rw0 h' (L 0) (L 1) (L 2) (L 3) (L 4) (L 5) (L 6) (L 7) (L 8) (L 9) (L 10) (L 11) (L 12) (L 13)) _;rw[hL,g8];exact hall
 |10,ho,hL=>
  have hall:=Go10 t vs p m ci c k0 n b0 i hs rows hv y rw0 h' L o ho;have g9:L 9=true:=dpq ho 9 OB;refine OpT.x (σ':=SGb t vs p m ci c k0 n b0 i hs rows hv y rw0 h' (L 0) (L 1) (L 2) (L 3) (L 4) (L 5) (L 6) (L 7) (L 8) (L 9) true (L 11) (L 12) (L 13)) ?_ ⟨h',rfl⟩;show OpT Tryz.prog o (SGb t vs p m ci c k0 n b0 i hs rows hv y rw0 h' (L 0) (L 1) (L 2) (L 3) (L 4) (L 5) (L 6) (L 7) (L 8) (L 9) (L 10) (L 11) (L 12) (L 13)) _;rw[hL,g9];exact hall
 |11,ho,hL=>
  have hall:=Go11 t vs p m ci c k0 n b0 i hs rows hv y rw0 h' L hh hr hlr o ho;have g5:L 5=true:=dpq ho 5 OB;have g10:L 10=true:=dpq ho 10 OB;have g13:L 13=false:=by
   cases h:L 13 with
   |false=>rfl
   |true=>have:=cl 13 11 OB (h);rw[hL]at this;cases this
  show OpX Tryz.prog o (SGb t vs p m ci c k0 n b0 i hs rows hv y rw0 h' (L 0) (L 1) (L 2) (L 3) (L 4) (L 5) (L 6) (L 7) (L 8) (L 9) (L 10) (L 11) (L 12) (L 13)) (fun K=>∃h'',K=SGb t vs p m ci c k0 n b0 i hs rows hv y rw0 h'' (L 0) (L 1) (L 2) (L 3) (L 4) (L 5) (L 6) (L 7) (L 8) (L 9) (L 10) true (L 12) (L 13));rw[hL,g5,g10,g13];exact hall
 |12,ho,hL=>
  have hall:=Go12 t vs p m ci c k0 n b0 i hs rows hv y rw0 h' L hin o ho;have g0:L 0=true:=dpq ho 0 OB;have g1:L 1=true:=dpq ho 1 OB;refine OpT.x (σ':=SGb t vs p m ci c k0 n b0 i hs rows hv y rw0 h' (L 0) (L 1) (L 2) (L 3) (L 4) (L 5) (L 6) (L 7) (L 8) (L 9) (L 10) (L 11) true (L 13)) ?_ ⟨h',rfl⟩;show OpT Tryz.prog o (SGb t vs p m ci c k0 n b0 i hs rows hv y rw0 h' (L 0) (L 1) (L 2) (L 3) (L 4) (L 5) (L 6) (L 7) (L 8) (L 9) (L 10) (L 11) (L 12) (L 13)) _;rw[hL,g0,g1];exact hall
 |13,ho,hL=>
  have hall:=Go13 t vs p m ci c k0 n b0 i hs rows hv y rw0 h' L hi o ho;have g12:L 12=true:=dpq ho 12 OB;have g11:L 11=true:=dpq ho 11 OB;refine OpT.x (σ':=SGb t vs p m ci c k0 n b0 i hs rows hv y rw0 h' (L 0) (L 1) (L 2) (L 3) (L 4) (L 5) (L 6) (L 7) (L 8) (L 9) (L 10) (L 11) (L 12) true) ?_ ⟨h',rfl⟩;show OpT Tryz.prog o (SGb t vs p m ci c k0 n b0 i hs rows hv y rw0 h' (L 0) (L 1) (L 2) (L 3) (L 4) (L 5) (L 6) (L 7) (L 8) (L 9) (L 10) (L 11) (L 12) (L 13)) _;rw[hL,g12,g11];exact hall
 |q+14,ho,_=>
  have hs:oG.size=14:=Z;have:=(Array.getElem?_eq_some_iff.1 ho).1;omega
end
def gtB(t:Tp)(x:List Iv)(m p:Int):Bool:=fiB t x p&&(decide (0<=m)&&decide (m<=t.ins))
def gtC(t:Tp)(vs:List Iv)(m:Nat)(p k:Int):List Iv:=(List.range m).map fun(i:Nat)=>gI (coS t vs i p) k
def gtV(t:Tp)(x:List Iv)(m p:Int):List Iv:=if gtB t x m p=true then t.outs.map (gI (zdf p t.ops x))else []
def gtD(t:Tp)(x:List Iv)(m p:Int):List (List Iv):=if gtB t x m p=true then t.outs.map (gtC t (zdf p t.ops x) m.toNat p)else []
noncomputable def qfj:Code:=Tryz.f8.body.getD .skip
abbrev fr8(t:Tp):Hp:= [(4,.cells (tpC t)),(41,.free),(70,.free),(100070,.free),(1500070,.free),(87,.free),(100087,.free),(1500087,.free)]
theorem q8s(t:Tp)(ht:tvB t=true)(vs:List Iv)(m:Nat)(p:Int)(hv:∀y∈vs,RI y)(hl:(vs.length:Int)=t.ins+t.ops.length)(hm:(m:Int)<=t.ins)(d:Nat)(hd:d=3):
 SemOK Tryz.prog TQ Tryz.f8.results.toList [] (.tup [.sl .iv (t.outs.map (gI vs)),.sl .vs (t.outs.map (gtC t vs m p))]) G0 (zd2 d qfj) ⟨[.any,.any,.int .i64 m,.int .i64 p,.ptr 4 0]++yo 5++ [.sl .iv vs]++yo 80,fr8 t++G0⟩:=by
 obtain⟨⟨a1,a2,a3,a4⟩,a5,a6⟩:=wu ht;subst hd;obtain⟨G,hG⟩:∃G,t.outs.map (gtC t vs m p)=G:=⟨_,rfl⟩;have hGl:G.length=t.outs.length:=by rw[<-hG];simp
 have hGi:∀(k:Nat)(o:Int),t.outs[k]? =some o->G[k]? =some (gtC t vs m p o):=fun k o h=>by rw[<-hG,qM,h];rfl
 have hGm:∀r∈G,r.length=m:=fun r hr=>by
  rw[<-hG]at hr;obtain⟨o,_,rfl⟩:=List.mem_map.1 hr;simp[gtC]
 rw[hG];refine zvj (E:=26) (e:=48) (k:=.iv) (kk:=.vs) zuf (fun r=>r) (fun _=>rfl) rfl (cap:=t.outs.length) (fun rows=>rows=G)
  (fun b0=>⟨[.any,.any,.int .i64 m,.int .i64 p,.ptr 4 0]++yo 5++ [.sl .iv vs,.val (.slice (some ⟨b0,0,none⟩) t.outs.length t.outs.length)]++yo 26++ [.ptr 4 2,.sl .int t.outs,.int .i64 t.outs.length,.val (.slice (some ⟨b0,0,none⟩) t.outs.length t.outs.length)]++yo 49,fr8 t++ [(qo,.gst (zbh JT 26 48 .iv b0 t.outs.length (qF t.outs.length (.slice none 0 0)) (qF t.outs.length []) none))]⟩)
  (fun b0 hs rows=>⟨yo 4++ [.ptr 4 0]++yo 5++ [.sl .iv vs,.val (.slice (some ⟨b0,0,none⟩) t.outs.length t.outs.length)]++yo 79,fr8 t++ [(qo,.gst (zbh JT 26 48 .iv b0 t.outs.length hs rows none))]⟩)
  (fun rows=>yo 4++ [.ptr 4 0]++yo 5++ [.sl .iv vs,.sl .vs rows]++yo 79) ?_ (fun b0=>?_) (fun b0 hs rows=>Z) (fun b0 hs rows h=>⟨rfl,?_⟩) (fun b0 hs rows h=>?_)
 .refine zsl hTQ (σa:=⟨[.any,.any,.int .i64 m,.int .i64 p,.ptr 4 0]++yo 5++ [.sl .iv vs]++yo 27++ [.ptr 4 2,.sl .int t.outs,.int .i64 t.outs.length]++yo 50,fr8 t++G0⟩) (n:=t.outs.length) (e:=48) (k:=.iv) _ _ (spl 3 rfl) rfl zuf rfl rfl rfl rfl rfl Tryz.underlying30 Tryz.type26 rfl rfl OA O _ ?_ (fun b0=>?_)
  .conv=>whnf
   exact rfl
  .conv=>whnf
   exact rfl
 .refine zln hTQ hmx [12] _ _ _ _ _ ?_;conv=>whnf
  refine⟨Nat×List Value,fun y=>y.1<=m/\y.2.length=t.outs.length,fun y=> [(12,.any),(13,.any),(14,.any),(15,.any),(43,.int .i64 y.1),(2,.any),(38,.any),(39,.any),(40,.any),(41,.any)],fun y=> [(70,.free),(100070,.free),(1500070,.free),(qo,.gst (zbh JT 26 48 .iv b0 t.outs.length y.2 (rwC G y.1 0) none))],fun y=>m-y.1,(0,qF t.outs.length (.slice none 0 0)),⟨qE _,OC⟩,?_,?_⟩
  ·((conv=>whnf);refine And.intro ?_ ?_;repeat' first|refine lc ?_ ?_|refine lh1 ?_ ?_|refine bc0 ?_|exact KXZ|refine lg0 ?_|refine lt0 ?_)
   exact bg0 (by rw[zvl,hGl])
  rintro⟨i,hs⟩ ⟨hi,hh⟩;have hi:i<=m:=hi;have hh:hs.length=t.outs.length:=hh;refine gYe ?_;refine brI (fun c1=>?_) (fun c1=>?_)
  .have c1:i<m:=by have:=Z0 c1;omega
   have h35:=q35 t ht vs i p hv hl;have hcl:((coS t vs i p).length :Int)=t.ins+t.ops.length:=by unfold coS;rw[zjx];simp[coI];omega
   have hGy:∀(k:Nat)(o:Int),t.outs[k]? =some o->(gtC t vs m p o)[i]? =some (gI (coS t vs i p) o):=fun k o _=>by simp[gtC,c1]
   generalize coS t vs i p=c at*;conv=>whnf
   refine⟨[.gst _],_,h35.lift zuf zhj.stab zhj.mono,?_⟩;conv=>whnf
   refine⟨Nat×List Value,fun y=>y.1<=t.outs.length/\y.2.length=t.outs.length,fun y=> [(54,.int .i64 y.1),(14,.any),(15,.any),(2,.any),(38,.any),(39,.any),(40,.any),(41,.any),(44,.any),(45,.any),(46,.any),(47,.any),(48,.any),(49,.any),(50,.any),(51,.any)],fun y=> [(70,.free),(100070,.free),(1500070,.free),(qo,.gst (zbh JT 26 48 .iv b0 t.outs.length y.2 (rwC G i y.1) none))],fun y=>t.outs.length-y.1,(0,hs),⟨qE _,hh⟩,?_,?_⟩
   .exact KZ0
   rintro⟨k,hs⟩ ⟨hk,hh⟩;have hk:k<=t.outs.length:=hk;have hh:hs.length=t.outs.length:=hh;refine gYe ?_;refine brI (fun c2=>?_) (fun c2=>?_)
   .have c2:k<t.outs.length:=by have:=Z0 c2;omega
    obtain⟨hv',hhv⟩:∃hv,hs[k]? =some hv:=⟨_,List.getElem?_eq_getElem O⟩;conv=>whnf
    refine⟨⟨O,O⟩,fun(o:Int)ho=>?_⟩;have ho:t.outs[k]? =some o:=by simpa using ho
    have hGk:=hGi k o ho;have hgy:=hGy k o ho;obtain⟨o1,o2⟩:=a6 o (qC ho);have hcy:=uo (vs:=c) o1 O;have haa:=zzr (i:=i) hGk;have hbb:=zzp hGk hgy;conv=>whnf
    refine zqr hmx (SG t vs p m i c o t.outs.length b0 k hs (rwC G i k) hv' (gI c o) ((gtC t vs m p o).take i)) (σ0:=SGb t vs p m i c o t.outs.length b0 k hs (rwC G i k) hv' (gI c o) ((gtC t vs m p o).take i) (.slice none 0 0) false false false false false false false false false false false false false false) Z ⟨_,rfl⟩ ?_ Z (fun L q o' h1 h2 h3 h4=>Gstep t vs p m i c o t.outs.length b0 k hs (rwC G i k) hv' (gI c o) ((gtC t vs m p o).take i) L c2 hhv o1 hcy haa (by rw[qN];omega) O q o' h1 h2 h3 h4) ?_
    .exact KZ0
    .rintro K ⟨h',rfl⟩;conv=>whnf
     refine⟨(k+1,hs.set k h'),⟨c2,by rw[List.length_set];exact hh⟩,by show t.outs.length-(k+1)<t.outs.length-k;omega,?_⟩
     ((conv=>whnf);refine And.intro ?_ ?_;repeat' first|refine lc ?_ ?_|refine lh1 ?_ ?_|refine bc0 ?_|exact KXZ|refine lg0 ?_|refine lt0 ?_)
     .refine ai0 ?_;rw[wI O];show(k:Int)+1=((k+1:Nat):Int);omega
     .refine bg0 ?_;rw[<-hbb];rfl
   .conv=>whnf
    have hj2:k=t.outs.length:=by have:=Z3 c2;omega
    have hn2:=zvm G i;refine⟨(i+1,hs),⟨O,hh⟩,by show m-(i+1)<m-i;omega,?_⟩
    ((conv=>whnf);refine And.intro ?_ ?_;repeat' first|refine lc ?_ ?_|refine lh1 ?_ ?_|refine bc0 ?_|exact KXZ|refine lg0 ?_|refine lt0 ?_)
    .exact ai0 (by rw[wI O];omega)
    .exact bg0 (by rw[hj2,<-hGl,hn2])
  .conv=>whnf
   have hi2:i=m:=by have:=Z3 c1;omega
   refine⟨hs,rwC G i 0,by rw[hi2];exact zzs hGm,?_⟩;exact KZ0
 .subst h;rw[hGl];exact⟨.inl rfl,.inl rfl,.inl rfl,.inl rfl,.inr (.inl rfl),.inl rfl,.inl rfl,.inl rfl,.inl rfl,.inl rfl,.inr (.inl rfl),.inr (.inr ⟨rfl,OC⟩),zlb _⟩
 .subst h;obtain⟨M,hM⟩:∃M,t.outs.map (gI vs)=M:=⟨_,rfl⟩;have hMl:M.length=t.outs.length:=by rw[<-hM];simp
  have hMs:∀i k,t.outs[i]? =some k->M.take (i+1)=M.take i++ [gI vs k]:=fun i k h=>by
   rw[qH,<-hM,qM,h];rfl
  rw[hM];clear hM;refine vr hTQ hmx ?_;conv=>whnf
  refine⟨Nat,fun i=>i<=t.outs.length,fun i=> [(77,.int .i64 i),(16,.own 87)],fun i=> [(87,.buf 48 .iv (M.take i))],fun i=>t.outs.length-i,0,qE _,?_,fun i hi=>?_⟩
  .exact KZ0
  have hi:i<=t.outs.length:=hi;refine gYe ?_;refine brI (fun c=>?_) (fun c=>?_)
  .have hi:i<t.outs.length:=by have c:=Z0 c;omega
   conv=>whnf
   refine⟨⟨O,O⟩,fun(k:Int)hk=>?_⟩;have hk:t.outs[i]? =some k:=by simpa using hk
   have hs:=hMs i k hk;obtain⟨k1,k2⟩:=a6 k (qC hk);have gk:=uo (vs:=vs) k1 O;obtain⟨M',hM'⟩:∃M',M.take (i+1)=M':=⟨_,rfl⟩;have hl0:(M.take i).length <=200:=by rw[qN];omega
   rw[hM']at hs;generalize M.take i=M0 at*;generalize gI vs k=A at*;conv=>whnf
   refine⟨⟨O,O⟩,fun(A':Iv)hA'=>?_⟩;obtain rfl:A=A':=by
    have hA':vs[k.toNat]? =some A':=hA';rw[gk]at hA';exact Option.some.inj hA'
   conv=>whnf
   refine⟨OE,?_⟩;conv=>whnf
   refine⟨i+1,hi,by show t.outs.length-(i+1)<t.outs.length-i;omega,?_⟩
   ((conv=>whnf);refine And.intro ?_ ?_;repeat' first|refine lc ?_ ?_|refine lh1 ?_ ?_|refine bc0 ?_|exact KXZ|refine lg0 ?_|refine lt0 ?_)
   .exact ai0 (by rw[wI O];omega)
   .exact bb0 (by rw[hM',hs])
  .have c:i=t.outs.length:=by have c:=Z3 c;omega
   subst c;conv=>whnf
   exact⟨lt0 (lc (ju (qK O)) (lc (lr rfl) ln0)),leG⟩
theorem q8(t:Tp)(x:List Iv)(m p:Int)(h1:t.ops.length<9223372036854775808)(h2:t.outs.length<9223372036854775808)(hx:∀y∈x,RI y)(hxl:x.length<9223372036854775808):
 Fn 8 G0 [.agg (tpC t),.sl .iv x,.int .i64 m,.int .i64 p] (.tup [.sl .iv (gtV t x m p),.sl .vs (gtD t x m p)]) G0:=by
 have h33:=q33 t x p h1 h2 hx hxl;have h34:=j7 t x p h1 h2 hx hxl;by_cases hf:gtB t x m p=true
 .have hf2:=hf;unfold gtB at hf2;simp only[qJ,Z4]at hf2;obtain⟨f1,f2,f3⟩:=hf2;rw[f1]at h33;unfold fiB at f1;simp only[qJ,Z4]at f1;obtain⟨ht,hl,_,_⟩:=f1;have e:zo9 t x p=zdf p t.ops x:=by unfold zo9;rw[Z6 ⟨ht,hl⟩]
  rw[e]at h34;obtain⟨M,hM⟩:∃M:Nat,m=M:=⟨m.toNat,O⟩;subst hM;have hob:=(wu ht).2.1;rw[<-hl]at hob;have rest:=q8s t ht (zdf p t.ops x) M p (zim hob hx) (by rw[zav];omega) f3 3 rfl;unfold gtV gtD;rw[Z6 hf,Z6 hf,Int.toNat_natCast];generalize zdf p t.ops x=vs at*;generalize t.outs.map (gI vs)=O1 at*;generalize t.outs.map (gtC t vs M p)=O2 at*;refine qv (code:=qfj) hTQ hmx Tryz.func8 rfl rfl (ex:= []) ?_;conv=>whnf
  refine wm hTQ hmx 3 (fun _:Unit=>⟨[.any,.any,.int .i64 M,.int .i64 p,.ptr 4 0]++yo 5++ [.sl .iv vs]++yo 80,fr8 t++G0⟩) (fun _=>Z) ?_ (fun _=>rest);clear rest;conv=>whnf
  refine gYn h33 ?_;refine brI (fun c=>absurd (show(M:Int)>t.ins from Z0 c) O) (fun _=>?_);conv=>whnf
  refine gYc h34 ?_;refine⟨(),?_⟩;exact KZ0
 .unfold gtV gtD;rw[Z7 hf,Z7 hf];unfold gtB at hf;by_cases f1:fiB t x p=true
  .rw[f1]at h33 hf;have hm:m<0\/t.ins<m:=by
    simp only[Bool.true_and,qJ,Z4]at hf;omega
   refine fnT hTQ hmx Tryz.func8 rfl rfl (ex:= []) ?_;conv=>whnf
   refine gYn h33 ?_;refine brI (fun c=>?_) (fun c=>?_)
   .conv=>whnf
    exact⟨lt0 (lc (li0 rfl) (lc (li0 rfl) ln0)),leG⟩
   have c:=Z3 c;conv=>whnf
   refine brI (fun c=>?_) (fun c=>absurd (Z3 c) O);conv=>whnf
   exact⟨lt0 (lc (li0 rfl) (lc (li0 rfl) ln0)),leG⟩
  .rw[show fiB t x p=false by simpa using f1]at h33;refine fnT hTQ hmx Tryz.func8 rfl rfl (ex:= []) ?_;conv=>whnf
   refine gYn h33 ?_;exact⟨lt0 (lc (li0 rfl) (lc (li0 rfl) ln0)),leG⟩
def zmq:Go.Shelf.Ren:=⟨fun|4=>166|n=>n,fun|22=>26|25=>48|n=>n,fun|n=>n⟩
theorem zsy:Go.Proofs.Lays8.n4 Tryz.prog zmq where
 mixed:=Z
 f4:=⟨Tryz.f166.name,Z,Tryz.func166.trans (congrArg some Z)⟩
 t0:=Tryz.underlying0
 a0:=Tryz.isAgg0
 z0:=Tryz.sizeOf0
 v0:=Tryz.zeroValue0
 t3:=Tryz.underlying3
 a3:=Tryz.isAgg3
 z3:=Tryz.sizeOf3
 v3:=Tryz.zeroValue3
 t4:=Tryz.underlying4
 a4:=Tryz.isAgg4
 z4:=Tryz.sizeOf4
 v4:=Tryz.zeroValue4
 t9:=Tryz.underlying9
 a9:=Tryz.isAgg9
 z9:=Tryz.sizeOf9
 v9:=Tryz.zeroValue9
 t20:=Tryz.underlying20
 a20:=Tryz.isAgg20
 z20:=Tryz.sizeOf20
 v20:=Tryz.zeroValue20
 t22:=Tryz.underlying26
 a22:=Tryz.isAgg26
 z22:=Tryz.sizeOf26
 v22:=Tryz.zeroValue26
theorem zt9{w w':World}{M:Nat->Prop}{pt:Nat->Option Nat}{ow:Nat->Option Value}{S:Nat->Prop}{e:TypeId}{k:Elt}{h:Value}(hc:Core M pt ow S [] w)(hos:w'.os=w.os)(htape:w'.tape=w.tape)(hout:w'.output=w.output)
 (hsz:w.heap.size<=w'.heap.size) (hsame:∀b,b<w.heap.size->w'.heap[b]? =w.heap[b]?) (hfr:∀b,vbl h=some b->w.heap.size<=b/\b<w'.heap.size) (hb:∀V,xk w' V e k [] h):
 Ans w M pt ow S (.own 2000000) [(2000000,.buf e k [])] (.returned h) w':=by
 let ow':Nat->Option Value:=fun i=>if i=2000000 then some h else none
 have hsl:=(hb (zk w' M)).slice;have hbl:∀i b,Sx.bl (fun _=>none) ow' i=some b->i=2000000/\vbl h=some b:=fun i b e=>by
  by_cases hi:i=2000000
  .refine⟨hi,?_⟩;subst hi;simp only[Sx.bl,ow',if_true]at e;obtain⟨a,n,c,rfl⟩:=hsl;cases a<;>exact e
  .simp only[Sx.bl,ow',Z7 hi]at e;cases e
 have hget2:∀i,hget [(2000000,.buf e k [])] i=if 2000000=i then .buf e k []else .dead :=fun i=>by rw[zd];rfl
 refine⟨h,fun b=>M b\/vbl h=some b,fun _=>none,ow',S,rfl,?_,?_,?_,?_⟩
 .exact {
   fresh:=fun b hb=>hb.elim (fun hb=>Nat.lt_of_lt_of_le (hc.fresh b hb) hsz) fun hb=>(hfr b hb).2
   mt:=fun i b e=>.inr (hbl i b e).2
   inj:=fun i k b e1 e2=>by rw[(hbl i b e1).1,(hbl k b e2).1]
   gm:=fun b hb=>.inl (hc.gm b hb)
   gd:=fun i b e hS=>by
    have h1:=(hfr b (hbl i b e).2).1;have h2:=hc.fresh b (hc.gm b hS);omega
   dpt:=fun i b e=>by cases e
   dow:=fun i x e=>by
    by_cases hi:i=2000000
    .subst hi;rw[hget2,Z6 rfl];rfl
    .simp only[ow',Z7 hi]at e;cases e
   blk:=fun i=>by
    rw[hget2];split
    .rename_i e;subst e;exact⟨h,by simp[ow'],hb _⟩
    .trivial}
 .intro i l b cs T hl hb';cases hb'
 .refine⟨hsl,fun x hx=>?_⟩;have:some h=some x:=by simpa[ow']using hx
  exact Option.some.inj this
 .exact {
   os:=hos,tape:=htape,output:=hout,size:=hsz
   same:=fun b hb _ _=>hsame b hb
   mm:=fun _ h=>.inl h,mn:=fun b h=>h.elim .inl fun h=>.inr (hfr b h).1,sn:=fun _ h=>.inl h,lept:=fun _ _ h=>by cases h
   leow:=fun i x hx=>by
    by_cases hi:i=2000000
    .have hx2:h=x:=by
      have:ow' i=some h:=by simp[ow',hi]
      rw[this]at hx;exact Option.some.inj hx
     subst hx2;exact .inr ⟨fun b hb=>.inl (hfr b hb).1,O⟩
    .simp only[ow',Z7 hi]at hx;cases hx}
theorem k49(n:Nat)(hn:n<=1000000):Fn 166 [] [.nilsl,.int .i64 n] (.own 2000000) [(2000000,.buf 48 .iv [])]:=by
 refine⟨⟨_,Tryz.func166,rfl,rfl⟩,fun w M pt ow S vs hc hk hv=>?_⟩
 match vs,hv with
 | [a,b],⟨ha,hb,_⟩=>
   obtain rfl:a=.slice none 0 0:=ha;obtain rfl:b=.int .i64 n:=hb;by_cases h0:n=0
   .subst h0;refine(Any8.slices_Grow_room zsy none 0 0 0 w (qI _) O O (qI _)).mono ?_;rintro e w' ⟨rfl,rfl⟩;exact zt9 hc rfl rfl rfl (qI _) (fun _ _=>rfl) (fun b hb=>by cases hb) fun V=>.inl ⟨rfl,rfl⟩
   .refine(Any8.slices_Grow_grow zsy Tryz.t48 _ Tryz.type48 rfl OA none 0 0 n [] w (qI _) O (by show(0+n)*88<=_;omega) O rfl (fun _=>rfl) (fun a h=>by cases h)).mono ?_;rintro e w' ⟨rfl,hw⟩;rw[qP,Nat.sub_zero]at hw;have hex:=Ext.alloc w.drew (.cells (#[]++qQ (Value.cells (.agg #[.bool false,.slice none 0 0,.int .i64 0,.bool false,.slice none 0 0,.int .i64 0,.bool false])) n++qQ (Value.cells (.agg #[.bool false,.slice none 0 0,.int .i64 0,.bool false,.slice none 0 0,.int .i64 0,.bool false])) (grownCap w n 0 48-n)) 48);have hw:w'=w.drew.alloc (.cells (#[]++qQ (Value.cells (.agg #[.bool false,.slice none 0 0,.int .i64 0,.bool false,.slice none 0 0,.int .i64 0,.bool false])) n++qQ (Value.cells (.agg #[.bool false,.slice none 0 0,.int .i64 0,.bool false,.slice none 0 0,.int .i64 0,.bool false])) (grownCap w n 0 48-n)) 48):=hw;rw[qP];show Ans w M pt ow S (.own 2000000) [(2000000,.buf 48 .iv [])] (.returned (.slice (some ⟨w.heap.size,0,none⟩) 0 (grownCap w n 0 48))) w';have hcap:=grownCap_ge w n 0 48;have hcm:=grownCap_le_maxLen w n 0 48 (by unfold maxLen;omega);rw[<-hw]at hex;have hsz:w'.heap.size=w.heap.size+1:=by rw[hw];simp
    refine zt9 hc hex.os hex.tape hex.output hex.size (fun b hb=>hex.block b hb) (fun b hb=>?_) fun V=>.inr ⟨w.heap.size,_,_,rfl,by rw[hw];exact heap_alloc_new w.drew _,qE _,hcm,?_,fun i x hx=>by simp at hx⟩
    .obtain rfl:w.heap.size=b:=by simpa[vbl]using hb
     omega
    .simp only[Array.size_append,size_zeroCells];show 0+n*7+(grownCap w n 0 48-n)*7=grownCap w n 0 48*7;omega
def TC:Tab:= {TJ with nb:=(166,1)::TJ.nb}
theorem hTC:TabOK Tryz.prog TC:=zew Z Z
noncomputable def zyl:Code:=Tryz.f90.body.getD .skip
theorem k15(L:List (List Iv))(hL:L.flatten.length<=1000000)(hl:L.length<=1000):Fn 90 [] [.sl .vs L] (.sl .iv L.flatten) []:=by
 have hle:∀i,(L.take i).flatten.length <=L.flatten.length:=fun i=>by
  have h:L.flatten=(L.take i).flatten ++(L.drop i).flatten :=by rw[<-List.flatten_append,qL]
  rw[h,qG];omega
 have hst:∀i(x:List Iv),L[i]? =some x->(L.take (i+1)).flatten =(L.take i).flatten ++x:=fun i x h=>by
  rw[qH,h];simp
 refine qv (code:=zyl) hTC hmx Tryz.func90 rfl rfl (ex:= []) ?_;conv=>whnf
 refine wm hTC hmx 3 (fun _:Unit=>⟨[.sl .vs L,.any,.any,.int .i64 L.flatten.length]++yo 32,[(24,.free),(33,.dead),(100033,.free),(1500033,.free)]⟩) (fun _=>Z) ?_ (fun _=>?_)
 .conv=>whnf
  refine⟨Nat,fun i=>i<=L.length,fun i=> [(11,.int .i64 i),(3,.int .i64 (L.take i).flatten.length)],fun _=> [],fun i=>L.length-i,0,qE _,?_,fun i hi=>?_⟩
  .exact KZ0
  refine gYe ?_;have hi:i<=L.length:=hi;refine brI (fun h7=>?_) (fun h7=>?_)
  .conv=>whnf
   have hi:i<L.length:=by simp only[Z4]at h7;omega
   refine⟨⟨O,O⟩,fun(x:List Iv)hx=>?_⟩;have hx:L[i]? =some x:=by simpa using hx
   have h1:=hst i x hx;have h2:=hle (i+1);have h3:(L.take (i+1)).flatten.length =(L.take i).flatten.length +x.length:=by rw[h1,qG]
   have h4:IntKind.i64.wrap (((L.take i).flatten.length :Int)+(x.length:Int))=((L.take (i+1)).flatten.length :Int):=by rw[wI O];omega
   conv=>whnf
   rw[h4];conv=>whnf
   refine⟨i+1,by show i+1<=L.length;omega,by show L.length-(i+1)<L.length-i;omega,?_⟩;exact KZ0
  .conv=>whnf
   have hi:i=L.length:=by simp only[Z5]at h7;omega
   subst hi;rw[qO];refine⟨(),?_⟩;exact KZ0
 refine wm hTC hmx 1 (fun _:Unit=>⟨[.sl .vs L,.any,.any,.any,.any,.any,.own 24]++yo 29,[(24,.buf 48 .iv []),(33,.dead),(100033,.free),(1500033,.free)]⟩) (fun _=>Z) ?_ (fun _=>?_)
 .conv=>whnf
  refine⟨[],[.buf 48 .iv []],.own 2000000,k49 _ hL,?_⟩;conv=>whnf
  refine⟨(),?_⟩;exact KZ0
 refine zbx 33 24 Z ?_;show SemOK Tryz.prog TC Tryz.f90.results.toList [] (.sl .iv L.flatten) [] (zd2 1 (zd2 3 zyl)) ⟨[.sl .vs L,.any,.any,.any,.any,.any,.own 33]++yo 29,[(33,.buf 48 .iv []),(24,.dead),(100033,.free),(1500033,.free)]⟩;refine vr hTC hmx ?_;conv=>whnf
 refine⟨Nat,fun i=>i<=L.length,fun i=> [(27,.int .i64 i),(6,.own 33)],fun i=> [(33,.buf 48 .iv (L.take i).flatten)],fun i=>L.length-i,0,qE _,?_,fun i hi=>?_⟩
 .exact KZ0
 refine gYe ?_;have hi:i<=L.length:=hi;refine brI (fun h7=>?_) (fun h7=>?_)
 .conv=>whnf
  have hi:i<L.length:=by simp only[Z4]at h7;omega
  refine⟨⟨O,O⟩,fun(x:List Iv)hx=>?_⟩;have hx:L[i]? =some x:=by simpa using hx
  have h1:=hst i x hx;have h2:=hle (i+1);have h3:(L.take (i+1)).flatten.length =(L.take i).flatten.length +x.length:=by rw[h1,qG]
  conv=>whnf
  refine⟨O,?_⟩;conv=>whnf
  refine⟨i+1,by show i+1<=L.length;omega,by show L.length-(i+1)<L.length-i;omega,?_⟩;exact KZ0
 .conv=>whnf
  have hi:i=L.length:=by simp only[Z5]at h7;omega
  subst hi;rw[qO];exact⟨lr rfl,lh0⟩
