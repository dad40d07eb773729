/- gradient.Tape: the values and the derivatives of the results. -/
import Derived.Test.YtlbmkjbgfkgcmaaGreatDoorTQc
set_option linter.all false
open Bool renaming and_eq_true->qA
open List renaming getElem?_eq_some_iff->q0,getElem?_mapIdx->q1,mem_of_getElem?->q2,ext_getElem?->q3,replicate->q4,take_of_length_le->qB,take_add_one->qC,getElem?_map->qD,length_take->qE
open Go.Region renaming binds->qF
namespace Go.Proofs.YtlbmkjbgfkgcmaaGreatDoor
open Go Go.Sx
set_option maxRecDepth 100000
set_option maxHeartbeats 8000000
def rwC(G:List (List Iv))(i k:Nat):List (List Iv):=G.mapIdx fun a r=>if a<k then r.take (i+1)else r.take i
theorem qaa(G:List (List Iv))(i k:Nat):(rwC G i k).length =G.length:=by simp[rwC]
theorem zse{G:List (List Iv)}{i k:Nat}{r:List Iv}(h:G[k]? =some r):(rwC G i k)[k]? =some (r.take i):=by simp[rwC,h]
theorem zsd{G:List (List Iv)}{i k:Nat}{r:List Iv}{y:Iv}(h:G[k]? =some r)(hy:r[i]? =some y):(rwC G i k).set k (r.take i++ [y])=rwC G i (k+1):=by
 apply q3;intro a;have hk:=(q0.1 h).1;by_cases e:k=a
 .subst e;rw[List.getElem?_set_self (by rw[qaa];exact hk)];simp[rwC,h,qC,hy]
 .rw[List.getElem?_set_ne e];simp only[rwC,q1]
  congr 1
  funext r
  by_cases h1:a<k
  .rw[Z6 h1,Z6 O]
  .rw[Z7 h1,Z7 O]
theorem zoh(G:List (List Iv))(i:Nat):rwC G i G.length=rwC G (i+1) 0:=by
 apply q3;intro a;simp only[rwC,q1]
 cases ha:G[a]? with
 |none=>rfl
 |some s=>
  have:=(q0.1 ha).1;simp only[Option.map_some,Option.some.injEq];rw[Z6 this,Z7 O]
theorem zog(G:List (List Iv)):rwC G 0 0=q4 G.length []:=by
 apply q3;intro a;simp only[rwC,q1,List.getElem?_replicate]
 cases ha:G[a]? with
 |none=>rw[Z7 (by have:=List.getElem?_eq_none_iff.1 ha;omega)];rfl
 |some s=>rw[Z6 (q0.1 ha).1];simp
theorem zsf{G:List (List Iv)}{m:Nat}(h:∀r∈G,r.length=m):rwC G m 0=G:=by
 apply q3;intro a;simp only[rwC,q1]
 cases ha:G[a]? with
 |none=>rfl
 |some s=>
  simp only[Option.map_some,Option.some.injEq];rw[Z7 O,qB (by rw[h s (q2 ha)];exact Nat.le_refl _)]
theorem zko:zhq JT:=fun _ _ _ _ _ _ hV hj j hl=>(hj j hl).cmono hV
theorem i26t:Tryz.prog.info? 26=some Tryz.t26:=Tryz.type26
theorem ti26:TIOK Tryz.prog 26 ⟨3,1,[],48,7,0,some .vs,.i64,[.nilsl],24,false⟩:=hTQ.ti 26 _ (q2 (i:=9) rfl)
theorem spl{α:Type}{l:List α}{o:α}(i:Nat)(h:l[i]? =some o):l=l.take i++o::l.drop (i+1):=by
 have h1:=(q0.1 h).2;rw[<-h1,List.getElem_cons_drop,List.take_append_drop]
theorem zhh{v:Value}{y:AV}:∀l:List AV,endL v y l l
 | []=>trivial
 | _::l=>⟨.inr (.inl rfl),zhh l⟩
noncomputable def oG:Array Oper:=Go.Sx.opsOf 12 (Tryz.f8.body.getD .skip)
def SGb(t:Tp)(vs:List Iv)(p:Int)(m ci:Nat)(c:List Iv)(k0:Int)(n b0 i:Nat)(hs:List Value)(rows:List (List Iv))(hv:Value)(y:Iv)(rw0:List Iv)(h':Value)(L:Nat->Bool):St:=
 ⟨[.any,.any,.any,.int .i64 p,.ptr 4 0,.any,.any,.any,.any,.any,.sl .iv vs,.val (.slice (some ⟨b0,0,none⟩) n n),.int .i64 ci,.sl .iv c,.int .i64 i,.int .i64 k0,.any,.any,.any,.any,.any,.any,.any,.any,.any,.any,.any,.any,.any,.any,.any,.any,.any,.any,.any,.any,.any,.any,.any,.any,.any,.any,.int .i64 m,.int .i64 ci,.any,.any,.any,.any,.any,.any,.any,.any,.sl .int t.outs,.int .i64 n,.int .i64 i,.any,.any,.any,.any,(bif L 0 then .val (.slice (some ⟨b0,0,none⟩) n n)else .any),(bif L 1 then .int .i64 i else .any),(bif L 2 then .val (.slice (some ⟨b0,0,none⟩) n n)else .any),(bif L 3 then .int .i64 i else .any),(bif L 4 then .val (.pointer (some ⟨b0,i,none⟩))else .any),(bif L 5 then .val hv else .any),(bif L 6 then .sl .iv c else .any),(bif L 7 then .int .i64 k0 else .any),(bif L 8 then .rp .iv y 0 else .any),(bif L 9 then .agg (ivC y)else .any),(bif L 10 then .sl .iv [y]else .any),(bif L 11 then .val h' else .any),(bif L 12 then .val (.pointer (some ⟨b0,i,none⟩))else .any),.any,.any,.any,.any,.any,.any,.any,.any,.any,.any,.any,.any,.any,.any,.any,.any,.any,.any,.any],
  [(4,.cells (tpC t)),(41,.free),(70,.free),(100070,.free),(1500070,.free),(87,.free),(100087,.free),(1500087,.free),(qi,.gst (bif L 13 then yn JT 26 48 .iv b0 n (hs.set i h') (rows.set i (rw0++ [y])) none else bif L 11 then yn JT 26 48 .iv b0 n hs rows (some (i,h',rw0++ [y]))else yn JT 26 48 .iv b0 n hs rows none))]⟩
def SG(t:Tp)(vs:List Iv)(p:Int)(m ci:Nat)(c:List Iv)(k0:Int)(n b0 i:Nat)(hs:List Value)(rows:List (List Iv))(hv:Value)(y:Iv)(rw0:List Iv)(L:Nat->Bool)(K:St):Prop:=∃h':Value,K=SGb t vs p m ci c k0 n b0 i hs rows hv y rw0 h' L
section
variable (t:Tp) (vs:List Iv) (p:Int) (m ci:Nat) (c:List Iv) (k0:Int) (n b0 i:Nat) (hs:List Value) (rows:List (List Iv)) (hv:Value) (y:Iv) (rw0:List Iv) (h':Value) (L:Nat->Bool)
theorem Go0(h0:L 0=false):∀o,oG[0]? =some o->OpT Tryz.prog o (SGb t vs p m ci c k0 n b0 i hs rows hv y rw0 h' L) (SGb t vs p m ci c k0 n b0 i hs rows hv y rw0 h' (je L 0)):=by
 intro o ho;have ho:some _=some o:=ho;cases ho
 unfold SGb;rw[h0];refine ka hTQ rfl ?_;conv=>whnf
 exact rfl
theorem Go1(h1:L 1=false):∀o,oG[1]? =some o->OpT Tryz.prog o (SGb t vs p m ci c k0 n b0 i hs rows hv y rw0 h' L) (SGb t vs p m ci c k0 n b0 i hs rows hv y rw0 h' (je L 1)):=by
 intro o ho;have ho:some _=some o:=ho;cases ho
 unfold SGb;rw[h1];refine ka hTQ rfl ?_;conv=>whnf
 exact rfl
theorem Go2(h2:L 2=false):∀o,oG[2]? =some o->OpT Tryz.prog o (SGb t vs p m ci c k0 n b0 i hs rows hv y rw0 h' L) (SGb t vs p m ci c k0 n b0 i hs rows hv y rw0 h' (je L 2)):=by
 intro o ho;have ho:some _=some o:=ho;cases ho
 unfold SGb;rw[h2];refine ka hTQ rfl ?_;conv=>whnf
 exact rfl
theorem Go3(h3:L 3=false):∀o,oG[3]? =some o->OpT Tryz.prog o (SGb t vs p m ci c k0 n b0 i hs rows hv y rw0 h' L) (SGb t vs p m ci c k0 n b0 i hs rows hv y rw0 h' (je L 3)):=by
 intro o ho;have ho:some _=some o:=ho;cases ho
 unfold SGb;rw[h3];refine ka hTQ rfl ?_;conv=>whnf
 exact rfl
theorem Go4(h4:L 4=false)(h2:L 2=true)(h3:L 3=true)(hin:i<n):∀o,oG[4]? =some o->OpT Tryz.prog o (SGb t vs p m ci c k0 n b0 i hs rows hv y rw0 h' L) (SGb t vs p m ci c k0 n b0 i hs rows hv y rw0 h' (je L 4)):=by
 intro o ho;have ho:some _=some o:=ho;cases ho
 unfold SGb;rw[h4,h2,show je L 4 2=_ from h2,h3,show je L 4 3=_ from h3];exact(zfw (j:=(i:Int)) rfl rfl rfl Tryz.underlying30 Tryz.type26 rfl rfl rfl O O).to rfl
theorem Go5(h5:L 5=false)(h4:L 4=true)(h11:L 11=false)(h13:L 13=false)(hh:hs[i]? =some hv):∀o,oG[5]? =some o->OpT Tryz.prog o (SGb t vs p m ci c k0 n b0 i hs rows hv y rw0 h' L) (SGb t vs p m ci c k0 n b0 i hs rows hv y rw0 h' (je L 5)):=by
 intro o ho;have ho:some _=some o:=ho;cases ho
 unfold SGb;rw[h5,h4,show je L 5 4=_ from h4,h11,show je L 5 11=_ from h11,h13,show je L 5 13=_ from h13];exact(zot (j:=i) rfl rfl rfl ti26 rfl rfl rfl rfl hh).to rfl
theorem Go6(h6:L 6=false):∀o,oG[6]? =some o->OpT Tryz.prog o (SGb t vs p m ci c k0 n b0 i hs rows hv y rw0 h' L) (SGb t vs p m ci c k0 n b0 i hs rows hv y rw0 h' (je L 6)):=by
 intro o ho;have ho:some _=some o:=ho;cases ho
 unfold SGb;rw[h6];refine ka hTQ rfl ?_;conv=>whnf
 exact rfl
theorem Go7(h7:L 7=false):∀o,oG[7]? =some o->OpT Tryz.prog o (SGb t vs p m ci c k0 n b0 i hs rows hv y rw0 h' L) (SGb t vs p m ci c k0 n b0 i hs rows hv y rw0 h' (je L 7)):=by
 intro o ho;have ho:some _=some o:=ho;cases ho
 unfold SGb;rw[h7];refine ka hTQ rfl ?_;conv=>whnf
 exact rfl
theorem Go8(h8:L 8=false)(h6:L 6=true)(h7:L 7=true)(h11:L 11=false)(h13:L 13=false)(hk:0<=k0)(hy:c[k0.toNat]? =some y):∀o,oG[8]? =some o->OpT Tryz.prog o (SGb t vs p m ci c k0 n b0 i hs rows hv y rw0 h' L) (SGb t vs p m ci c k0 n b0 i hs rows hv y rw0 h' (je L 8)):=by
 intro o ho;have ho:some _=some o:=ho;cases ho
 unfold SGb;rw[h8,h6,show je L 8 6=_ from h6,h7,show je L 8 7=_ from h7,h11,show je L 8 11=_ from h11,h13,show je L 8 13=_ from h13];refine ka hTQ rfl ?_;conv=>whnf
 have hlt:=(q0.1 hy).1;refine⟨⟨O,O⟩,fun(x:Iv)hx=>?_⟩;obtain rfl:y=x:=by
  have hx:c[k0.toNat]? =some x:=hx;rw[hy]at hx;exact Option.some.inj hx
 conv=>whnf
 exact rfl
theorem Go9(h9:L 9=false)(h8:L 8=true):∀o,oG[9]? =some o->OpT Tryz.prog o (SGb t vs p m ci c k0 n b0 i hs rows hv y rw0 h' L) (SGb t vs p m ci c k0 n b0 i hs rows hv y rw0 h' (je L 9)):=by
 intro o ho;have ho:some _=some o:=ho;cases ho
 unfold SGb;rw[h9,h8,show je L 9 8=_ from h8];refine ka hTQ rfl ?_;conv=>whnf
 exact rfl
theorem Go10(h10:L 10=false)(h9:L 9=true):∀o,oG[10]? =some o->OpT Tryz.prog o (SGb t vs p m ci c k0 n b0 i hs rows hv y rw0 h' L) (SGb t vs p m ci c k0 n b0 i hs rows hv y rw0 h' (je L 10)):=by
 intro o ho;have ho:some _=some o:=ho;cases ho
 unfold SGb;rw[h10,h9,show je L 10 9=_ from h9];refine ka hTQ rfl ?_;conv=>whnf
 exact rfl
theorem Go11(h11:L 11=false)(h5:L 5=true)(h10:L 10=true)(h13:L 13=false)(hh:hs[i]? =some hv)(hr:rows[i]? =some rw0)(hlr:rw0.length<=100000):∀o,oG[11]? =some o->OpX Tryz.prog o (SGb t vs p m ci c k0 n b0 i hs rows hv y rw0 h' L) fun K=>∃h'',K=SGb t vs p m ci c k0 n b0 i hs rows hv y rw0 h'' (je L 11):=by
 intro o ho;have ho:some _=some o:=ho;cases ho
 unfold SGb;rw[h11,h5,show je L 11 5=_ from h5,h10,show je L 11 10=_ from h10,h13,show je L 11 13=_ from h13];refine(zor (k:=.iv) (i:=i) (row:=rw0) (y:=y) rfl rfl rfl rfl rfl rfl zko rfl rfl rfl rfl rfl rfl rfl rfl hh hr ?_ ?_).mono fun K h=>?_
 .show(_+1)*88<=_;omega
 .decide
 .obtain⟨h'',rfl⟩:=h;exact⟨h'',rfl⟩
theorem Go12(h12:L 12=false)(h0:L 0=true)(h1:L 1=true)(hin:i<n):∀o,oG[12]? =some o->OpT Tryz.prog o (SGb t vs p m ci c k0 n b0 i hs rows hv y rw0 h' L) (SGb t vs p m ci c k0 n b0 i hs rows hv y rw0 h' (je L 12)):=by
 intro o ho;have ho:some _=some o:=ho;cases ho
 unfold SGb;rw[h12,h0,show je L 12 0=_ from h0,h1,show je L 12 1=_ from h1];exact(zfw (j:=(i:Int)) rfl rfl rfl Tryz.underlying30 Tryz.type26 rfl rfl rfl O O).to rfl
theorem Go13(h13:L 13=false)(h12:L 12=true)(h11:L 11=true)(hi:i<hs.length):∀o,oG[13]? =some o->OpT Tryz.prog o (SGb t vs p m ci c k0 n b0 i hs rows hv y rw0 h' L) (SGb t vs p m ci c k0 n b0 i hs rows hv y rw0 h' (je L 13)):=by
 intro o ho;have ho:some _=some o:=ho;cases ho
 unfold SGb;rw[h13,h12,show je L 13 12=_ from h12,h11,show je L 13 11=_ from h11];exact(zos (i:=i) rfl rfl rfl zko i26t rfl rfl rfl rfl hi).to rfl
theorem Gstep(hin:i<n)(hh:hs[i]? =some hv)(hk:0<=k0)(hy:c[k0.toNat]? =some y)(hr:rows[i]? =some rw0)(hlr:rw0.length<=100000)(hi:i<hs.length)
 (q:Nat) (o:Oper) (hcl:∀j oj,oG[j]? =some oj->L j=true->∀e∈oj.after,qF .any e=true->L e.on=true) (ho:oG[q]? =some o) (hL:L q=false)
 (hd:∀e∈o.after,qF .any e=true->L e.on=true):∀K,SG t vs p m ci c k0 n b0 i hs rows hv y rw0 L K->OpX Tryz.prog o K (SG t vs p m ci c k0 n b0 i hs rows hv y rw0 (je L q)):=by
 rintro K ⟨h',rfl⟩;have dpq:∀ {j:Nat},oG[j]? =some o->∀q,((oG[j]?.map fun o=>o.after.toList.any fun e=>qF .any e&&Nat.beq e.on q)=some true)->L q=true:=fun {j}ho q hq=>zt8 ho hd q hq
 have cl:∀a q,((oG[a]?.map fun o=>o.after.toList.any fun e=>qF .any e&&Nat.beq e.on q)=some true)->L a=true->L q=true:=fun a q hq ha=>zy2 hcl hq ha
 have nf:∀a q,L q=false->(L a=true->L q=true)->L a=false:=fun a q h1 h2=>by
  cases h:L a with
  |false=>rfl
  |true=>rw[h2 h]at h1;cases h1
 match q,ho,hL with
 |0,ho,hL=>
  exact OpT.x (Go0 t vs p m ci c k0 n b0 i hs rows hv y rw0 h' L hL o ho) ⟨h',rfl⟩
 |1,ho,hL=>
  exact OpT.x (Go1 t vs p m ci c k0 n b0 i hs rows hv y rw0 h' L hL o ho) ⟨h',rfl⟩
 |2,ho,hL=>
  exact OpT.x (Go2 t vs p m ci c k0 n b0 i hs rows hv y rw0 h' L hL o ho) ⟨h',rfl⟩
 |3,ho,hL=>
  exact OpT.x (Go3 t vs p m ci c k0 n b0 i hs rows hv y rw0 h' L hL o ho) ⟨h',rfl⟩
 |4,ho,hL=>
  have g2:=dpq ho 2 OB;have g3:=dpq ho 3 OB;exact OpT.x (Go4 t vs p m ci c k0 n b0 i hs rows hv y rw0 h' L hL g2 g3 hin o ho) ⟨h',rfl⟩
 |5,ho,hL=>
  have g4:=dpq ho 4 OB;have g11:=nf 11 5 hL fun h=>cl 11 5 OB (h)
  have g13:=nf 13 5 hL fun h=>cl 11 5 OB (cl 13 11 OB (h))
  exact OpT.x (Go5 t vs p m ci c k0 n b0 i hs rows hv y rw0 h' L hL g4 g11 g13 hh o ho) ⟨h',rfl⟩
 |6,ho,hL=>
  exact OpT.x (Go6 t vs p m ci c k0 n b0 i hs rows hv y rw0 h' L hL o ho) ⟨h',rfl⟩
 |7,ho,hL=>
  exact OpT.x (Go7 t vs p m ci c k0 n b0 i hs rows hv y rw0 h' L hL o ho) ⟨h',rfl⟩
 |8,ho,hL=>
  have g6:=dpq ho 6 OB;have g7:=dpq ho 7 OB;have g11:=nf 11 8 hL fun h=>cl 9 8 OB (cl 10 9 OB (cl 11 10 OB (h)))
  have g13:=nf 13 8 hL fun h=>cl 9 8 OB (cl 10 9 OB (cl 11 10 OB (cl 13 11 OB (h))))
  exact OpT.x (Go8 t vs p m ci c k0 n b0 i hs rows hv y rw0 h' L hL g6 g7 g11 g13 hk hy o ho) ⟨h',rfl⟩
 |9,ho,hL=>
  have g8:=dpq ho 8 OB;exact OpT.x (Go9 t vs p m ci c k0 n b0 i hs rows hv y rw0 h' L hL g8 o ho) ⟨h',rfl⟩
 |10,ho,hL=>
  have g9:=dpq ho 9 OB;exact OpT.x (Go10 t vs p m ci c k0 n b0 i hs rows hv y rw0 h' L hL g9 o ho) ⟨h',rfl⟩
 |11,ho,hL=>
  have g5:=dpq ho 5 OB;have g10:=dpq ho 10 OB;have g13:=nf 13 11 hL fun h=>cl 13 11 OB (h)
  exact Go11 t vs p m ci c k0 n b0 i hs rows hv y rw0 h' L hL g5 g10 g13 hh hr hlr o ho
 |12,ho,hL=>
  have g0:=dpq ho 0 OB;have g1:=dpq ho 1 OB;exact OpT.x (Go12 t vs p m ci c k0 n b0 i hs rows hv y rw0 h' L hL g0 g1 hin o ho) ⟨h',rfl⟩
 |13,ho,hL=>
  have g12:=dpq ho 12 OB;have g11:=dpq ho 11 OB;exact OpT.x (Go13 t vs p m ci c k0 n b0 i hs rows hv y rw0 h' L hL g12 g11 hi o ho) ⟨h',rfl⟩
 |q+14,ho,_=>
  have hs:oG.size=14:=Z;have:=(Array.getElem?_eq_some_iff.1 ho).1;omega
end
def gtB(t:Tp)(x:List Iv)(m p:Int):Bool:=fiB t x p&&(decide (0<=m)&&decide (m<=t.ins))
def gtC(t:Tp)(vs:List Iv)(m:Nat)(p k:Int):List Iv:=(List.range m).map fun(i:Nat)=>gI (coS t vs i p) k
def gtV(t:Tp)(x:List Iv)(m p:Int):List Iv:=if gtB t x m p=true then t.outs.map (gI (yw p t.ops x))else []
def gtD(t:Tp)(x:List Iv)(m p:Int):List (List Iv):=if gtB t x m p=true then t.outs.map (gtC t (yw p t.ops x) m.toNat p)else []
noncomputable def qfx:Code:=Tryz.f8.body.getD .skip
abbrev fr8(t:Tp):Hp:= [(4,.cells (tpC t)),(41,.free),(70,.free),(100070,.free),(1500070,.free),(87,.free),(100087,.free),(1500087,.free)]
theorem q8s(t:Tp)(ht:tvB t=true)(vs:List Iv)(m:Nat)(p:Int)(hv:∀y∈vs,RI y)(hl:(vs.length:Int)=t.ins+t.ops.length)(hm:(m:Int)<=t.ins)(d:Nat)(hd:d=3):
 SemOK Tryz.prog TQ Tryz.f8.results.toList [] (.tup [.sl .iv (t.outs.map (gI vs)),.sl .vs (t.outs.map (gtC t vs m p))]) G0 (zh4 d qfx) ⟨[.any,.any,.int .i64 m,.int .i64 p,.ptr 4 0]++uo 5++ [.sl .iv vs]++uo 80,fr8 t++G0⟩:=by
 obtain⟨⟨a1,a2,a3,a4⟩,a5,a6⟩:=wo ht;subst hd;obtain⟨G,hG⟩:∃G,t.outs.map (gtC t vs m p)=G:=⟨_,rfl⟩;have hGl:G.length=t.outs.length:=by rw[<-hG];simp
 have hGi:∀(k:Nat)(o:Int),t.outs[k]? =some o->G[k]? =some (gtC t vs m p o):=fun k o h=>by rw[<-hG,qD,h];rfl
 have hGm:∀r∈G,r.length=m:=fun r hr=>by
  rw[<-hG]at hr;obtain⟨o,_,rfl⟩:=List.mem_map.1 hr;simp[gtC]
 rw[hG];refine zv2 (E:=26) (e:=48) (k:=.iv) (kk:=.vs) zko (fun r=>r) (fun _=>rfl) rfl (cap:=t.outs.length) (fun rows=>rows=G)
  (fun b0=>⟨[.any,.any,.int .i64 m,.int .i64 p,.ptr 4 0]++uo 5++ [.sl .iv vs,.val (.slice (some ⟨b0,0,none⟩) t.outs.length t.outs.length)]++uo 26++ [.ptr 4 2,.sl .int t.outs,.int .i64 t.outs.length,.val (.slice (some ⟨b0,0,none⟩) t.outs.length t.outs.length)]++uo 49,fr8 t++ [(qi,.gst (yn JT 26 48 .iv b0 t.outs.length (q4 t.outs.length (.slice none 0 0)) (q4 t.outs.length []) none))]⟩)
  (fun b0 hs rows=>⟨uo 4++ [.ptr 4 0]++uo 5++ [.sl .iv vs,.val (.slice (some ⟨b0,0,none⟩) t.outs.length t.outs.length)]++uo 79,fr8 t++ [(qi,.gst (yn JT 26 48 .iv b0 t.outs.length hs rows none))]⟩)
  (fun rows=>uo 4++ [.ptr 4 0]++uo 5++ [.sl .iv vs,.sl .vs rows]++uo 79) ?_ (fun b0=>?_) (fun b0 hs rows=>Z) (fun b0 hs rows h=>⟨rfl,?_⟩) (fun b0 hs rows h=>?_)
 .refine zli hTQ (σa:=⟨[.any,.any,.int .i64 m,.int .i64 p,.ptr 4 0]++uo 5++ [.sl .iv vs]++uo 27++ [.ptr 4 2,.sl .int t.outs,.int .i64 t.outs.length]++uo 50,fr8 t++G0⟩) (n:=t.outs.length) (e:=48) (k:=.iv) _ _ (spl 3 rfl) rfl zko rfl rfl rfl rfl rfl Tryz.underlying30 Tryz.type26 rfl rfl OA O _ ?_ (fun b0=>?_)
  .conv=>whnf
   exact rfl
  .conv=>whnf
   exact rfl
 .refine un hTQ hmx [12] _ _ _ _ _ ?_;conv=>whnf
  refine⟨Nat×List Value,fun y=>y.1<=m/\y.2.length=t.outs.length,fun y=> [(12,.any),(13,.any),(14,.any),(15,.any),(43,.int .i64 y.1),(2,.any),(38,.any),(39,.any),(40,.any),(41,.any)],fun y=> [(70,.free),(100070,.free),(1500070,.free),(qi,.gst (yn JT 26 48 .iv b0 t.outs.length y.2 (rwC G y.1 0) none))],fun y=>m-y.1,(0,q4 t.outs.length (.slice none 0 0)),⟨Nat.zero_le _,OC⟩,?_,?_⟩
  ·((conv=>whnf);refine And.intro ?_ ?_;repeat' first|refine lc ?_ ?_|refine lh1 ?_ ?_|refine bc0 ?_|exact KXZ|refine lg0 ?_|refine lt0 ?_)
   exact bg0 (by rw[zog,hGl])
  rintro⟨i,hs⟩ ⟨hi,hh⟩;have hi:i<=m:=hi;have hh:hs.length=t.outs.length:=hh;refine gYe ?_;refine brI (fun c1=>?_) (fun c1=>?_)
  .have c1:i<m:=by have:=Z0 c1;omega
   have h35:=q35 t ht vs i p hv hl;have hcl:((coS t vs i p).length :Int)=t.ins+t.ops.length:=by unfold coS;rw[ze6];simp[coI];omega
   have hGy:∀(k:Nat)(o:Int),t.outs[k]? =some o->(gtC t vs m p o)[i]? =some (gI (coS t vs i p) o):=fun k o _=>by simp[gtC,c1]
   generalize coS t vs i p=c at*;conv=>whnf
   refine⟨[.gst _],_,h35.lift zko zh7.stab zh7.mono,?_⟩;conv=>whnf
   refine⟨Nat×List Value,fun y=>y.1<=t.outs.length/\y.2.length=t.outs.length,fun y=> [(54,.int .i64 y.1),(14,.any),(15,.any),(2,.any),(38,.any),(39,.any),(40,.any),(41,.any),(44,.any),(45,.any),(46,.any),(47,.any),(48,.any),(49,.any),(50,.any),(51,.any)],fun y=> [(70,.free),(100070,.free),(1500070,.free),(qi,.gst (yn JT 26 48 .iv b0 t.outs.length y.2 (rwC G i y.1) none))],fun y=>t.outs.length-y.1,(0,hs),⟨Nat.zero_le _,hh⟩,?_,?_⟩
   .exact KZ0
   rintro⟨k,hs⟩ ⟨hk,hh⟩;have hk:k<=t.outs.length:=hk;have hh:hs.length=t.outs.length:=hh;refine gYe ?_;refine brI (fun c2=>?_) (fun c2=>?_)
   .have c2:k<t.outs.length:=by have:=Z0 c2;omega
    obtain⟨hv',hhv⟩:∃hv,hs[k]? =some hv:=⟨_,List.getElem?_eq_getElem O⟩;conv=>whnf
    refine⟨⟨O,O⟩,fun(o:Int)ho=>?_⟩;have ho:t.outs[k]? =some o:=by simpa using ho
    have hGk:=hGi k o ho;have hgy:=hGy k o ho;obtain⟨o1,o2⟩:=a6 o (q2 ho);have hcy:=wx (vs:=c) o1 O;have haa:=zse (i:=i) hGk;have hbb:=zsd hGk hgy;conv=>whnf
    refine zky hmx (SG t vs p m i c o t.outs.length b0 k hs (rwC G i k) hv' (gI c o) ((gtC t vs m p o).take i)) (σ0:=SGb t vs p m i c o t.outs.length b0 k hs (rwC G i k) hv' (gI c o) ((gtC t vs m p o).take i) (.slice none 0 0) fun _=>false) Z ⟨_,rfl⟩ ?_ Z (fun L q o' h1 h2 h3 h4=>Gstep t vs p m i c o t.outs.length b0 k hs (rwC G i k) hv' (gI c o) ((gtC t vs m p o).take i) L c2 hhv o1 hcy haa (by rw[qE];omega) O q o' h1 h2 h3 h4) ?_
    .exact KZ0
    .rintro K ⟨h',rfl⟩;conv=>whnf
     refine⟨(k+1,hs.set k h'),⟨c2,by rw[List.length_set];exact hh⟩,by show t.outs.length-(k+1)<t.outs.length-k;omega,?_⟩
     ((conv=>whnf);refine And.intro ?_ ?_;repeat' first|refine lc ?_ ?_|refine lh1 ?_ ?_|refine bc0 ?_|exact KXZ|refine lg0 ?_|refine lt0 ?_)
     .refine ai0 ?_;rw[wI O];show(k:Int)+1=((k+1:Nat):Int);omega
     .refine bg0 ?_;rw[<-hbb];rfl
   .conv=>whnf
    have hj2:k=t.outs.length:=by have:=Z3 c2;omega
    have hn2:=zoh G i;refine⟨(i+1,hs),⟨O,hh⟩,by show m-(i+1)<m-i;omega,?_⟩
    ((conv=>whnf);refine And.intro ?_ ?_;repeat' first|refine lc ?_ ?_|refine lh1 ?_ ?_|refine bc0 ?_|exact KXZ|refine lg0 ?_|refine lt0 ?_)
    .exact ai0 (by rw[wI O];omega)
    .exact bg0 (by rw[hj2,<-hGl,hn2])
  .conv=>whnf
   have hi2:i=m:=by have:=Z3 c1;omega
   refine⟨hs,rwC G i 0,by rw[hi2];exact zsf hGm,?_⟩;exact KZ0
 .subst h;rw[hGl];exact⟨.inl rfl,.inl rfl,.inl rfl,.inl rfl,.inr (.inl rfl),.inl rfl,.inl rfl,.inl rfl,.inl rfl,.inl rfl,.inr (.inl rfl),.inr (.inr ⟨rfl,OC⟩),zhh _⟩
 .subst h;obtain⟨M,hM⟩:∃M,t.outs.map (gI vs)=M:=⟨_,rfl⟩;have hMl:M.length=t.outs.length:=by rw[<-hM];simp
  have hMs:∀i k,t.outs[i]? =some k->M.take (i+1)=M.take i++ [gI vs k]:=fun i k h=>by
   rw[qC,<-hM,qD,h];rfl
  rw[hM];clear hM;refine ww hTQ hmx ?_;conv=>whnf
  refine⟨Nat,fun i=>i<=t.outs.length,fun i=> [(77,.int .i64 i),(16,.own 87)],fun i=> [(87,.buf 48 .iv (M.take i))],fun i=>t.outs.length-i,0,Nat.zero_le _,?_,fun i hi=>?_⟩
  .exact KZ0
  have hi:i<=t.outs.length:=hi;refine gYe ?_;refine brI (fun c=>?_) (fun c=>?_)
  .have hi:i<t.outs.length:=by have c:=Z0 c;omega
   conv=>whnf
   refine⟨⟨O,O⟩,fun(k:Int)hk=>?_⟩;have hk:t.outs[i]? =some k:=by simpa using hk
   have hs:=hMs i k hk;obtain⟨k1,k2⟩:=a6 k (q2 hk);have gk:=wx (vs:=vs) k1 O;obtain⟨M',hM'⟩:∃M',M.take (i+1)=M':=⟨_,rfl⟩;have hl0:(M.take i).length <=200:=by rw[qE];omega
   rw[hM']at hs;generalize M.take i=M0 at*;generalize gI vs k=A at*;conv=>whnf
   refine⟨⟨O,O⟩,fun(A':Iv)hA'=>?_⟩;obtain rfl:A=A':=by
    have hA':vs[k.toNat]? =some A':=hA';rw[gk]at hA';exact Option.some.inj hA'
   conv=>whnf
   refine⟨OE,?_⟩;conv=>whnf
   refine⟨i+1,hi,by show t.outs.length-(i+1)<t.outs.length-i;omega,?_⟩
   ((conv=>whnf);refine And.intro ?_ ?_;repeat' first|refine lc ?_ ?_|refine lh1 ?_ ?_|refine bc0 ?_|exact KXZ|refine lg0 ?_|refine lt0 ?_)
   .exact ai0 (by rw[wI O];omega)
   .exact bb0 (by rw[hM',hs])
  .have c:i=t.outs.length:=by have c:=Z3 c;omega
   subst c;conv=>whnf
   exact⟨lt0 (lc (vp (qB O)) (lc (lr rfl) ln0)),leG⟩
theorem q8(t:Tp)(x:List Iv)(m p:Int)(h1:t.ops.length<9223372036854775808)(h2:t.outs.length<9223372036854775808)(hx:∀y∈x,RI y)(hxl:x.length<9223372036854775808):
 Fn 8 G0 [.agg (tpC t),.sl .iv x,.int .i64 m,.int .i64 p] (.tup [.sl .iv (gtV t x m p),.sl .vs (gtD t x m p)]) G0:=by
 have h33:=q33 t x p h1 h2 hx hxl;have h34:=j7 t x p h1 h2 hx hxl;by_cases hf:gtB t x m p=true
 .have hf2:=hf;unfold gtB at hf2;simp only[qA,Z4]at hf2;obtain⟨f1,f2,f3⟩:=hf2;rw[f1]at h33;unfold fiB at f1;simp only[qA,Z4]at f1;obtain⟨ht,hl,_,_⟩:=f1;have e:zpz t x p=yw p t.ops x:=by unfold zpz;rw[Z6 ⟨ht,hl⟩]
  rw[e]at h34;obtain⟨M,hM⟩:∃M:Nat,m=M:=⟨m.toNat,O⟩;subst hM;have hob:=(wo ht).2.1;rw[<-hl]at hob;have rest:=q8s t ht (yw p t.ops x) M p (zeo hob hx) (by rw[jx];omega) f3 3 rfl;unfold gtV gtD;rw[Z6 hf,Z6 hf,Int.toNat_natCast];generalize yw p t.ops x=vs at*;generalize t.outs.map (gI vs)=O1 at*;generalize t.outs.map (gtC t vs M p)=O2 at*;refine qr (code:=qfx) hTQ hmx Tryz.func8 rfl rfl (ex:= []) ?_;conv=>whnf
  refine jm hTQ hmx 3 (fun _:Unit=>⟨[.any,.any,.int .i64 M,.int .i64 p,.ptr 4 0]++uo 5++ [.sl .iv vs]++uo 80,fr8 t++G0⟩) (fun _=>Z) ?_ (fun _=>rest);clear rest;conv=>whnf
  refine gYn h33 ?_;refine brI (fun c=>absurd (show(M:Int)>t.ins from Z0 c) O) (fun _=>?_);conv=>whnf
  refine gYc h34 ?_;refine⟨(),?_⟩;exact KZ0
 .unfold gtV gtD;rw[Z7 hf,Z7 hf];unfold gtB at hf;by_cases f1:fiB t x p=true
  .rw[f1]at h33 hf;have hm:m<0\/t.ins<m:=by
    simp only[Bool.true_and,qA,Z4]at hf;omega
   refine fnT hTQ hmx Tryz.func8 rfl rfl (ex:= []) ?_;conv=>whnf
   refine gYn h33 ?_;refine brI (fun c=>?_) (fun c=>?_)
   .conv=>whnf
    exact⟨lt0 (lc (li0 rfl) (lc (li0 rfl) ln0)),leG⟩
   have c:=Z3 c;conv=>whnf
   refine brI (fun c=>?_) (fun c=>absurd (Z3 c) O);conv=>whnf
   exact⟨lt0 (lc (li0 rfl) (lc (li0 rfl) ln0)),leG⟩
  .rw[show fiB t x p=false by simpa using f1]at h33;refine fnT hTQ hmx Tryz.func8 rfl rfl (ex:= []) ?_;conv=>whnf
   refine gYn h33 ?_;exact⟨lt0 (lc (li0 rfl) (lc (li0 rfl) ln0)),leG⟩
